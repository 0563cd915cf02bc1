/- Staging. No condition. -/
import Derived.Test.YtioafciifiggaaaGreatDoorL0
import Derived.Calls
import Derived.Orders
import Derived.Below
import Derived.WalkKit
import Derived.Deep.LoopGhost
import Derived.Laws.Rows
import Derived.Laws.AppendOwn
import Derived.Laws.MakeOwn
import Derived.Laws.StructEq
import Derived.MapKept
import Derived.ChangeKeysEq
import Derived.Maps.Own
import Derived.Laws.IdiomRangeMap
import Derived.Laws.IdiomCopy
import Derived.Lib.AppendZeros
import Derived.Laws.BytesString
set_option linter.all false
namespace Go.AL
open Go.RowKit
inductive AV where
 |c (x:Value)
 |agg (xs:List AV)
 |aR (xs:List AV)
 |snap (rows:List (List AV))
 |dJ (rows:List (List AV)) (i o:Nat)
 |own (id off len:Nat)
 |sub (id i o len:Nat)
 |ptr (id i o:Nat)
 |fn (f:Fn) (first cap:List AV)
 |omap (id:Nat)
 |jF (id:Nat)
instance :Inhabited AV:=⟨.c undef⟩
def yA:Value->Bool
 | .agg _=>true
 |_=>false
def zL:Value->Option AV
 | .agg cs=>if cs.toList.all (fun v=> !yA v)then some (.agg (cs.toList.map AV.c))else none
 |v=>some (.c v)
def AV.cells:AV->List AV
 | .agg xs=>xs
 |a=> [a]
def AV.one:AV->Bool
 | .c x=>x.oneCell'
 | .agg _=>false
 | .aR _=>false
 |_=>true
structure Env where
 ι:Nat->Nat
 sz:Nat->Nat
 U:Nat->Prop
 L:Nat->Nat
inductive RV (E:Env) (W:World):AV->Value->Prop
 |c (x:Value) (hx:yA x=false):RV E W (.c x) x
 |agg (xs:List AV) (vs:Array Value) (hl:xs.length=vs.size) (h:∀(i:Nat) x v,xs[i]? =some x->vs[i]? =some v->RV E W x v):RV E W (.agg xs) (.agg vs)
 |aR (xs:List AV) (vs:Array Value) (hl:xs.length=vs.size) (h:∀(i:Nat) x v,xs[i]? =some x->vs[i]? =some v->RV E W x v):RV E W (.aR xs) (.tuple vs)
 |snap (rows:List (List AV)) (b off s n cap:Nat) (vs:Nat->Nat->Value) (hn:n=rows.length) (oG:n<=cap)
   (hs:∀(i:Nat) row,rows[i]? =some row->row.length=s) (hL:off+rows.length*s<=E.L b)
   (hc:∀(i j:Nat) row x,rows[i]? =some row->row[j]? =some x->W.cell? ⟨b,off+(i*s+j),none⟩=some (vs i j))
   (hr:∀(i j:Nat) row x,rows[i]? =some row->row[j]? =some x->RV E W x (vs i j)):RV E W (.snap rows) (.slice (some ⟨b,off,none⟩) n cap)
 |kY (a:Option Addr) (cap:Nat):RV E W (.snap []) (.slice a 0 cap)
 |dJ (rows:List (List AV)) (i o:Nat) (b off s:Nat) (vs:Nat->Nat->Value)
   (hs:∀(i:Nat) row,rows[i]? =some row->row.length=s) (hL:off+rows.length*s<=E.L b)
   (hc:∀(i j:Nat) row x,rows[i]? =some row->row[j]? =some x->W.cell? ⟨b,off+(i*s+j),none⟩=some (vs i j))
   (hr:∀(i j:Nat) row x,rows[i]? =some row->row[j]? =some x->RV E W x (vs i j)):RV E W (.dJ rows i o) (.pointer (some ⟨b,off+(i*s+o),none⟩))
 |own (id off len cap:Nat) (aC:E.U id) (eA:len<=cap) (dX:∃(cur:Array Value) (e:TypeId) (f:Nat×Nat),W.heap[E.ι id]? =some (Obj.cells cur e f)/\(off+cap)*E.sz id<=cur.size):
   RV E W (.own id off len) (.slice (some ⟨E.ι id,off*E.sz id,none⟩) len cap)
 |mF (id off:Nat) (a:Option Addr) (aC:E.U id):RV E W (.own id off 0) (.slice a 0 0)
 |sub (id i o len cap:Nat) (aC:E.U id) (eA:len<=cap) (dX:∃(cur:Array Value) (e:TypeId) (f:Nat×Nat),W.heap[E.ι id]? =some (Obj.cells cur e f)/\i*E.sz id+o+cap<=cur.size):
   RV E W (.sub id i o len) (.slice (some ⟨E.ι id,i*E.sz id+o,none⟩) len cap)
 |ptr (id i o:Nat) (aC:E.U id):RV E W (.ptr id i o) (.pointer (some ⟨E.ι id,i*E.sz id+o,none⟩))
 |fn (f:Fn) (first cap:List AV) (vf vc:Array Value) (hl:first.length=vf.size) (bQ:cap.length=vc.size)
   (h:∀(i:Nat) x v,first[i]? =some x->vf[i]? =some v->RV E W x v) (h2:∀(i:Nat) x v,cap[i]? =some x->vc[i]? =some v->RV E W x v):RV E W (.fn f first cap) (.func f vf vc)
 |omap (id:Nat) (aC:E.U id):RV E W (.omap id) (.map (some (E.ι id)))
 |jF (id:Nat) (aC:E.U id):RV E W (.jF id) (.func (.yield (E.ι id)) #[] #[])
structure bD(E:Env)(W:World)(E':Env)(W':World):Prop where
 os:W'.os=W.os
 tape:W'.tape=W.tape
 output:W'.output=W.output
 size:W.heap.size<=W'.heap.size
 used:∀id,E.U id->E'.U id
 jL:∀id,E.U id->E'.ι id=E.ι id/\E'.sz id=E.sz id
 lim:∀b,E.L b<=E'.L b
 yB:∀b k,k<E.L b->W'.cell? ⟨b,k,none⟩=W.cell? ⟨b,k,none⟩
 sD:∀b,b<W.heap.size->(∀id,E.U id->E.ι id≠b)->W'.heap[b]? =W.heap[b]?
 cD:∀(b:Nat) (cur:Array Value) (e:TypeId) (f:Nat×Nat),W.heap[b]? =some (Obj.cells cur e f)->∃(dQ:Array Value) (f':Nat×Nat),W'.heap[b]? =some (Obj.cells dQ e f')/\dQ.size=cur.size
 still:∀b,b<W.heap.size->(∀id,E.U id->E.ι id≠b)->E'.L b=E.L b
 fresh:∀id,¬E.U id->E'.U id->W.heap.size<=E'.ι id\/∃rF,E.U rF/\E.ι rF=E'.ι id
 loops:∀(b:Nat) (r:Loop),W.heap[b]? =some (.loop r)->∃r',W'.heap[b]? =some (.loop r')/\r'.defers=r.defers
theorem bD.refl(E:Env)(W:World):bD E W E W:=
 ⟨rfl,rfl,rfl,cA _,fun _ h=>h,fun _ _=>⟨rfl,rfl⟩,fun _=>cA _,fun _ _ _=>rfl,fun _ _ _=>rfl,fun b cur e f h=>⟨cur,f,h,rfl⟩,fun _ _ _=>rfl,fun id h h'=>absurd h' h,fun b r h=>⟨r,h,rfl⟩⟩
theorem bD.trans{E E' wP:Env}{W W' E6:World}(h:bD E W E' W')(k:bD E' W' wP E6):bD E W wP E6 where
 os:=k.os.trans h.os
 tape:=k.tape.trans h.tape
 output:=k.output.trans h.output
 size:=uA h.size k.size
 used:=fun id aC=>k.used id (h.used id aC)
 jL:=fun id aC=>by
  have h1:=h.jL id aC;have h2:=k.jL id (h.used id aC);exact⟨h2.1.trans h1.1,h2.2.trans h1.2⟩
 lim:=fun b=>uA (h.lim b) (k.lim b)
 yB:=fun b i hi=>(k.yB b i (vQ hi (h.lim b))).trans (h.yB b i hi)
 sD:=fun b hb hf=>by
  rw[<-h.sD b hb hf];refine k.sD b (vQ hb h.size) fun id aC=> ?_
  by_cases bG:E.U id
  ·rw[(h.jL id bG).1];exact hf id bG
  ·rcases h.fresh id bG aC with h1|⟨rF,h0,h1⟩
   ·omega
   ·rw[<-h1];exact hf rF h0
 cD:=fun b cur e f hb=>by
  obtain⟨dQ,f',h1,h2⟩:=h.cD b cur e f hb;obtain⟨aK9,f'',h3,h4⟩:=k.cD b dQ e f' h1;exact⟨aK9,f'',h3,h4.trans h2⟩
 still:=fun b hb hf=>by
  rw[<-h.still b hb hf];refine k.still b (vQ hb h.size) fun id aC=> ?_
  by_cases bG:E.U id
  ·rw[(h.jL id bG).1];exact hf id bG
  ·rcases h.fresh id bG aC with h1|⟨rF,h0,h1⟩
   ·omega
   ·rw[<-h1];exact hf rF h0
 fresh:=fun id h1 h2=>by
  by_cases bG:E'.U id
  ·rw[(k.jL id bG).1];exact h.fresh id h1 bG
  ·rcases k.fresh id bG h2 with h3|⟨rF,h0,h3⟩
   ·exact .inl (uA h.size h3)
   ·by_cases mZ:E.U rF
    ·exact .inr ⟨rF,mZ,by rw[<-h3,(h.jL rF mZ).1]⟩
    ·rw[<-h3];exact h.fresh rF mZ h0
 loops:=fun b r hb=>by
  obtain⟨r',h1,h2⟩:=h.loops b r hb;obtain⟨r'',h3,h4⟩:=k.loops b r' h1;exact⟨r'',h3,h4.trans h2⟩
theorem yC{i n s j:Nat}(hi:i<n)(hj:j<s):i*s+j<n*s:=by
 have h:(i+1)*s<=n*s:=mU s hi;rw[uB]at h;omega
theorem RV.mono{E E':Env}{W W':World}(h:bD E W E' W'){a:AV}{v:Value}(r:RV E W a v):RV E' W' a v:=by
 induction r with
 |c x hx=>exact .c x hx
 |agg xs vs hl _ ih=>exact .agg xs vs hl ih
 |aR xs vs hl _ ih=>exact .aR xs vs hl ih
 |snap rows b off s n cap vs hn oG hs hL hc hr ih=>
  refine .snap rows b off s n cap vs hn oG hs (uA hL (h.lim b)) (fun i j row x h1 h2=> ?_) ih
  rw[h.yB]
  ·exact hc i j row x h1 h2
  ·have hi:i<rows.length:=(dS.1 h1).1
   have hj:j<s:=by rw[<-hs i row h1];exact(dS.1 h2).1
   have:=yC hi hj;omega
 |kY a cap=>exact .kY a cap
 |dJ rows i o b off s vs hs hL hc hr ih=>
  refine .dJ rows i o b off s vs hs (uA hL (h.lim b)) (fun i j row x h1 h2=> ?_) ih
  rw[h.yB]
  ·exact hc i j row x h1 h2
  ·have hi:i<rows.length:=(dS.1 h1).1
   have hj:j<s:=by rw[<-hs i row h1];exact(dS.1 h2).1
   have:=yC hi hj;omega
 |own id off len cap aC eA dX=>
  obtain⟨cur,e,f,h1,h2⟩:=dX;obtain⟨dQ,f',h3,h4⟩:=h.cD _ _ _ _ h1;rw[<-(h.jL id aC).1,<-(h.jL id aC).2];refine .own id off len cap (h.used id aC) eA ⟨dQ,e,f',?_,?_⟩
  ·rw[(h.jL id aC).1];exact h3
  ·rw[(h.jL id aC).2,h4];exact h2
 |mF id off a aC=>exact .mF id off a (h.used id aC)
 |sub id i o len cap aC eA dX=>
  obtain⟨cur,e,f,h1,h2⟩:=dX;obtain⟨dQ,f',h3,h4⟩:=h.cD _ _ _ _ h1;rw[<-(h.jL id aC).1,<-(h.jL id aC).2];refine .sub id i o len cap (h.used id aC) eA ⟨dQ,e,f',?_,?_⟩
  ·rw[(h.jL id aC).1];exact h3
  ·rw[(h.jL id aC).2,h4];exact h2
 |ptr id i o aC=>
  rw[<-(h.jL id aC).1,<-(h.jL id aC).2];exact .ptr id i o (h.used id aC)
 |fn f first cap vf vc hl bQ _ _ E7 E8=>exact .fn f first cap vf vc hl bQ E7 E8
 |omap id aC=>
  rw[<-(h.jL id aC).1];exact .omap id (h.used id aC)
 |jF id aC=>
  rw[<-(h.jL id aC).1];exact .jF id (h.used id aC)
theorem RV.zL{E:Env}{W:World}{v:Value}{a:AV}(h:zL v=some a):RV E W a v:=by
 cases v with
 |agg cs=>
  unfold AL.zL at h;split at h
  ·rename_i heq
   injection heq with heq
   subst heq;split at h
   ·rename_i eT
    injection h with h
    subst h;refine .agg _ _ (by simp) fun i x v hx hv=> ?_
    simp only[iA,yP,hv,pP,bB]at hx;subst hx;refine .c _ ?_;have:=gK.1 eT v (by rw[EW];exact HH hv)
    simpa using this
   ·cases h
  ·rename_i aM
   exact absurd rfl (aM cs)
 |_=>injection h with h;subst h;exact .c _ rfl
inductive aI where
 |cells (elem:TypeId) (s:Nat) (rows:List (List AV)) (w a:Bool)
 |map (es:List (Value×AV))
 |iter (m n:Nat) (seen:List Nat)
 |cJ (env:List (Nat×Bool×AV)) (nt:Nat) (ps:List Tmp) (assign body:Code) (st:LoopState) (J7:Option Code)
def lk:List (Nat×Bool×AV)->Nat->Option (Bool×AV)
 |[],_=>none
 |(i,a)::r,t=>if t=i then some a else lk r t
def aI.upto:aI->Nat
 | .cells _ s rows _ _=>rows.length*s
 | .map _=>0
 | .iter .. =>0
 | .cJ .. =>0
def aI.app:aI->Bool
 | .cells _ _ _ _ a=>a
 | .map _=>false
 | .iter .. =>false
 | .cJ .. =>false
structure Heap where
 next:Nat
 get:Nat->Option aI
def Ed(ms:Array MapEntry)(clock:Nat):Prop:=MapKept.Stamped ms clock/\clock=ms.size/\∀(i:Nat) e,ms[i]? =some e->e.born=i
def J8(E:Env)(W:World)(G:Nat->Option aI)(id:Nat):aI->Prop
 | .cells elem s rows w a=>E.sz id=s/\(∀(i:Nat) row,rows[i]? =some row->row.length=s)/\
     (∃cur:Array Value,W.heap[E.ι id]? =some (Obj.cells cur elem (0,0))/\rows.length*s<=cur.size/\
       ∀(i j:Nat) row x,rows[i]? =some row->row[j]? =some x->∃v,cur[i*s+j]? =some v/\RV E W x v)/\
     (w=true->E.L (E.ι id)=0/\∀aK b',aK≠id->G aK=some b'->E.ι aK≠E.ι id)/\
     (a=true->E.L (E.ι id)<=rows.length*s/\∀aK b',aK≠id->G aK=some b'->E.ι aK=E.ι id->b'.upto<=rows.length*s/\b'.app=false)
 | .map es=>(∃(ms:Array MapEntry) (clock:Nat),W.heap[E.ι id]? =some (Obj.map ms clock)/\Ed ms clock/\ms.size=es.length/\
      ∀(i:Nat) k x,es[i]? =some (k,x)->∃e,ms[i]? =some e/\e.key=k/\RV E W x e.val)/\
     E.L (E.ι id)=0/\∀aK b',aK≠id->G aK=some b'->E.ι aK≠E.ι id
 | .iter m n seen=>(W.heap[E.ι id]? =some (Obj.mapIter (some (E.ι m)) n seen.toArray n)/\E.U m)/\
     E.L (E.ι id)=0/\∀aK b',aK≠id->G aK=some b'->E.ι aK≠E.ι id
 | .cJ env nt ps assign body st J7=>(∃(fn:FuncId) (tmps:Array Value) (D:Nat),W.heap[E.ι id]? =some (.loop {state:=st,pending:=J7,fn,tmps,params:=ps.toArray,assign,body,defers:=D})/\tmps.size=nt/\
      ∀t c a,lk env t=some (c,a)->∃v,tmps[t]? =some v/\(c=true->RV E W a v)/\(c=false->v=undef))/\
     E.L (E.ι id)=0/\∀aK b',aK≠id->G aK=some b'->E.ι aK≠E.ι id
structure RC(E:Env)(W:World)(G:Nat->Option aI):Prop where
 lim:∀b,W.heap.size<=b->E.L b=0
 eX:∀id,E.U id->E.ι id<W.heap.size
 ok:∀id b,G id=some b->E.U id/\J8 E W G id b
structure RH(E:Env)(W:World)(H:Heap):Prop where
 next:∀id,E.U id->id<H.next
 core:RC E W H.get
end Go.AL
namespace Go.AL
open Go.RowKit
def bP(E:Env)(W:World)(xs:List AV)(vs:List Value):Prop:=
 xs.length=vs.length/\∀(i:Nat) x v,xs[i]? =some x->vs[i]? =some v->RV E W x v
section
variable {E : Env} {W : World}
theorem bP.nil:bP E W [] []:=⟨rfl,fun i x v h=>by simp at h⟩
theorem bP.get{xs:List AV}{vs:List Value}(h:bP E W xs vs){i:Nat}{x:AV}(hx:xs[i]? =some x):∃v,vs[i]? =some v/\RV E W x v:=by
 have hi:i<vs.length:=by rw[<-h.1];exact(dS.1 hx).1
 exact⟨vs[i],fU hi,h.2 i x _ hx (fU hi)⟩
theorem bP.cons{x:AV}{v:Value}{xs:List AV}{vs:List Value}(h:RV E W x v)(hs:bP E W xs vs):bP E W (x::xs) (v::vs):=by
 refine⟨by simp[hs.1],fun i y u hy hu=> ?_⟩
 cases i with
 |zero=>simp at hy hu;subst hy;subst hu;exact h
 |succ i=>simp at hy hu;exact hs.2 i y u hy hu
theorem bP.append{xs ys:List AV}{vs us:List Value}(h:bP E W xs vs)(k:bP E W ys us):bP E W (xs++ys) (vs++us):=by
 refine⟨by simp[h.1,k.1],fun i x v hx hv=> ?_⟩
 by_cases hi:i<xs.length
 ·rw[lT hi]at hx
  rw[lT (by rw[<-h.1];exact hi)]at hv
  exact h.2 i x v hx hv
 ·rw[lD (by omega)]at hx
  rw[lD (by rw[<-h.1];omega),<-h.1]at hv
  exact k.2 _ x v hx hv
theorem bP.take{xs:List AV}{vs:List Value}(h:bP E W xs vs)(n:Nat):bP E W (xs.take n) (vs.take n):=by
 refine⟨by simp[h.1],fun i x v hx hv=> ?_⟩
 rw[gF]at hx hv;split at hx
 ·rename_i hi;simp only[hi,if_true]at hv;exact h.2 i x v hx hv
 ·cases hx
theorem bP.drop{xs:List AV}{vs:List Value}(h:bP E W xs vs)(n:Nat):bP E W (xs.drop n) (vs.drop n):=by
 refine⟨by simp[h.1],fun i x v hx hv=> ?_⟩
 rw[m9]at hx hv;exact h.2 _ x v hx hv
theorem bP.aL2{xs:List Value}(h:xs.all (fun v=> !yA v)=true):bP E W (xs.map AV.c) xs:=by
 refine⟨by simp,fun i x v hx hv=> ?_⟩
 simp only[iA,hv,pP,bB]at hx;subst hx;refine .c _ ?_;have:=gK.1 h v (eY hv);simpa using this
theorem RV.Ee{a:AV}{v:Value}(r:RV E W a v):bP E W a.cells v.cells.toList:=by
 cases r with
 |agg xs vs hl h=>exact⟨by simpa[AV.cells,Value.cells]using hl,fun i x v hx hv=>h i x v hx (by simpa[Value.cells]using hv)⟩
 |c x hx=>
  have:v.cells= #[v]:=by cases v<;>first|rfl|(simp[yA]at hx)
  rw[this];exact .cons (.c v hx) .nil
 |aR xs vs hl h=>exact .cons (.aR xs vs hl h) .nil
 |snap rows b off s n cap vs hn oG hs hL hc hr=>exact .cons (.snap rows b off s n cap vs hn oG hs hL hc hr) .nil
 |kY a cap=>exact .cons (.kY a cap) .nil
 |dJ rows i o b off s vs hs hL hc hr=>exact .cons (.dJ rows i o b off s vs hs hL hc hr) .nil
 |own id off len cap aC eA dX=>exact .cons (.own id off len cap aC eA dX) .nil
 |mF id off a aC=>exact .cons (.mF id off a aC) .nil
 |sub id i o len cap aC eA dX=>exact .cons (.sub id i o len cap aC eA dX) .nil
 |ptr id i o aC=>exact .cons (.ptr id i o aC) .nil
 |fn f first cap vf vc hl bQ h h2=>exact .cons (.fn f first cap vf vc hl bQ h h2) .nil
 |omap id aC=>exact .cons (.omap id aC) .nil
 |jF id aC=>exact .cons (.jF id aC) .nil
theorem RV.oneOf{a:AV}{v:Value}(r:RV E W a v)(h:a.one=true):v.oneCell'=true:=by
 cases r<;>first|rfl|exact h|(simp[AV.one]at h)
theorem bP.aL3{xs:List AV}{vs:List Value}(h:bP E W xs vs)(ho:xs.all AV.one=true):∀v∈vs,v.oneCell'=true:=by
 intro v hv;obtain⟨i,hi⟩:=Yr hv;have bG:i<xs.length:=by rw[h.1];exact(dS.1 hi).1
 exact(h.2 i xs[i] v (fU bG) hi).oneOf (gK.1 ho _ (D2 bG))
end
def deref(G:Nat->Option aI):AV->Option (List AV×Nat×List Nat)
 | .ptr id i o=>match G id with
   |some (.cells _ _ rows _ _)=>match rows[i]? with
    |some row=>some (row,o,[id])
    |none=>none
   |_=>none
 | .dJ rows i o=>match rows[i]? with
   |some row=>some (row,o,[])
   |none=>none
 |_=>none
def rowsOf(G:Nat->Option aI):AV->Option (List (List AV)×List Nat)
 | .c (.slice _ 0 _)=>some ([],[])
 | .snap rows=>some (rows,[])
 | .own id off len=>match G id with
   |some (.cells _ _ rows _ _)=>if off+len<=rows.length then some ((rows.drop off).take len,[id])else none
   |_=>none
 | .sub id i o len=>match G id with
   |some (.cells _ _ rows _ _)=>match rows[i]? with
    |some row=>if o+len<=row.length then some (((row.drop o).take len).map fun x=> [x],[id])else none
    |none=>none
   |_=>none
 |_=>none
theorem Sa{E:Env}{W:World}{G:Nat->Option aI}(hG:RC E W G){a:AV}{v:Value}(r:RV E W a v){row:List AV}{o:Nat}{rd:List Nat}(h:deref G a=some (row,o,rd)):
  ∃b p,v= .pointer (some ⟨b,p+o,none⟩)/\∃vs:List Value,bP E W row vs/\∀(j:Nat) u,vs[j]? =some u->W.cell? ⟨b,p+j,none⟩=some u:=by
 unfold deref at h;split at h
 ·rename_i id i o'
  split at h
  ·rename_i e s rows w ap bX
   split at h
   ·rename_i fG bH
    simp only[bB,bY]at h;obtain⟨rfl,rfl,rfl⟩:=h;cases r with
    |ptr _ _ _ aC=>
    obtain⟨hU,dX,hlen,⟨cur,bU,hle,fH⟩,_,_⟩:=hG.ok id _ bX;have hi:i<rows.length:=(dS.1 bH).1;have hl:=hlen i fG bH
    have Ba:i*s+s<=cur.size:=by
     have:(i+1)*s<=rows.length*s:=mU s hi;rw[uB]at this;omega
    refine⟨E.ι id,i*s,by rw[dX],(cur.toList.drop (i*s)).take s,⟨by simp[hl];omega,fun j x u hx hu=> ?_⟩,fun j u hu=> ?_⟩
    ·obtain⟨u',h1,h2⟩:=fH i j fG x bH hx
     have hj:j<s:=by rw[<-hl];exact(dS.1 hx).1
     rw[gF,if_pos hj,m9]at hu;simp only[yP]at hu;rw[h1]at hu;injection hu with hu
     subst hu;exact h2
    ·rw[gF]at hu
     split at hu
     ·rw[m9]at hu
      simp only[yP]at hu;rw[cell_of_row W _ _ cur e (0,0) bU];exact hu
     ·cases hu
   ·cases h
  ·cases h
 ·rename_i rows i o'
  split at h
  ·rename_i fG bH
   simp only[bB,bY]at h;obtain⟨rfl,rfl,rfl⟩:=h;cases r with
   |dJ _ _ _ b off s vs hs hL hc hr=>
   have hl:=hs i fG bH;refine⟨b,off+i*s,by simp[uE],(List.range fG.length).map (fun j=>vs i j),⟨by simp,fun j x u hx hu=> ?_⟩,fun j u hu=> ?_⟩
   ·have hj:j<fG.length:=(dS.1 hx).1
    simp[hj]at hu;subst hu;exact hr i j fG x bH hx
   ·by_cases hj:j<fG.length
    ·simp[hj]at hu
     subst hu;have:=hc i j fG fG[j] bH (fU hj);rw[uE];exact this
    ·rw[ET (by simp;omega)]at hu;cases hu
  ·cases h
 ·cases h
theorem MN{E:Env}{W:World}{G:Nat->Option aI}(hG:RC E W G){a:AV}{v:Value}(r:RV E W a v){rows:List (List AV)}{rd:List Nat}(h:rowsOf G a=some (rows,rd)):
  ∃base n cap,v= .slice base n cap/\n=rows.length/\n<=cap/\(rows≠[]->∃b p s,base=some ⟨b,p,none⟩/\(∀(i:Nat) row,rows[i]? =some row->row.length=s)/\
   (∀(i j:Nat) row x,rows[i]? =some row->row[j]? =some x->∃u,W.cell? ⟨b,p+(i*s+j),none⟩=some u/\RV E W x u)):=by
 unfold rowsOf at h;split at h
 ·simp only[bB,bY]at h
  obtain⟨rfl,rfl⟩:=h;cases r;exact⟨_,0,_,rfl,rfl,mT _,fun h=>absurd rfl h⟩
 ·rename_i dZ
  simp only[bB,bY]at h;obtain⟨rfl,rfl⟩:=h;cases r with
  |snap _ b off s n cap vs hn oG hs hL hc hr=>
   exact⟨_,n,cap,rfl,hn,oG,fun _=>⟨b,off,s,rfl,hs,fun i j row x h1 h2=>⟨_,hc i j row x h1 h2,hr i j row x h1 h2⟩⟩⟩
  |kY a cap=>exact⟨a,0,cap,rfl,rfl,mT _,fun h=>absurd rfl h⟩
 ·rename_i id off len
  split at h
  ·rename_i e s dZ w ap bX
   split at h
   ·rename_i hle
    simp only[bB,bY]at h;obtain⟨rfl,rfl⟩:=h;obtain⟨hU,dX,hlen,⟨cur,bU,Ef,fH⟩,_,_⟩:=hG.ok id _ bX;cases r with
    |own _ _ _ cap aC eA aL4=>
     refine⟨_,len,cap,rfl,by simp;omega,eA,fun _=>⟨_,_,s,rfl,fun i row bH=> ?_,fun i j row x bH hx=> ?_⟩⟩
     ·rw[gF]at bH
      split at bH
      ·rw[m9]at bH;exact hlen _ row bH
      ·cases bH
     ·rw[gF]at bH
      split at bH
      ·rw[m9]at bH
       obtain⟨u,h1,h2⟩:=fH _ j row x bH hx;refine⟨u,?_,h2⟩;rw[cell_of_row W _ _ cur e (0,0) bU,dX,<-h1];congr 1;rw[nX];omega
      ·cases bH
    |mF _ _ a aC=>exact⟨a,0,0,rfl,by simp,cA _,fun h=>absurd (by simp) h⟩
   ·cases h
  ·cases h
 ·rename_i id i o len
  split at h
  ·rename_i e s dZ w ap bX
   split at h
   ·rename_i row bH
    split at h
    ·rename_i hle
     simp only[bB,bY]at h;obtain⟨rfl,rfl⟩:=h;obtain⟨hU,dX,hlen,⟨cur,bU,Ef,fH⟩,_,_⟩:=hG.ok id _ bX;cases r with
     |sub _ _ _ _ cap aC eA aL4=>
      have sE:∀(i':Nat) fG,(((row.drop o).take len).map fun x=> [x])[i']? =some fG->∃y,row[o+i']? =some y/\fG=[y]:=fun i' fG hr=>by
       rw[iA]at hr;cases hq:((row.drop o).take len)[i']? with
       |none=>rw[hq]at hr;cases hr
       |some y=>
        rw[hq]at hr;injection hr with hr
        rw[gF]at hq;split at hq
        ·rw[m9]at hq;exact⟨y,hq,hr.symm⟩
        ·cases hq
      refine⟨_,len,cap,rfl,by simp;omega,eA,fun _=>⟨_,_,1,rfl,fun i' fG hr=> ?_,fun i' j fG x hr hx=> ?_⟩⟩
      ·obtain⟨y,_,rfl⟩:=sE i' fG hr;rfl
      ·obtain⟨y,hy,rfl⟩:=sE i' fG hr
       obtain⟨rfl,rfl⟩:j=0/\y=x:=by
        match j,hx with
        |0,hx=>injection hx with hx;exact⟨rfl,hx⟩
       obtain⟨u,h1,h2⟩:=fH i (o+i') row y bH hy;refine⟨u,?_,h2⟩;rw[cell_of_row W _ _ cur e (0,0) bU,dX,<-h1];congr 1;omega
    ·cases h
   ·cases h
  ·cases h
 ·cases h
end Go.AL
namespace Go.AL
open Go.RowKit
def aS(G:Nat->Option aI):List (Nat×Option aI)->Nat->Option aI
 |[]=>G
 |(i,b)::r=>aS (fun k=>if k=i then b else G k) r
def xB(k:Nat):List (Nat×Option aI)->Option aI
 |[]=>none
 |(i,b)::r=>if k=i then b else xB k r
def dH(l:List (Nat×Option aI))(k:Nat):Option aI:=xB k l
theorem Jv(l:List (Nat×Option aI))(k:Nat):dH l k=xB k l:=rfl
def GC:List (Nat×Option aI)->Nat->Option aI->List (Nat×Option aI)
 |[],i,b=> [(i,b)]
 |(j,c)::r,i,b=>if i=j then(i,b)::r else(j,c)::GC r i b
theorem aL5(l:List (Nat×Option aI))(i:Nat)(b:Option aI):(fun k=>if k=i then b else dH l k)=dH (GC l i b):=by
 funext k
 induction l with
 |nil=>rfl
 |cons p r ih=>
  obtain⟨j,c⟩:=p;simp only[GC];by_cases jY:i=j
  ·subst jY
   simp only[if_true,dH,xB];split<;>rfl
  ·simp only[jY,if_false,dH,xB]
   simp only[dH]at ih;rw[<-ih];by_cases RX:k=j
   ·subst RX;simp[mV jY]
   ·simp[RX]
theorem aL6(G:Nat->Option aI):aS G []=G:=rfl
theorem aL7(l:List (Nat×Option aI))(i:Nat)(b:Option aI)(r:List (Nat×Option aI)):aS (dH l) ((i,b)::r)=aS (dH (GC l i b)) r:=by
 rw[<-aL5];rfl
theorem J8.mono{E E':Env}{W W':World}{G G':Nat->Option aI}{id:Nat}{b:aI}(h:J8 E W G id b)(hv:bD E W E' W')(hU:E.U id)
  (hh:W'.heap[E.ι id]? =W.heap[E.ι id]?) (hL:E'.L (E.ι id)=E.L (E.ι id))
  (hG:∀aK b',aK≠id->G' aK=some b'->E'.ι aK=E.ι id->∃b0,G aK=some b0/\E.ι aK=E.ι id/\b'.upto=b0.upto/\(b0.app=false->b'.app=false)):J8 E' W' G' id b:=by
 cases b with
 |map es=>
  obtain⟨⟨ms,clock,h1,h2,h3,h4⟩,h5,h6⟩:=h;have dY:=(hv.jL id hU).1;refine⟨⟨ms,clock,by rw[dY,hh];exact h1,h2,h3,fun i k x hx=> ?_⟩,by rw[dY,hL];exact h5,fun aK b' aM hg heq=> ?_⟩
  ·obtain⟨e,k7,lA,qA⟩:=h4 i k x hx
   exact⟨e,k7,lA,qA.mono hv⟩
  ·rw[dY]at heq
   obtain⟨b0,nY,E9,_,_⟩:=hG aK b' aM hg heq;exact h6 aK b0 aM nY E9
 |iter m n seen=>
  obtain⟨⟨h1,h3⟩,h5,h6⟩:=h;have dY:=(hv.jL id hU).1;refine⟨⟨by rw[dY,hh,(hv.jL m h3).1];exact h1,hv.used m h3⟩,by rw[dY,hL];exact h5,fun aK b' aM hg heq=> ?_⟩
  rw[dY]at heq;obtain⟨b0,nY,E9,_,_⟩:=hG aK b' aM hg heq;exact h6 aK b0 aM nY E9
 |cJ env nt ps assign body st J7=>
  obtain⟨⟨fn,tmps,D,h1,h2,h3⟩,h5,h6⟩:=h;have dY:=(hv.jL id hU).1;refine⟨⟨fn,tmps,D,by rw[dY,hh];exact h1,h2,fun t c a ht=> ?_⟩,by rw[dY,hL];exact h5,fun aK b' aM hg heq=> ?_⟩
  ·obtain⟨v,k7,lA,qA⟩:=h3 t c a ht
   exact⟨v,k7,fun hc=>(lA hc).mono hv,qA⟩
  ·rw[dY]at heq
   obtain⟨b0,nY,E9,_,_⟩:=hG aK b' aM hg heq;exact h6 aK b0 aM nY E9
 |cells elem s rows w a=>
  obtain⟨h1,h2,⟨cur,h3,h4,h5⟩,h6,h7⟩:=h;have dY:=(hv.jL id hU).1;have hs:=(hv.jL id hU).2;refine⟨by rw[hs];exact h1,h2,⟨cur,by rw[dY,hh];exact h3,h4,fun i j row x hr hx=> ?_⟩,fun hw=> ?_,fun ha=> ?_⟩
  ·obtain⟨v,nF,eZ⟩:=h5 i j row x hr hx
   exact⟨v,nF,eZ.mono hv⟩
  ·obtain⟨hz,hd⟩:=h6 hw
   refine⟨by rw[dY,hL];exact hz,fun aK b' aM hg heq=> ?_⟩
   rw[dY]at heq;obtain⟨b0,nY,E9,_,_⟩:=hG aK b' aM hg heq;exact hd aK b0 aM nY E9
  ·obtain⟨hz,hd⟩:=h7 ha
   refine⟨by rw[dY,hL];exact hz,fun aK b' aM hg heq=> ?_⟩
   rw[dY]at heq;obtain⟨b0,nY,E9,hup,FM⟩:=hG aK b' aM hg heq;obtain⟨h8,h9⟩:=hd aK b0 aM nY E9;exact⟨by rw[hup];exact h8,FM h9⟩
def Env.more(E:Env)(aG g s:Nat):Env where
 ι:=fun k=>if k=aG then g else E.ι k
 sz:=fun k=>if k=aG then s else E.sz k
 U:=fun k=>E.U k\/k=aG
 L:=E.L
section
variable {E : Env} {W : World} {G : Nat -> Option aI}
theorem bD.alloc(hG:RC E W G){aG:Nat}(hn:¬E.U aG)(o:Obj)(s:Nat):bD E W (E.more aG W.heap.size s) (W.alloc o)where
 os:=rfl
 tape:=rfl
 output:=rfl
 size:=by simp
 used:=fun id h=> .inl h
 jL:=fun id h=>by
  have:id≠aG:=fun e=>hn (e▸h)
  simp[Env.more,this]
 lim:=fun b=>cA _
 yB:=fun b k hk=>by
  refine World.cell?_alloc_old W o _ fun e=> ?_
  have:=hG.lim b (by simp at e;omega)
  omega
 sD:=fun b hb _=>Below.heap_alloc W o b hb
 cD:=fun b cur e f h=>⟨cur,f,by rw[Below.heap_alloc W o b (jB.1 h).1];exact h,rfl⟩
 still:=fun _ _ _=>rfl
 fresh:=fun id h1 h2=>by
  rcases h2 with h2|h2
  ·exact absurd h2 h1
  ·subst h2;left;simp[Env.more]
 loops:=fun b r h=>⟨r,by rw[Below.heap_alloc W o b (jB.1 h).1];exact h,rfl⟩
theorem bD.drew(E:Env)(W:World):bD E W E W.drew:=
 ⟨rfl,rfl,rfl,cA _,fun _ h=>h,fun _ _=>⟨rfl,rfl⟩,fun _=>cA _,fun _ _ _=>rfl,fun _ _ _=>rfl,fun b cur e f h=>⟨cur,f,h,rfl⟩,fun _ _ _=>rfl,fun id h h'=>absurd h' h,fun b r h=>⟨r,h,rfl⟩⟩
theorem RC.J9{W':World}(hG:RC E W G)(hv:bD E W E W')(hh:W'.heap=W.heap):RC E W' G where
 lim:=fun b hb=>hG.lim b (by rw[hh]at hb;exact hb)
 eX:=fun id h=>by rw[hh];exact hG.eX id h
 ok:=fun id b h=>by
  obtain⟨h1,h2⟩:=hG.ok id b h;exact⟨h1,h2.mono hv h1 (by rw[hh]) rfl fun aK b' _ hg he=>⟨b',hg,he,rfl,fun h=>h⟩⟩
theorem RC.drew(hG:RC E W G):RC E W.drew G:=hG.J9 (bD.drew E W) rfl
theorem RC.alloc(hG:RC E W G){aG:Nat}(hn:¬E.U aG)(elem:TypeId)(cur:Array Value)(s:Nat)(rows:List (List AV))(w a:Bool)
  (hs:∀(i:Nat) row,rows[i]? =some row->row.length=s) (hle:rows.length*s<=cur.size)
  (hc:∀(i j:Nat) row x,rows[i]? =some row->row[j]? =some x->∃v,cur[i*s+j]? =some v/\RV E W x v):
  RC (E.more aG W.heap.size s) (W.alloc (.cells cur elem)) (aS G [(aG,some (.cells elem s rows w a))])where
 lim:=fun b hb=>hG.lim b (by simp at hb;omega)
 eX:=fun id h=>by
  rcases h with h|h
  ·have aM:id≠aG:=fun e=>hn (e▸h)
   have:=hG.eX id h;simp[Env.more,aM];omega
  ·subst h;simp[Env.more]
 ok:=fun id b h=>by
  have hv:=bD.alloc hG hn (.cells cur elem) s;by_cases aC:id=aG
  ·subst aC
   simp only[aS,if_true,bB]at h;subst h;refine⟨.inr rfl,by simp[Env.more],hs,⟨cur,by simp only[Env.more,if_true];exact heap_alloc_new W _,hle,fun i j row x h1 h2=> ?_⟩,fun _=>⟨?_,fun aK b' aM hg=> ?_⟩,fun _=>⟨?_,fun aK b' aM hg he=> ?_⟩⟩
   ·obtain⟨v,h3,h4⟩:=hc i j row x h1 h2
    exact⟨v,h3,h4.mono hv⟩
   ·simp only[Env.more,if_true];exact hG.lim _ (cA _)
   ·simp only[aS,aM,if_false]at hg
    have:=hG.eX aK (hG.ok aK b' hg).1;simp only[Env.more,aM,if_true,if_false];omega
   ·simp only[Env.more,if_true];rw[hG.lim _ (cA _)];omega
   ·simp only[aS,aM,if_false]at hg
    have:=hG.eX aK (hG.ok aK b' hg).1;simp only[Env.more,aM,if_true,if_false]at he;omega
  ·simp only[aS,aC,if_false]at h
   obtain⟨h1,h2⟩:=hG.ok id b h;have bG:=hG.eX id h1;refine⟨.inl h1,h2.mono hv h1 (Below.heap_alloc W _ _ bG) rfl fun aK b' aM hg he=> ?_⟩
   by_cases rC:aK=aG
   ·subst rC;simp only[Env.more,if_true]at he;omega
   ·simp only[aS,rC,if_false]at hg
    simp only[Env.more,rC,if_false]at he;exact⟨b',hg,he,rfl,fun h=>h⟩
theorem bD.setRow(hG:RC E W G){id:Nat}(hU:E.U id){cur dQ:Array Value}{e:TypeId}(bU:W.heap[E.ι id]? =some (.cells cur e (0,0)))
  (dX:dQ.size=cur.size) (hp:∀k,k<E.L (E.ι id)->dQ[k]? =cur[k]?):bD E W E (W.setRow (E.ι id) dQ)where
 os:=rfl
 tape:=rfl
 output:=rfl
 size:=by simp
 used:=fun _ h=>h
 jL:=fun _ _=>⟨rfl,rfl⟩
 lim:=fun _=>cA _
 yB:=fun b k hk=>by
  by_cases hb:b=E.ι id
  ·subst hb
   rw[cell_setRow_same W _ k cur dQ e (0,0) bU,cell_of_row W _ k cur e (0,0) bU];exact hp k hk
  ·exact cell_setRow_other W _ dQ ⟨b,k,none⟩ hb
 sD:=fun b _ hf=>setRow_other W _ b dQ fun h=>hf id hU h.symm
 cD:=fun b c e' f h=>by
  by_cases hb:b=E.ι id
  ·subst hb
   rw[bU]at h;injection h with h
   injection h with h1 h2 h3
   subst h1;subst h2;subst h3;exact⟨dQ,(0,0),setRow_heap W _ cur dQ e (0,0) bU,dX⟩
  ·exact⟨c,f,by rw[setRow_other W _ b dQ hb];exact h,rfl⟩
 still:=fun _ _ _=>rfl
 fresh:=fun id h h'=>absurd h' h
 loops:=fun b r h=>by
  by_cases hb:b=E.ι id
  ·subst hb;rw[bU]at h;cases h
  ·exact⟨r,by rw[setRow_other W _ b dQ hb];exact h,rfl⟩
end
def tW(row:List AV)(o:Nat)(xs:List AV):List AV:=row.take o++xs++row.drop (o+xs.length)
theorem Sb{row xs:List AV}{o:Nat}(h:o+xs.length<=row.length):(tW row o xs).length=row.length:=by
 simp[tW];omega
theorem aL9{row xs:List AV}{o j:Nat}{x:AV}(h:o+xs.length<=row.length)(hx:(tW row o xs)[j]? =some x):
  (o<=j/\j<o+xs.length/\xs[j-o]? =some x)\/((j<o\/o+xs.length<=j)/\row[j]? =some x):=by
 unfold tW at hx;by_cases h1:j<o
 ·rw[kA,lT (by simp;omega),gF,if_pos h1]at hx
  exact .inr ⟨.inl h1,hx⟩
 ·by_cases h2:j<o+xs.length
  ·rw[kA,lD (by simp;omega),lT (by simp;omega)]at hx
   refine .inl ⟨by omega,h2,?_⟩
   rw[<-hx];congr 1;simp;omega
  ·rw[lD (by simp;omega),m9]at hx
   refine .inr ⟨.inr (by omega),?_⟩
   rw[<-hx];congr 1;simp;omega
theorem RC.write{E:Env}{W:World}{G:Nat->Option aI}(hG:RC E W G){id:Nat}{elem:TypeId}{s:Nat}{rows:List (List AV)}{a:Bool}(hg:G id=some (.cells elem s rows true a))
  {i o:Nat} {row:List AV} (bH:rows[i]? =some row) {xs:List AV} {vs:List Value} (hx:bP E W xs vs) (hle:o+xs.length<=row.length) (h1:∀v∈vs,v.oneCell'=true) {P:Program}:
  ∃dQ,(storeCells ⟨E.ι id,i*s+o,none⟩ vs 0).run P W= .ok () (W.setRow (E.ι id) dQ)/\bD E W E (W.setRow (E.ι id) dQ)/\
   RC E (W.setRow (E.ι id) dQ) (aS G [(id,some (.cells elem s (rows.set i (tW row o xs)) true a))]):=by
 obtain⟨hU,dX,hlen,⟨cur,bU,rG,fH⟩,hw,ha⟩:=hG.ok id _ hg;obtain⟨hL,hd⟩:=hw rfl;have hi:i<rows.length:=(dS.1 bH).1;have hl:=hlen i row bH
 have Ba:i*s+s<=cur.size:=by
  have:(i+1)*s<=rows.length*s:=mU s hi;rw[uB]at this;omega
 have Co:vs.length=xs.length:=hx.1.symm;have eW:=run_storeCells_at P (E.ι id) (i*s+o) elem vs 0 cur W bU (by omega) h1
 simp only[BU]at eW;refine⟨_,eW,?_⟩;generalize B6:(cur.toList.take (i*s+o)++vs++cur.toList.drop (i*s+o+vs.length)).toArray=dQ at*;have nH:dQ.size=cur.size:=by subst B6;simp;omega
 have hv:=bD.setRow hG hU bU nH (fun k hk=>by omega)
 refine⟨hv,⟨fun b hb=>hG.lim b (by simpa using hb),fun aK h=>by simpa using hG.eX aK h,fun aK b h=> ?_⟩⟩
 by_cases aC:aK=id
 ·subst aC
  simp only[aS,if_true,bB]at h;subst h;refine⟨hU,dX,fun i' fG hr=> ?_,⟨dQ,setRow_heap W _ cur dQ elem (0,0) bU,by simp;omega,fun i' j fG x hr nN=> ?_⟩,fun _=>⟨hL,fun cX cY aM dA=> ?_⟩,fun JA=> ?_⟩
  ·by_cases MO:i'=i
   ·subst MO;rw[U9 hi]at hr;injection hr with hr;subst hr;rw[Sb hle];exact hl
   ·rw[Z3 (mV MO)]at hr;exact hlen i' fG hr
  ·have Sd:∀k,k<cur.size->(k<i*s+o\/i*s+o+vs.length<=k)->dQ[k]? =cur[k]? :=by
    intro k hk kP;subst B6;rw[vR];rcases kP with kP|kP
    ·rw[kA,lT (by simp;omega),gF,if_pos kP];simp
    ·rw[lD (by simp;omega),m9];simp;congr 1;omega
   have aM0:∀k,k<vs.length->dQ[i*s+o+k]? =vs[k]? :=by
    intro k hk;subst B6;rw[vR,kA,lD (by simp;omega),lT (by simp;omega)]
    congr 1;simp;omega
   by_cases MO:i'=i
   ·subst MO
    rw[U9 hi]at hr;injection hr with hr
    subst hr;rcases aL9 hle nN with⟨h2,h3,h4⟩|⟨h2,h4⟩
    ·obtain⟨v,h5,h6⟩:=hx.get h4
     refine⟨v,?_,h6.mono hv⟩;rw[<-h5,<-aM0 (j-o) (by omega)];congr 1;omega
    ·obtain⟨v,h5,h6⟩:=fH i' j row x bH h4
     refine⟨v,?_,h6.mono hv⟩;rw[<-h5];have hj:j<s:=by rw[<-hl];exact(dS.1 h4).1
     exact Sd _ (by omega) (by omega)
   ·rw[Z3 (mV MO)]at hr
    obtain⟨v,h5,h6⟩:=fH i' j fG x hr nN;refine⟨v,?_,h6.mono hv⟩;rw[<-h5];have rH:=hlen i' fG hr;have hj:j<s:=by rw[<-rH];exact(dS.1 nN).1
    refine Sd _ (jB.1 h5).1 ?_;rcases Nat.lt_or_gt_of_ne MO with h7|h7
    ·have:(i'+1)*s<=i*s:=mU s h7
     rw[uB]at this;omega
    ·have:(i+1)*s<=i'*s:=mU s h7
     rw[uB]at this;omega
  ·simp only[aS,aM,if_false]at dA
   exact hd cX cY aM dA
  ·obtain⟨h8,h9⟩:=ha JA
   refine⟨by rw[hL];omega,fun cX cY aM dA he=> ?_⟩
   simp only[aS,aM,if_false]at dA;exact absurd he (hd cX cY aM dA)
 ·simp only[aS,aC,if_false]at h
  obtain⟨h2,h3⟩:=hG.ok aK b h;have dY:E.ι aK≠E.ι id:=hd aK b aC h;refine⟨h2,h3.mono hv h2 (setRow_other W _ _ dQ dY) rfl fun cX cY aM dA he=> ?_⟩
  by_cases GD:cX=id
  ·subst GD;exact absurd he.symm dY
  ·simp only[aS,GD,if_false]at dA
   exact⟨cY,dA,he,rfl,fun h=>h⟩
end Go.AL
namespace Go.AL
open Go.RowKit
section types
variable (P : Program)
def dU(t:TypeId):Option Nat:=(P.info? t).map (·.size)
def p5(t:TypeId):Option Nat:=(P.info? t).map (·.bytes)
def iB(t:TypeId):Option Bool:=
 match P.underlying t with
 |some (.struct _)|some (.array _ _)=>some true
 |some _=>some false
 |none=>none
def dE(t:TypeId)(f:Nat):Option (Nat×Nat×TypeId):=
 match P.underlying t with
 |some (.struct fs)=>match fs[f]? with
  |some fd=>(dU P fd.type).map fun k=>(fd.offset,k,fd.type)
  |none=>none
 |_=>none
def fC(t:TypeId):Option (TypeId×Nat):=
 match P.underlying t with
 |some (.slice e)=>(dU P e).map fun k=>(e,k)
 |_=>none
def qC(t:TypeId):Option (Nat×TypeId×Nat):=
 match P.underlying t with
 |some (.array n e)=>(dU P e).map fun k=>(n,e,k)
 |_=>none
def vS(t:TypeId):Option IntKind:=
 match P.underlying t with
 |some (.int k)=>some k
 |_=>none
def fQ(t:TypeId):Option (List AV):=
 match(P.info? t).bind (·.zero)with
 |some z=>if z.cells.toList.all (fun v=> !yA v)then some (z.cells.toList.map AV.c)else none
 |none=>none
def mW(t:TypeId)(d:TypeDesc->Bool):Bool:=((P.underlying t).map d).getD false
end types
def isString:TypeDesc->Bool| .string=>true|_=>false
def isBool:TypeDesc->Bool| .bool=>true|_=>false
def qY(P:Program)(t:TypeId)(xs:List AV)(off:Nat):Option AV:=
 match iB P t,dU P t with
 |some true,some k=>if off+k<=xs.length then some (.agg ((xs.drop off).take k))else none
 |some false,some _=>xs[off]?
 |_,_=>none
def X8(op:BinOp)(k:IntKind)(a b:Int):Option Value:=
 match op with
 | .add=>some (.int k (k.wrap (a+b)))
 | .sub=>some (.int k (k.wrap (a-b)))
 | .mul=>some (.int k (k.wrap (a*b)))
 | .quo=>if b=0 then none else some (.int k (k.wrap (a.tdiv b)))
 | .rem=>if b=0 then none else some (.int k (a.tmod b))
 | .eql=>some (.bool (a==b))
 | .neq=>some (.bool (a !=b))
 | .lss=>some (.bool (decide (a<b)))
 | .leq=>some (.bool (decide (a<=b)))
 | .gtr=>some (.bool (decide (b<a)))
 | .geq=>some (.bool (decide (b<=a)))
 | .and=>some (.int k (bits .and k a b))
 | .or=>some (.int k (bits .or k a b))
 | .xor=>some (.int k (bits .xor k a b))
 | .andNot=>some (.int k (bits .andNot k a b))
 |_=>none
def JB(left:Bool)(k:IntKind)(a b:Int):Option Value:=
 if b<0 then none else match left with
  |true=>some (.int k (k.wrap (a*2 ^ min b.toNat k.bits)))
  |false=>some (.int k (a.fdiv (2 ^ min b.toNat k.bits)))
def X9(op:BinOp)(k k':IntKind)(a b:Int):Option Value:=
 match op with
 | .shl=>JB true k a b
 | .shr=>JB false k a b
 |_=>if k=k' then X8 op k a b else none
def isAny:TypeDesc->Bool
 | .interface ms=>ms.isEmpty
 |_=>false
def x9:TypeDesc->Bool
 | .interface _=>false
 |_=>true
theorem JC{P:Program}{t:TypeId}{d:TypeDesc->Bool}(h:mW P t d=true):∃x,P.underlying t=some x/\d x=true:=by
 unfold mW at h;cases hu:P.underlying t with
 |none=>simp[hu]at h
 |some x=>exact⟨x,rfl,by simpa[hu]using h⟩
def EA(op:BinOp)(r:Bool):Option Value:=
 match op with
 | .eql=>some (.bool r)
 | .neq=>some (.bool (!r))
 |_=>none
theorem Se{op:BinOp}{r:Bool}{v:Value}(h:EA op r=some v):yA v=false:=by
 unfold EA at h;split at h<;>simp only[bB,reduceCtorEq]at h<;>subst h<;>rfl
def JD(P:Program)(op:BinOp)(t:TypeId):Value->Value->Option Value
 | .int k a,.int k' b=>X9 op k k' a b
 | .bool a,.bool b=>if mW P t isBool then(match op with| .eql=>some (.bool (a==b))| .neq=>some (.bool (!(a==b)))|_=>none)else none
 | .string a,.string b=>match op with
   | .eql=>some (.bool (a.toList==b.toList))
   | .neq=>some (.bool (!(a.toList==b.toList)))
   |_=>none
 | .iface _ _,.nilIface=>if mW P t isAny then EA op false else none
 | .nilIface,.nilIface=>if mW P t isAny then EA op true else none
 |_,_=>none
theorem run_typeInfo{P:Program}{t:TypeId}{i:TypeInfo}(h:P.info? t=some i)(w:World):(typeInfo t).run P w= .ok i w:=by simp[typeInfo,h]
theorem run_sizeOf{P:Program}{t:TypeId}{k:Nat}(h:dU P t=some k)(w:World):(sizeOf t).run P w= .ok k w:=by
 unfold dU at h;cases hi:P.info? t with
 |none=>simp[hi]at h
 |some i=>simp[hi]at h;simp[sizeOf,run_typeInfo hi,h]
theorem RY{P:Program}{t:TypeId}{b:Bool}(h:iB P t=some b)(w:World):(isAgg t).run P w= .ok b w:=by
 unfold iB at h;cases hu:P.underlying t with
 |none=>simp[hu]at h
 |some d=>
  unfold isAgg;rw[Sem.run_bind,run_underlying hu w];cases d<;>simp_all
theorem aM1(d:Nat){P:Program}{t:TypeId}{ms:Array (String×TypeId)}(hu:P.underlying t=some (.interface ms))(t':TypeId)(v:Value)(w:World):
  (Op.equalIn (d+1) t (.iface t' v) .nilIface).run P w= .ok false w:=by
 simp[Op.equalIn,run_underlying hu]
theorem aM2(d:Nat){P:Program}{t:TypeId}{ms:Array (String×TypeId)}(hu:P.underlying t=some (.interface ms))(w:World):
  (Op.equalIn (d+1) t .nilIface .nilIface).run P w= .ok true w:=by
 simp[Op.equalIn,run_underlying hu]
theorem aM3(d:Nat){P:Program}{t:TypeId}{ms:Array (String×TypeId)}(hu:P.underlying t=some (.interface ms))(w:World):
  (Op.eqGuardIn (d+1) t .nilIface .nilIface).run P w= .ok (!ms.isEmpty) w:=by
 simp[Op.eqGuardIn,run_underlying hu]
theorem aM4{P:Program}{op:BinOp}{t:TypeId}{ms:Array (String×TypeId)}(hu:P.underlying t=some (.interface ms))(t':TypeId)(v':Value)(x y:Operand)(w:World){v:Value}(h:EA op false=some v):
  (do eqGuard op t x y (.iface t' v') .nilIface;binOp op t (.iface t' v') .nilIface:Sem Value).run P w= .ok v w:=by
 have h1:=aM1 9999 hu t' v' w;have h2:(eqGuard op t x y (.iface t' v') .nilIface).run P w= .ok () w:=by cases op<;>rfl
 rw[Sem.run_bind,h2,Result.andThen_ok];cases op<;>simp only[EA,reduceCtorEq,bB]at h<;>subst h<;>simp only[binOp,Op.equal,Op.maxDepth,Sem.run_bind,h1,Result.andThen_ok,Sem.run_pure]
theorem aM5{P:Program}{op:BinOp}{t:TypeId}{ms:Array (String×TypeId)}(hu:P.underlying t=some (.interface ms))(rI:ms.isEmpty=true)(x y:Operand)(w:World){v:Value}(h:EA op true=some v):
  (do eqGuard op t x y .nilIface .nilIface;binOp op t .nilIface .nilIface:Sem Value).run P w= .ok v w:=by
 have h1:=aM2 9999 hu w;have h0:=aM3 9999 hu w
 have h2:(eqGuard op t x y .nilIface .nilIface).run P w= .ok () w:=by
  cases op<;>first
   |rfl
   |(simp only[eqGuard,PA,kV,if_false]
     generalize hb:(_||_:Bool)=b
     cases b
     ·simp only[kV,if_false,Op.maxDepth,Sem.run_bind,h0,Result.andThen_ok,rI];rfl
     ·rfl)
 rw[Sem.run_bind,h2,Result.andThen_ok];cases op<;>simp only[EA,reduceCtorEq,bB]at h<;>subst h<;>simp only[binOp,Op.equal,Op.maxDepth,Sem.run_bind,h1,Result.andThen_ok,Sem.run_pure]
theorem aM6{P:Program}{op:BinOp}{t:TypeId}{a b v:Value}(h:JD P op t a b=some v)(x y:Operand)(w:World):
  (do eqGuard op t x y a b;binOp op t a b:Sem Value).run P w= .ok v w:=by
 unfold JD at h;split at h
 ·rename_i k a k' b
  unfold X9 at h;split at h
  ·unfold JB at h
   split at h
   ·cases h
   ·rename_i hb
    simp only[bB]at h;subst h;rw[eqGuard_at_int];simp[binOp,Op.shift,hb]
  ·unfold JB at h
   split at h
   ·cases h
   ·rename_i hb
    simp only[bB]at h;subst h;rw[eqGuard_at_int];simp[binOp,Op.shift,hb]
  ·rename_i MP Sf
   split at h
   ·rename_i hk
    subst hk;rw[eqGuard_at_int];unfold X8 at h;split at h<;>(try (split at h))<;>simp only[bB,reduceCtorEq]at h<;>(try subst h)<;>simp_all [binOp,Op.intArith,Op.intDiv,Op.intCmp,intBits_and,intBits_or,intBits_xor,intBits_andNot]
   ·cases h
 ·rename_i a b
  rw[eqGuard_at_bool];split at h
  ·rename_i hb
   have hu:P.underlying t=some .bool:=by
    unfold mW at hb;cases hu:P.underlying t with
    |none=>simp[hu]at hb
    |some d=>simp[hu]at hb;cases d<;>simp_all [isBool]
   split at h
   ·simp only[bB]at h;subst h;simpa using run_eql_bool w t a b hu
   ·simp only[bB]at h;subst h;simpa using run_neq_bool w t a b hu
   ·cases h
  ·cases h
 ·rename_i a b
  rw[eqGuard_at_string];split at h<;>simp only[bB,reduceCtorEq]at h<;>subst h<;>simp[binOp,Op.stringOp]
 ·rename_i t' v'
  split at h
  ·rename_i ht
   obtain⟨d,hu,hd⟩:=JC ht;cases d<;>simp only[isAny,reduceCtorEq,kV]at hd
   exact aM4 hu t' v' x y w h
  ·cases h
 ·split at h
  ·rename_i ht
   obtain⟨d,hu,hd⟩:=JC ht;cases d<;>simp only[isAny,reduceCtorEq,kV]at hd
   exact aM5 hu hd x y w h
  ·cases h
 ·cases h
theorem Sg{P:Program}{t:TypeId}{k:Nat}(ha:iB P t=some true)(hs:dU P t=some k)(w:World)(b p:Nat)(vs:List Value)(hl:vs.length=k)
  (h:∀(j:Nat) u,vs[j]? =some u->w.cell? ⟨b,p+j,none⟩=some u):(loadVar t ⟨b,p,none⟩).run P w= .ok (.agg vs.toArray) w:=by
 have hc:=run_loadCells_list (P:=P) w ⟨b,p,none⟩ vs (fun j u hu=>by rw[Addr.add_lit];exact h j u hu)
 rw[hl]at hc;simp[loadVar,RY ha,run_sizeOf hs,hc]
theorem Si{P:Program}{t:TypeId}(ha:iB P t=some false)(w:World)(a:Addr)(v:Value)(h:w.cell? a=some v):(loadVar t a).run P w= .ok v w:=by
 simp[loadVar,RY ha,h]
theorem aM7{P:Program}{t:TypeId}{k:Nat}(hs:dU P t=some k)(w w':World)(a:Addr)(v:Value)(hl:v.cells.size=k)
  (h:(storeCells a v.cells.toList 0).run P w= .ok () w'):(storeVar t a v).run P w= .ok () w':=by
 simp[storeVar,run_sizeOf hs,hl,h]
def eJ(P:Program)(g:Operand->Option AV)(G:Nat->Option aI)(aG:Nat)(o:Oper)(a:AV)(G':Nat->Option aI):Prop:=
 ∀(E:Env) (W:World) (ρ:Operand->Value),RC E W G->¬E.U aG->(∀x b,g x=some b->RV E W b (ρ x))->
  ∃W' v E',((execOp ρ o).run P W= .ok (.value v) W'\/((execOp ρ o).run P W= .ok .skip W'/\v=undef))/\bD E W E' W'/\RC E' W' G'/\RV E' W' a v/\(∀id,E'.U id->E.U id\/(id=aG/\(G' aG).isSome=true))
theorem eJ.still{P:Program}{g:Operand->Option AV}{G:Nat->Option aI}{aG:Nat}{o:Oper}{a:AV}
  (h:∀(E:Env) (W:World) (ρ:Operand->Value),RC E W G->(∀x b,g x=some b->RV E W b (ρ x))->∃v,(execOp ρ o).run P W= .ok (.value v) W/\RV E W a v):eJ P g G aG o a G:=
 fun E W ρ hG _ aW=>let ⟨v,h1,h2⟩:=h E W ρ hG aW;⟨W,v,E,.inl h1,bD.refl E W,hG,h2,fun _ h=> .inl h⟩
section
variable {P : Program} {g : Operand -> Option AV} {G : Nat -> Option aI} {aG : Nat} {dst : Option Tmp} {ty : TypeId} {pos : String} {after : Array Edge} {guard : Option (Nat × Bool)}
theorem aM8{x:Operand}{a:AV}(hx:g x=some a):eJ P g G aG ⟨dst,.move x,ty,pos,after,guard⟩ a G:=
 .still fun E W ρ hG aW=>⟨ρ x,rfl,aW x a hx⟩
theorem aM9{x:Operand}{a:AV}(hx:g x=some a):eJ P g G aG ⟨dst,.assign x,ty,pos,after,guard⟩ a G:=
 .still fun E W ρ hG aW=>⟨ρ x,rfl,aW x a hx⟩
theorem XA{c x y:Operand}{b:Bool}{a:AV}(hc:g c=some (.c (.bool b)))(hx:b=true->g x=some a)(hy:b=false->g y=some a):
  eJ P g G aG ⟨dst,.pick c x y,ty,pos,after,guard⟩ a G:=
 .still fun E W ρ hG aW=>by
   have h1:=aW c _ hc;generalize Sj:ρ c=vc at h1;cases h1;cases b
   ·exact⟨ρ y,by simp[execOp,Sj,asBool],aW y a (hy rfl)⟩
   ·exact⟨ρ x,by simp[execOp,Sj,asBool],aW x a (hx rfl)⟩
theorem aN0{c x y:Operand}{b p q:Bool}(hc:g c=some (.c (.bool b)))(hx:g x=some (.c (.bool p)))(hy:g y=some (.c (.bool q))):
  eJ P g G aG ⟨dst,.pick c x y,ty,pos,after,guard⟩ (.c (.bool (cond b p q))) G:=by
 cases b
 ·exact XA hc (fun h=>by cases h) (fun _=>hy)
 ·exact XA hc (fun _=>hx) (fun h=>by cases h)
theorem aN1{op:BinOp}{t yt:TypeId}{x y:Operand}{a b v:Value}(hx:g x=some (.c a))(hy:g y=some (.c b))(h:JD P op t a b=some v)(hv:yA v=false):
  eJ P g G aG ⟨dst,.binOp op t x y yt,ty,pos,after,guard⟩ (.c v) G:=
 .still fun E W ρ hG aW=>by
   have h1:=aW x _ hx;have h2:=aW y _ hy;generalize cF:ρ x=vx at h1;generalize k8:ρ y=vy at h2;cases h1;cases h2;refine⟨v,?_,.c v hv⟩;have:=aM6 h x y W;simp only[execOp,cF,k8];rw[Sem.run_bind,this];rfl
theorem aN2{t:TypeId}{x:Operand}{b:Bool}(hx:g x=some (.c (.bool b))):eJ P g G aG ⟨dst,.unOp .not t x,ty,pos,after,guard⟩ (.c (.bool (!b))) G:=
 .still fun E W ρ hG aW=>by
   have h1:=aW x _ hx;generalize cF:ρ x=vx at h1;cases h1;exact⟨_,by simp[execOp,cF,Op.unary],.c _ rfl⟩
theorem aN3{t:TypeId}{x:Operand}{k:IntKind}{n:Int}(hx:g x=some (.c (.int k n))):eJ P g G aG ⟨dst,.unOp .neg t x,ty,pos,after,guard⟩ (.c (.int k (k.wrap (0-n)))) G:=
 .still fun E W ρ hG aW=>by
   have h1:=aW x _ hx;generalize cF:ρ x=vx at h1;cases h1;exact⟨_,by simp[execOp,cF,Op.unary,Op.intArith],.c _ rfl⟩
theorem aN4{t:TypeId}{x:Operand}{k:IntKind}{n:Int}(hx:g x=some (.c (.int k n))):eJ P g G aG ⟨dst,.unOp .xor t x,ty,pos,after,guard⟩ (.c (.int k (bits .xor k (if k.signed then-1 else k.max) n))) G:=
 .still fun E W ρ hG aW=>by
   have h1:=aW x _ hx;generalize cF:ρ x=vx at h1;cases h1;exact⟨_,by simp[execOp,cF,Op.unary,intBits_xor],.c _ rfl⟩
theorem XB{t:TypeId}{k:IntKind}(h:vS P t=some k):P.underlying t=some (.int k):=by
 unfold vS at h;split at h
 ·rename_i hu;injection h with h;subst h;exact hu
 ·cases h
theorem aN5{src t:TypeId}{x:Operand}{k kd:IntKind}{n:Int}(hx:g x=some (.c (.int k n)))(hs:(vS P src).isSome=true)(hd:vS P t=some kd):
  eJ P g G aG ⟨dst,.convert src t x,ty,pos,after,guard⟩ (.c (.int kd (kd.wrap n))) G:=
 .still fun E W ρ hG aW=>by
   have h1:=aW x _ hx;generalize cF:ρ x=vx at h1;cases h1;refine⟨_,?_,.c _ rfl⟩;obtain⟨ks,hks⟩:=Z6.1 hs;have hu:=XB hd;simp[execOp,cF,convert,run_underlying (XB hks),run_underlying hu,Conv.intToInt]
theorem aN7{x:Operand}{xs:List AV}{i:Nat}{a:AV}(hx:g x=some (.aR xs))(hi:xs[i]? =some a):eJ P g G aG ⟨dst,.extract x i,ty,pos,after,guard⟩ a G:=
 .still fun E W ρ hG aW=>by
   have h1:=aW x _ hx;generalize cF:ρ x=vx at h1;cases h1 with
   |aR _ vs hl h=>
   have bG:i<vs.size:=by rw[<-hl];exact(dS.1 hi).1
   refine⟨vs[i],?_,h i a _ hi (by simp[bG])⟩
   simp[execOp,cF,Instr.extract,bG]
theorem MQ{E:Env}{W:World}{t:TypeId}{xs:List AV}{vs:Array Value}(h:bP E W xs vs.toList){off:Nat}{a:AV}(hp:qY P t xs off=some a):
  ∃v,(part t vs off).run P W= .ok v W/\RV E W a v:=by
 unfold qY at hp;split at hp
 ·rename_i k ha hk
  split at hp
  ·rename_i hle
   injection hp with hp
   subst hp;refine⟨.agg (vs.extract off (off+k)),by simp[part,RY ha,run_sizeOf hk],.agg _ _ ?_ fun i x v hx hv=> ?_⟩
   ·have:=h.1;simp at this⊢;omega
   ·have:=((h.drop off).take k).2 i x v hx
    rw[Array.getElem?_extract]at hv;refine this ?_;rw[gF,m9];split at hv
    ·rename_i bG
     have:i<k:=by omega
     simp only[this,if_true,yP];exact hv
    ·cases hv
  ·cases hp
 ·rename_i k ha hk
  obtain⟨v,h1,h2⟩:=h.get hp;simp only[yP]at h1;exact⟨v,by simp[part,RY ha,h1],h2⟩
 ·cases hp
theorem Sk{t:TypeId}{f off k:Nat}{ft:TypeId}(h:dE P t f=some (off,k,ft)):∃fs fd,P.underlying t=some (.struct fs)/\fs[f]? =some fd/\fd.offset=off/\dU P ft=some k/\fd.type=ft:=by
 unfold dE at h;split at h
 ·rename_i fs hu
  split at h
  ·rename_i fd EB
   cases hk:dU P fd.type with
   |none=>simp[hk]at h
   |some k'=>
    simp[hk]at h;obtain⟨rfl,rfl,rfl⟩:=h;exact⟨fs,fd,hu,EB,rfl,hk,rfl⟩
  ·cases h
 ·cases h
theorem aN8{t:TypeId}{x:Operand}{f off k:Nat}{ft:TypeId}{xs:List AV}{a:AV}(hx:g x=some (.agg xs))(hf:dE P t f=some (off,k,ft))(hp:qY P ft xs off=some a):
  eJ P g G aG ⟨dst,.field t x f,ty,pos,after,guard⟩ a G:=
 .still fun E W ρ hG aW=>by
   have h1:=aW x _ hx;generalize cF:ρ x=vx at h1;cases h1 with
   |agg _ vs hl h=>
   obtain⟨fs,fd,hu,EB,ho,hk,uW⟩:=Sk hf;subst uW;subst ho;obtain⟨v,h2,h3⟩:=MQ (P:=P) (E:=E) (W:=W) (vs:=vs) ⟨by simpa using hl,fun i x v hx hv=>h i x v hx (by simpa using hv)⟩ hp
   exact⟨v,by simp[execOp,cF,Instr.field,run_underlying hu,EB,asAgg,h2],h3⟩
theorem Sl{t:TypeId}{f off k:Nat}{ft:TypeId}(hf:dE P t f=some (off,k,ft))(vE:k≠0)(b p:Nat)(w:World):
  (Instr.fieldAt t (.pointer (some ⟨b,p,none⟩)) f).run P w= .ok (.pointer (some ⟨b,p+off,none⟩)) w:=by
 obtain⟨fs,fd,hu,EB,ho,hk,uW⟩:=Sk hf;subst uW;subst ho;simp[Instr.fieldAt,run_underlying hu,EB,Instr.sureAddr,fieldPlace,run_sizeOf hk,vE,Addr.add_lit]
theorem aN9{t:TypeId}{x:Operand}{f off k:Nat}{ft:TypeId}{id i o:Nat}(hx:g x=some (.ptr id i o))(hf:dE P t f=some (off,k,ft))(vE:k≠0):
  eJ P g G aG ⟨dst,.fieldAddr t x f,ty,pos,after,guard⟩ (.ptr id i (o+off)) G:=
 .still fun E W ρ hG aW=>by
   have h1:=aW x _ hx;generalize cF:ρ x=vx at h1;cases h1 with
   |ptr _ _ _ aC=>
   refine⟨_,by simp only[execOp,cF];rw[Sem.run_bind,Sl hf vE];rfl,?_⟩
   rw[uE];exact .ptr id i (o+off) aC
theorem aO0{t:TypeId}{x:Operand}{f off k:Nat}{ft:TypeId}{rows:List (List AV)}{i o:Nat}(hx:g x=some (.dJ rows i o))(hf:dE P t f=some (off,k,ft))(vE:k≠0):
  eJ P g G aG ⟨dst,.fieldAddr t x f,ty,pos,after,guard⟩ (.dJ rows i (o+off)) G:=
 .still fun E W ρ hG aW=>by
   have h1:=aW x _ hx;generalize cF:ρ x=vx at h1;cases h1 with
   |dJ _ _ _ b p s vs hs hL hc hr=>
   refine⟨_,by simp only[execOp,cF];rw[Sem.run_bind,Sl hf vE];rfl,?_⟩
   have:=RV.dJ (E:=E) (W:=W) rows i (o+off) b p s vs hs hL hc hr;rw[<-uE,<-uE]at this;rw[<-uE];exact this
theorem aO1{t:TypeId}{x:Operand}{p:AV}{row:List AV}{o:Nat}{rd:List Nat}{a:AV}(hx:g x=some p)(hd:deref G p=some (row,o,rd))(hp:qY P t row o=some a):
  eJ P g G aG ⟨dst,.load t x,ty,pos,after,guard⟩ a G:=
 .still fun E W ρ hG aW=>by
   have h1:=aW x _ hx;obtain⟨b,q,hv,vs,h2,h3⟩:=Sa hG h1 hd;unfold qY at hp;split at hp
   ·rename_i k ha hk
    split at hp
    ·rename_i hle
     injection hp with hp
     subst hp;have hl:=h2.1;refine⟨.agg ((vs.drop o).take k).toArray,?_,.agg _ _ (by simp;omega) fun i x v hx hv=>((h2.drop o).take k).2 i x v hx (by simpa using hv)⟩
     simp only[execOp,hv,Instr.loadAt,Instr.sureAddr]
     have hr:=Sg ha hk W b (q+o) ((vs.drop o).take k) (by simp;omega) (fun j u hu=>by
      rw[gF]at hu;split at hu
      ·rw[m9]at hu
       have:=h3 _ u hu;rw[uE];exact this
      ·cases hu)
     simp[hr]
    ·cases hp
   ·rename_i k ha hk
    obtain⟨v,h4,h5⟩:=h2.get hp;refine⟨v,?_,h5⟩;simp only[execOp,hv,Instr.loadAt,Instr.sureAddr];have hr:=Si (P:=P) ha W ⟨b,q+o,none⟩ v (h3 o v h4);simp[hr]
   ·cases hp
theorem aO2{t:TypeId}{x y:Operand}{id i o k:Nat}{e:TypeId}{s:Nat}{rows:List (List AV)}{ap:Bool}{row:List AV}{a:AV}(hx:g x=some (.ptr id i o))(hg:G id=some (.cells e s rows true ap))
  (bH:rows[i]? =some row) (hy:g y=some a) (hk:dU P t=some k) (hl:a.cells.length=k) (hle:o+k<=row.length) (h1:a.cells.all AV.one=true):
  eJ P g G aG ⟨dst,.store t x y,ty,pos,after,guard⟩ (.c undef) (aS G [(id,some (.cells e s (rows.set i (tW row o a.cells)) true ap))]):=fun E W ρ hG hn aW=>by
 have gR:=aW x _ hx;have mG:=aW y _ hy;generalize cF:ρ x=vx at gR;have yD:=mG.Ee;obtain⟨dQ,eW,hv,CN⟩:=hG.write hg bH yD (o:=o) (by omega) (yD.aL3 h1) (P:=P)
 have dX:E.sz id=s:=(hG.ok id _ hg).2.1;cases gR with
 |ptr _ _ _ aC=>
 rw[<-dX]at eW;refine⟨_,undef,E,.inr ⟨?_,rfl⟩,hv,CN,.c _ rfl,fun _ h=> .inl h⟩
 have hr:=aM7 (P:=P) hk W _ ⟨E.ι id,i*E.sz id+o,none⟩ (ρ y) (by have:=yD.1;simp at this;omega) eW
 simp only[execOp,cF,Instr.storeAt,Instr.sureAddr];simp[hr]
end
end Go.AL
namespace Go.AL
open Go.RowKit
theorem Sm{E:Env}{W:World}{xs:List AV}{cur:Array Value}(h:bP E W xs cur.toList):
  (∀(i:Nat) row,[xs][i]? =some row->row.length=xs.length)/\[xs].length*xs.length<=cur.size/\
  (∀(i j:Nat) row x,[xs][i]? =some row->row[j]? =some x->∃v,cur[i*xs.length+j]? =some v/\RV E W x v):=by
 refine⟨fun i row hr=> ?_,?_,fun i j row x hr hx=> ?_⟩
 ·cases i with
  |zero=>simp at hr;subst hr;rfl
  |succ i=>simp at hr
 ·have:=h.1;simp at this⊢;omega
 ·cases i with
  |zero=>
   simp at hr;subst hr;obtain⟨v,h1,h2⟩:=h.get hx;exact⟨v,by simpa using h1,h2⟩
  |succ i=>simp at hr
def chunk(s:Nat):Nat->List AV->List (List AV)
 |0,_=> []
 |n+1,l=>l.take s::chunk s n (l.drop s)
theorem Sn(s n:Nat)(l:List AV):(chunk s n l).length=n:=by
 induction n generalizing l with
 |zero=>rfl
 |succ n ih=>simp[chunk,ih]
theorem Eg(s:Nat):∀(n:Nat) (l:List AV) (i:Nat),i<n->(chunk s n l)[i]? =some ((l.drop (i*s)).take s)
 |0,l,i,h=>by omega
 |n+1,l,0,h=>by simp[chunk]
 |n+1,l,i+1,h=>by
  simp only[chunk,qS];rw[Eg s n _ i (by omega),KZ,uB,Nat.add_comm s]
theorem aO3{E:Env}{W:World}{xs:List AV}{cur:Array Value}(h:bP E W xs cur.toList){s n:Nat}(hl:xs.length=n*s):
  (∀(i:Nat) row,(chunk s n xs)[i]? =some row->row.length=s)/\(chunk s n xs).length*s<=cur.size/\
  (∀(i j:Nat) row x,(chunk s n xs)[i]? =some row->row[j]? =some x->∃v,cur[i*s+j]? =some v/\RV E W x v):=by
 have bG:∀(i:Nat) row,(chunk s n xs)[i]? =some row->i<n:=fun i row hr=>by
  have:=(dS.1 hr).1;rwa[Sn]at this
 refine⟨fun i row hr=> ?_,?_,fun i j row x hr hx=> ?_⟩
 ·have hi:=bG i row hr
  rw[Eg s n xs i hi]at hr;injection hr with hr
  subst hr;have:(i+1)*s<=n*s:=mU s hi;rw[uB]at this;simp;omega
 ·have:=h.1;rw[Sn];simp at this;omega
 ·have hi:=bG i row hr
  rw[Eg s n xs i hi]at hr;injection hr with hr
  subst hr;rw[gF]at hx;split at hx
  ·rw[m9]at hx
   obtain⟨v,h1,h2⟩:=h.get hx;exact⟨v,by simpa using h1,h2⟩
  ·cases hx
def EC(place:Nat->Option (Nat×Nat))(cells:List AV):List (Nat×AV)->Option (List AV)
 |[]=>some cells
 |(i,v)::rest=>
  match place i with
  |none=>none
  |some (off,size)=>if v.cells.length=size/\off+size<=cells.length then EC place (tW cells off v.cells) rest else none
theorem Sp(off:Nat):∀(vs:List Value) (k:Nat) (cs:Array Value),off+k+vs.length<=cs.size->
  ((vs.zipIdx k).foldl (fun(cs:Array Value) (x:Value×Nat)=>cs.setIfInBounds (off+x.2) x.1) cs).toList=cs.toList.take (off+k)++vs++cs.toList.drop (off+k+vs.length)
 |[],k,cs,h=>by simp
 |v::vs,k,cs,h=>by
  simp only[List.zipIdx_cons,HC];rw[Sp off vs (k+1) _ (by simp at h⊢;omega)]
  have e:=list_seg_step cs.toList (off+k) v vs (by simp at h⊢;omega)
  simpa[Array.toList_setIfInBounds,uE]using e
theorem Eh{E:Env}{W:World}{place:Nat->Option (Nat×Nat)}:∀(ps:List (Nat×AV)) (qs:List (Nat×Value)) (xs ys:List AV) (cs:Array Value),
  ps.length=qs.length->(∀(i:Nat) p q,ps[i]? =some p->qs[i]? =some q->p.1=q.1/\RV E W p.2 q.2)->bP E W xs cs.toList->EC place xs ps=some ys->
  ∃ds,Instr.fill place cs qs=some ds/\bP E W ys ds.toList/\ys.length=xs.length
 |[],[],xs,ys,cs,_,_,hx,hf=>by simp only[EC,bB]at hf;subst hf;exact⟨cs,rfl,hx,rfl⟩
 |[],_::_,_,_,_,hl,_,_,_=>by simp at hl
 |_::_,[],_,_,_,hl,_,_,_=>by simp at hl
 |(i,a)::ps,(k,v)::qs,xs,ys,cs,hl,h,hx,hf=>by
  obtain⟨fE,Sr⟩:=h 0 _ _ rfl rfl;simp only at fE Sr;subst fE;unfold EC at hf;unfold Instr.fill;cases hp:place i with
  |none=>simp[hp]at hf
  |some q=>
   obtain⟨off,size⟩:=q;simp only[hp]at hf⊢;split at hf
   ·rename_i hc
    have yD:=Sr.Ee;have Co:v.cells.size=size:=by have:=yD.1;simp at this;omega
    have pC:=hx.1;simp at pC;have gG:¬(v.cells.size≠size\/off+v.cells.size>cs.size):=by omega
    have Ss:(v.cells.size !=size||decide (off+v.cells.size>cs.size))=false:=by simp;omega
    simp only[bne_iff_ne,ne_eq,ES,decide_eq_true_eq]at Ss⊢;rw[if_neg (by simp;omega)]
    have aO4:=Sp off v.cells.toList 0 cs (by simp;omega)
    have heq:(v.cells.zipIdx.foldl (fun(cs:Array Value) (x:Value×Nat)=>cs.setIfInBounds (off+x.2) x.1) cs).toList=cs.toList.take off++v.cells.toList++cs.toList.drop (off+v.cells.size):=by
     rw[<-Array.foldl_toList,Array.toList_zipIdx];simpa using aO4
    have tD:bP E W (tW xs off a.cells) (v.cells.zipIdx.foldl (fun(cs:Array Value) (x:Value×Nat)=>cs.setIfInBounds (off+x.2) x.1) cs).toList:=by
     rw[heq];have h1:=yD.1;simp at h1;unfold tW;rw[h1];exact((hx.take off).append yD).append (hx.drop _)
    obtain⟨ds,h1,h2,h3⟩:=Eh ps qs _ ys _ (by simpa using hl) (fun i p q hp hq=>h (i+1) p q (by simpa using hp) (by simpa using hq)) tD hf
    exact⟨ds,h1,h2,by rw[h3,Sb (by omega)]⟩
   ·cases hf
def zM(g:Operand->Option AV):List (Nat×Operand)->Option (List (Nat×AV))
 |[]=>some []
 |(i,x)::r=>match g x,zM g r with
  |some a,some l=>some ((i,a)::l)
  |_,_=>none
theorem Ei{E:Env}{W:World}{g:Operand->Option AV}{ρ:Operand->Value}(aW:∀x b,g x=some b->RV E W b (ρ x)):∀(ps:List (Nat×Operand)) (as:List (Nat×AV)),zM g ps=some as->
  as.length=(ps.map fun(i,x)=>(i,ρ x)).length/\∀(i:Nat) p q,as[i]? =some p->(ps.map fun(i,x)=>(i,ρ x))[i]? =some q->p.1=q.1/\RV E W p.2 q.2
 |[],as,h=>by simp only[zM,bB]at h;subst h;exact⟨rfl,fun i p q h=>by simp at h⟩
 |(i,x)::r,as,h=>by
  simp only[zM]at h;split at h
  ·rename_i a l ha hl
   injection h with h
   subst h;obtain⟨h1,h2⟩:=Ei aW r l hl;refine⟨by simpa using h1,fun k p q hp hq=> ?_⟩
   cases k with
   |zero=>simp at hp hq;subst hp;subst hq;exact⟨rfl,aW x a ha⟩
   |succ k=>exact h2 k p q (by simpa using hp) (by simpa using hq)
  ·cases h
def eK(P:Program)(t:TypeId):Nat->Option (Nat×Nat):=
 match P.underlying t with
 |some (.struct fs)=>fun i=>(fs[i]?).bind fun f=>(dU P f.type).map fun k=>(f.offset,k)
 |some (.array _ e)=>match dU P e with
  |some k=>fun i=>some (i*k,k)
  |none=>fun _=>none
 |_=>fun _=>none
def mL(P:Program)(t:TypeId):Bool:=
 match P.underlying t with
 |some (.struct fs)=>fs.toList.all fun f=>(dU P f.type).isSome
 |some (.array _ e)=>(dU P e).isSome
 |_=>false
theorem JE{P:Program}{t:TypeId}{zs:List AV}(h:fQ P t=some zs):∃i z,P.info? t=some i/\i.zero=some z/\(∀E W,bP E W zs z.cells.toList):=by
 unfold fQ at h;cases hi:P.info? t with
 |none=>simp[hi]at h
 |some i=>
  cases hz:i.zero with
  |none=>simp[hi,hz]at h
  |some z=>
   simp only[hi,UC,hz]at h;split at h
   ·rename_i eT
    injection h with h
    subst h;exact⟨i,z,rfl,hz,fun E W=>bP.aL2 eT⟩
   ·cases h
theorem St{P:Program}(w:World):∀(fs:List Field),(fs.all fun f=>(dU P f.type).isSome)=true->
  (fs.mapM (fun f=>do pure (f.offset,<-sizeOf f.type):Field->Sem (Nat×Nat))).run P w= .ok (fs.map fun f=>(f.offset,(dU P f.type).getD 0)) w
 |[],_=>rfl
 |f::fs,h=>by
  simp only[KV,jX]at h;obtain⟨k,hk⟩:=Z6.1 h.1;have ih:=St w fs h.2;simp only[List.mapM_cons,Sem.run_bind,run_sizeOf hk,Result.andThen_ok,Sem.run_pure,ih,jW,hk,qR]
theorem aO5{P:Program}{t:TypeId}{i:TypeInfo}{z:Value}(hi:P.info? t=some i)(hz:i.zero=some z)(hb:mL P t=true)(qs:Array (Nat×Value))(ds:Array Value)
  (hf:Instr.fill (eK P t) z.cells qs.toList=some ds) (w:World):(Instr.build t qs).run P w= .ok (.agg ds) w:=by
 unfold mL at hb;have RZ:(zeroValue t).run P w= .ok z w:=by simp[zeroValue,run_typeInfo hi,hz]
 split at hb
 ·rename_i fs hu
  have hm:=St (P:=P) w fs.toList hb
  have r4:(fs.mapM (fun f=>do pure (f.offset,<-sizeOf f.type):Field->Sem (Nat×Nat))).run P w= .ok (fs.toList.map fun f=>(f.offset,(dU P f.type).getD 0)).toArray w:=by
   rw[bv9,Sem.run_map,hm];rfl
  have hp:eK P t=fun i=>(fs.toList.map fun f=>(f.offset,(dU P f.type).getD 0)).toArray[i]? :=by
   funext k
   simp only[eK,hu,vR,iA,yP];cases hk:fs[k]? with
   |none=>rfl
   |some f=>
    have:=gK.1 hb f (by rw[EW];exact HH hk)
    obtain⟨s,hs⟩:=Z6.1 this;simp[hs]
  rw[hp]at hf;unfold Instr.build;simp only[Sem.run_bind,RZ,Result.andThen_ok,run_underlying hu,r4,hf,Sem.run_pure]
 ·rename_i n e hu
  obtain⟨s,hs⟩:=Z6.1 hb
  have hp:eK P t=fun i=>some (i*s,s):=by
   funext k
   simp only[eK,hu,hs]
  rw[hp]at hf;unfold Instr.build;simp only[Sem.run_bind,RZ,Result.andThen_ok,run_underlying hu,run_sizeOf hs,hf,Sem.run_pure]
 ·cases hb
section
variable {P : Program} {g : Operand -> Option AV} {G : Nat -> Option aI} {aG : Nat} {dst : Option Tmp} {ty : TypeId} {pos : String} {after : Array Edge} {guard : Option (Nat × Bool)}
theorem aO6{t:TypeId}{zs:List AV}(hz:fQ P t=some zs):
  eJ P g G aG ⟨dst,.alloc t,ty,pos,after,guard⟩ (.ptr aG 0 0) (aS G [(aG,some (.cells t zs.length [zs] true false))]):=fun E W ρ hG hn aW=>by
 obtain⟨i,z,hi,tX,hr⟩:=JE hz;obtain⟨h1,h2,h3⟩:=Sm (hr E W);refine⟨_,.pointer (some ⟨W.heap.size,0,none⟩),_,.inl ?_,bD.alloc hG hn (.cells z.cells t) zs.length,hG.alloc hn t z.cells zs.length [zs] true false h1 h2 h3,?_,fun id h=>h.imp (fun h=>h) (fun e=>⟨e,by simp[aS]⟩)⟩
 ·simp[execOp,Instr.alloc,zeroValue,run_typeInfo hi,tX,newVar,newRow]
 ·have:=RV.ptr (E:=E.more aG W.heap.size zs.length) (W:=W.alloc (.cells z.cells t)) aG 0 0 (.inr rfl)
  simpa[Env.more]using this
theorem aO7{t:TypeId}{x:Operand}{a:AV}(hx:g x=some a):
  eJ P g G aG ⟨dst,.box t x,ty,pos,after,guard⟩ (.ptr aG 0 0) (aS G [(aG,some (.cells t a.cells.length [a.cells] true false))]):=fun E W ρ hG hn aW=>by
 obtain⟨h1,h2,h3⟩:=Sm (aW x a hx).Ee;refine⟨_,.pointer (some ⟨W.heap.size,0,none⟩),_,.inl ?_,bD.alloc hG hn (.cells (ρ x).cells t) a.cells.length,hG.alloc hn t (ρ x).cells a.cells.length [a.cells] true false h1 h2 h3,?_,fun id h=>h.imp (fun h=>h) (fun e=>⟨e,by simp[aS]⟩)⟩
 ·simp[execOp,Instr.box,newVar,newRow]
 ·have:=RV.ptr (E:=E.more aG W.heap.size a.cells.length) (W:=W.alloc (.cells (ρ x).cells t)) aG 0 0 (.inr rfl)
  simpa[Env.more]using this
theorem aO8{t:TypeId}{parts:Array (Nat×Operand)}{zs:List AV}{ps:List (Nat×AV)}{ys:List AV}(hz:fQ P t=some zs)(hb:mL P t=true)(hp:zM g parts.toList=some ps)
  (hf:EC (eK P t) zs ps=some ys):eJ P g G aG ⟨dst,.build t parts,ty,pos,after,guard⟩ (.agg ys) G:=
 .still fun E W ρ hG aW=>by
   obtain⟨i,z,hi,tX,hr⟩:=JE hz;obtain⟨h1,h2⟩:=Ei aW parts.toList ps hp;obtain⟨ds,h3,h4,_⟩:=Eh ps _ zs ys z.cells h1 h2 (hr E W) hf;refine⟨.agg ds,?_,.agg _ _ (by simpa using h4.1) fun i x v hx hv=>h4.2 i x v hx (by simpa using hv)⟩
   simp only[execOp];rw[Sem.run_bind,aO5 hi tX hb _ ds (by simpa using h3) W]
   rfl
theorem vJ{t e:TypeId}{k:Nat}(h:fC P t=some (e,k)):P.underlying t=some (.slice e)/\dU P e=some k:=by
 unfold fC at h;split at h
 ·rename_i e' hu
  cases hk:dU P e' with
  |none=>simp[hk]at h
  |some k'=>simp[hk]at h;obtain⟨rfl,rfl⟩:=h;exact⟨hu,hk⟩
 ·cases h
theorem S3{t e:TypeId}{n k:Nat}(h:qC P t=some (n,e,k)):P.underlying t=some (.array n e)/\dU P e=some k:=by
 unfold qC at h;split at h
 ·rename_i n' e' hu
  cases hk:dU P e' with
  |none=>simp[hk]at h
  |some k'=>simp[hk]at h;obtain⟨rfl,rfl,rfl⟩:=h;exact⟨hu,hk⟩
 ·cases h
theorem aO9{zs:List AV}{vs:Array Value}{E:Env}{W:World}(h:bP E W zs vs.toList)(len:Nat):
  bP E W (List.replicate len zs).flatten ((Array.range (len*vs.size)).map (fun i=>vs[i % vs.size]!)).toList:=by
 have hl:=h.1;simp at hl
 have key:∀len,((Array.range (len*vs.size)).map (fun i=>vs[i % vs.size]!)).toList=(List.replicate len vs.toList).flatten:=by
  intro len;apply BS;intro i
  have lY:∀len,(List.replicate len vs.toList).flatten.length=len*vs.size:=by
   intro len;simp
  by_cases hi:i<len*vs.size
  ·have hs:0<vs.size:=by rcases Jb vs.size with h0|h0<;>simp_all
   have:∀(len i:Nat),i<len*vs.size->(List.replicate len vs.toList).flatten[i]? =vs[i % vs.size]? :=by
    intro len
    induction len with
    |zero=>intro i hi;simp at hi
    |succ len ih=>
     intro i hi;rw[uB]at hi;simp only[KS,UD];by_cases bG:i<vs.size
     ·rw[lT (by simpa using bG),D3 bG];simp
     ·rw[lD (by simpa using Ys bG),ih _ (by simp;omega),<-Yq (Ys bG)|>.symm]
      simp[Yq (Ys bG)]
   rw[this len i hi];have hm:=PD i hs;simp[hi,hm]
  ·rw[ET (by simp;omega),ET (by rw[lY];omega)]
 rw[key]
 induction len with
 |zero=>exact .nil
 |succ len ih=>simp only[KS,UD];exact h.append ih
theorem aP2{t e:TypeId}{k len:Nat}{parts:Array (Nat×Operand)}{zs:List AV}{ps:List (Nat×AV)}{ys:List AV}(ht:fC P t=some (e,k))(hz:fQ P e=some zs)(ED:zs.length=k)
  (bK4:len*k<=16777216) (hp:zM g parts.toList=some ps) (hf:EC (fun i=>some (i*k,k)) (List.replicate len zs).flatten ps=some ys):
  eJ P g G aG ⟨dst,.buildSlice t len parts,ty,pos,after,guard⟩ (.own aG 0 len) (aS G [(aG,some (.cells e k (chunk k len ys) true true))]):=fun E W ρ hG hn aW=>by
 obtain⟨hu,hk⟩:=vJ ht;obtain⟨i,z,hi,tX,hr⟩:=JE hz;obtain⟨h1,h2⟩:=Ei aW parts.toList ps hp;have QQ:z.cells.size=k:=by have:=(hr E W).1;simp at this;omega
 have Su:=aO9 (hr E W) len;rw[QQ]at Su;obtain⟨ds,h3,h4,h5⟩:=Eh ps _ _ ys _ h1 h2 Su hf;have Ej:ys.length=len*k:=by rw[h5];simp[ED]
 obtain⟨h6,h7,h8⟩:=aO3 h4 Ej;have hds:ds.size=len*k:=by have:=h4.1;simp at this;omega
 refine⟨_,.slice (some ⟨W.heap.size,0,none⟩) len len,_,.inl ?_,bD.alloc hG hn (.cells ds e) k,hG.alloc hn e ds k _ true true h6 h7 h8,?_,fun id h=>h.imp (fun h=>h) (fun e=>⟨e,by simp[aS]⟩)⟩
 ·have W5:¬(len*k>2 ^ 24):=by omega
  simp only[execOp,Instr.buildSlice,Sem.run_bind,run_underlying hu,run_sizeOf hk,Result.andThen_ok,W5,if_false,Sem.run_ite]
  have sZ:∀c:Array Value,(Array.range (len*k)).map (fun i=>c[i % c.size]!)=(Array.range (len*k)).map (fun i=>z.cells[i % k]!)->Instr.fill (fun i=>some (i*k,k)) ((Array.range (len*k)).map (fun i=>c[i % c.size]!)) (parts.map fun(i,x)=>(i,ρ x)).toList=some ds:=by
   intro c hc;rw[hc];simpa using h3
  by_cases h0:len*k=0
  ·simp only[h0,if_true,Sem.run_pure,Result.andThen_ok]
   have:=sZ #[] (by rw[h0];simp)
   rw[h0]at this;simp only[Jh]at this;simp only[Jh,this,newRow,Sem.run_bind,run_newObj_alloc,Result.andThen_ok,Sem.run_pure,Sem.run_map]
  ·simp only[h0,if_false,zeroValue,Sem.run_bind,run_typeInfo hi,Result.andThen_ok,tX,Sem.run_pure]
   have:=sZ z.cells (by rw[QQ])
   simp only[Jh]at this;simp only[Jh,this,newRow,Sem.run_bind,run_newObj_alloc,Result.andThen_ok,Sem.run_pure,Sem.run_map]
 ·have:=RV.own (E:=E.more aG W.heap.size k) (W:=W.alloc (.cells ds e)) aG 0 len len (.inr rfl) (cA _) ⟨ds,e,(0,0),by simp only[Env.more,if_true];exact heap_alloc_new W _,by simp[Env.more];omega⟩
  simpa[Env.more]using this
end
end Go.AL
namespace Go.AL
open Go.RowKit
section
variable {P : Program} {g : Operand -> Option AV} {G : Nat -> Option aI} {aG : Nat} {dst : Option Tmp} {ty : TypeId} {pos : String} {after : Array Edge} {guard : Option (Nat × Bool)}
theorem Sv{t e:TypeId}{k:Nat}(ht:fC P t=some (e,k))(b p len cap:Nat)(ik:IntKind)(i:Int)(h0:0<=i)(h1:i<len)(w:World):
  (Instr.indexAt t (.slice (some ⟨b,p,none⟩) len cap) (.int ik i)).run P w= .ok (.pointer (some ⟨b,p+i.toNat*k,none⟩)) w:=by
 obtain⟨hu,hk⟩:=vJ ht;simp[Instr.indexAt,run_underlying hu,asIntOf,h0,h1,run_sizeOf hk,Addr.add_lit]
theorem Sw{t e:TypeId}{n k:Nat}(ht:qC P t=some (n,e,k))(b p:Nat)(ik:IntKind)(i:Int)(h0:0<=i)(h1:i<n)(w:World):
  (Instr.indexAt t (.pointer (some ⟨b,p,none⟩)) (.int ik i)).run P w= .ok (.pointer (some ⟨b,p+i.toNat*k,none⟩)) w:=by
 obtain⟨hu,hk⟩:=S3 ht;simp[Instr.indexAt,run_underlying hu,asIntOf,h0,h1,run_sizeOf hk,Addr.add_lit,Instr.sureAddr]
theorem aP3{t e:TypeId}{k:Nat}{x y:Operand}{id off len:Nat}{ik:IntKind}{i:Int}{e':TypeId}{rows:List (List AV)}{w ap:Bool}(ht:fC P t=some (e,k))(hx:g x=some (.own id off len))(hy:g y=some (.c (.int ik i)))
  (hg:G id=some (.cells e' k rows w ap)) (h0:0<=i) (h1:i<len):
  eJ P g G aG ⟨dst,.indexAddr t x y,ty,pos,after,guard⟩ (.ptr id (off+i.toNat) 0) G:=
 .still fun E W ρ hG aW=>by
   have h2:=aW x _ hx;have h3:=aW y _ hy;generalize cF:ρ x=vx at h2;generalize k8:ρ y=vy at h3;cases h3;have dX:E.sz id=k:=(hG.ok id _ hg).2.1;cases h2 with
   |own _ _ _ cap aC eA hs=>
    refine⟨_,by simp only[execOp,cF,k8];rw[Sem.run_bind,Sv ht _ _ _ _ _ _ h0 h1];rfl,?_⟩
    have:=RV.ptr (E:=E) (W:=W) id (off+i.toNat) 0 aC;rw[dX,nX,BU]at this;rw[dX];exact this
   |mF _ _ a aC=>omega
theorem aP4{t e:TypeId}{k:Nat}{x y:Operand}{rows:List (List AV)}{ik:IntKind}{i:Int}{row:List AV}(ht:fC P t=some (e,k))(hx:g x=some (.snap rows))(hy:g y=some (.c (.int ik i)))
  (h0:0<=i) (hr:rows[i.toNat]? =some row) (hk:row.length=k):
  eJ P g G aG ⟨dst,.indexAddr t x y,ty,pos,after,guard⟩ (.dJ rows i.toNat 0) G:=
 .still fun E W ρ hG aW=>by
   have h2:=aW x _ hx;have h3:=aW y _ hy;generalize cF:ρ x=vx at h2;generalize k8:ρ y=vy at h3;cases h3;have bG:i.toNat<rows.length:=(dS.1 hr).1;cases h2 with
   |snap _ b off s n cap vs hn oG hs hL hc Ek=>
    have lF:s=k:=by rw[<-hk];exact(hs _ _ hr).symm
    subst lF;refine⟨_,by simp only[execOp,cF,k8];rw[Sem.run_bind,Sv ht _ _ _ _ _ _ h0 (by omega)];rfl,?_⟩
    have:=RV.dJ (E:=E) (W:=W) rows i.toNat 0 b off s vs hs hL hc Ek;rw[BU]at this;exact this
   |kY a cap=>simp at bG
theorem aP5{t e:TypeId}{n k:Nat}{x y:Operand}{id r o:Nat}{ik:IntKind}{i:Int}(ht:qC P t=some (n,e,k))(hx:g x=some (.ptr id r o))(hy:g y=some (.c (.int ik i)))(h0:0<=i)(h1:i<n):
  eJ P g G aG ⟨dst,.indexAddr t x y,ty,pos,after,guard⟩ (.ptr id r (o+i.toNat*k)) G:=
 .still fun E W ρ hG aW=>by
   have h2:=aW x _ hx;have h3:=aW y _ hy;generalize cF:ρ x=vx at h2;generalize k8:ρ y=vy at h3;cases h3;cases h2 with
   |ptr _ _ _ aC=>
   refine⟨_,by simp only[execOp,cF,k8];rw[Sem.run_bind,Sw ht _ _ _ _ h0 h1];rfl,?_⟩
   rw[uE];exact .ptr id r _ aC
theorem aP6{t e:TypeId}{n k:Nat}{x y:Operand}{rows:List (List AV)}{r o:Nat}{ik:IntKind}{i:Int}(ht:qC P t=some (n,e,k))(hx:g x=some (.dJ rows r o))(hy:g y=some (.c (.int ik i)))(h0:0<=i)(h1:i<n):
  eJ P g G aG ⟨dst,.indexAddr t x y,ty,pos,after,guard⟩ (.dJ rows r (o+i.toNat*k)) G:=
 .still fun E W ρ hG aW=>by
   have h2:=aW x _ hx;have h3:=aW y _ hy;generalize cF:ρ x=vx at h2;generalize k8:ρ y=vy at h3;cases h3;cases h2 with
   |dJ _ _ _ b p s vs hs hL hc hr=>
   refine⟨_,by simp only[execOp,cF,k8];rw[Sem.run_bind,Sw ht _ _ _ _ h0 h1];rfl,?_⟩
   have:=RV.dJ (E:=E) (W:=W) rows r (o+i.toNat*k) b p s vs hs hL hc hr;rw[<-uE,<-uE]at this;rw[<-uE];exact this
theorem aP7{t e:TypeId}{n k:Nat}{x y:Operand}{xs:List AV}{ik:IntKind}{i:Int}{a:AV}(ht:qC P t=some (n,e,k))(hx:g x=some (.agg xs))(hy:g y=some (.c (.int ik i)))(h0:0<=i)(h1:i<n)
  (hp:qY P e xs (i.toNat*k)=some a):eJ P g G aG ⟨dst,.index t x y,ty,pos,after,guard⟩ a G:=
 .still fun E W ρ hG aW=>by
   have h2:=aW x _ hx;have h3:=aW y _ hy;generalize cF:ρ x=vx at h2;generalize k8:ρ y=vy at h3;cases h3;cases h2 with
   |agg _ vs hl h=>
   obtain⟨hu,hk⟩:=S3 ht;obtain⟨v,h4,h5⟩:=MQ (P:=P) (E:=E) (W:=W) (vs:=vs) ⟨by simpa using hl,fun i x v hx hv=>h i x v hx (by simpa using hv)⟩ hp
   exact⟨v,by simp[execOp,cF,k8,Instr.index,run_underlying hu,asIntOf,h0,h1,run_sizeOf hk,h4],h5⟩
theorem aP8{t:TypeId}{x y:Operand}{s:ByteArray}{ik:IntKind}{i:Int}{b:UInt8}(ht:mW P t isString=true)(hx:g x=some (.c (.string s)))(hy:g y=some (.c (.int ik i)))(h0:0<=i)(hb:s[i.toNat]? =some b):
  eJ P g G aG ⟨dst,.index t x y,ty,pos,after,guard⟩ (.c (.int .u8 b.toNat)) G:=
 .still fun E W ρ hG aW=>by
   have h2:=aW x _ hx;have h3:=aW y _ hy;generalize cF:ρ x=vx at h2;generalize k8:ρ y=vy at h3;cases h3;cases h2
   have hu:P.underlying t=some .string:=by
    unfold mW at ht;cases hu:P.underlying t with
    |none=>simp[hu]at ht
    |some d=>simp[hu]at ht;cases d<;>simp_all [isString]
   exact⟨_,by simp[execOp,cF,k8,Instr.index,run_underlying hu,asIntOf,h0,hb],.c _ rfl⟩
theorem aP9{t e:TypeId}{k:Nat}(ht:fC P t=some (e,k))(ty:TypeId)(base:Option Addr)(n c:Nat)(w:World):(Builtin.len_ #[t] ty #[.slice base n c]).run P w= .ok (.int .i64 n) w:=by
 simp[Builtin.len_,run_underlying (vJ ht).1,goInt]
theorem zN{ρ:Operand->Value}(b:Builtin)(as:Array Operand)(ts:Array TypeId):execOp ρ ⟨dst,.call ⟨.builtin b,as,ts⟩,ty,pos,after,guard⟩=builtin b ts ty (as.map fun| .const _=>true|_=>false) (as.map ρ):=rfl
def S4:AV->Option Nat
 | .c (.slice _ 0 _)=>some 0
 | .snap rows=>some rows.length
 | .own _ _ len=>some len
 | .sub _ _ _ len=>some len
 |_=>none
theorem aQ2{E:Env}{W:World}{a:AV}{v:Value}(r:RV E W a v){n:Nat}(h:S4 a=some n):∃base cap,v= .slice base n cap/\n<=cap:=by
 unfold S4 at h;split at h<;>simp only[bB,reduceCtorEq]at h
 ·subst h;cases r;exact⟨_,_,rfl,mT _⟩
 ·subst h
  cases r with
  |snap _ b off s n cap vs hn oG=>subst hn;exact⟨_,cap,rfl,oG⟩
  |kY a cap=>exact⟨a,cap,rfl,mT _⟩
 ·subst h
  cases r with
  |own _ _ _ cap aC eA hs=>exact⟨_,cap,rfl,eA⟩
  |mF _ _ a aC=>exact⟨_,0,rfl,cA _⟩
 ·subst h
  cases r with
  |sub _ _ _ _ cap aC eA hs=>exact⟨_,cap,rfl,eA⟩
theorem aQ3{t e:TypeId}{k n:Nat}{x:Operand}{a:AV}(ht:fC P t=some (e,k))(hx:g x=some a)(hn:S4 a=some n):
  eJ P g G aG ⟨dst,.call ⟨.builtin .len,#[x],#[t]⟩,ty,pos,after,guard⟩ (.c (.int .i64 n)) G:=
 .still fun E W ρ hG aW=>by
   obtain⟨base,cap,hv,_⟩:=aQ2 (aW x a hx) hn;refine⟨_,?_,.c _ rfl⟩;rw[zN];simp only[builtin,zU,jW,sM,hv];rw[Sem.run_bind,aP9 ht];rfl
theorem aQ4{t:TypeId}{x:Operand}{s:ByteArray}(ht:mW P t isString=true)(hx:g x=some (.c (.string s))):
  eJ P g G aG ⟨dst,.call ⟨.builtin .len,#[x],#[t]⟩,ty,pos,after,guard⟩ (.c (.int .i64 s.size)) G:=
 .still fun E W ρ hG aW=>by
   have h2:=aW x _ hx;generalize cF:ρ x=vx at h2;cases h2
   have hu:P.underlying t=some .string:=by
    unfold mW at ht;cases hu:P.underlying t with
    |none=>simp[hu]at ht
    |some d=>simp[hu]at ht;cases d<;>simp_all [isString]
   refine⟨_,?_,.c _ rfl⟩;rw[zN];simp only[builtin,zU,jW,sM,cF];simp[Builtin.len_,run_underlying hu,goInt]
theorem aQ5{ts:Array TypeId}{x y:Operand}{k k':IntKind}{a b:Int}(hx:g x=some (.c (.int k a)))(hy:g y=some (.c (.int k' b))):
  eJ P g G aG ⟨dst,.call ⟨.builtin .max,#[x,y],ts⟩,ty,pos,after,guard⟩ (.c (.int k (if b>a then b else a))) G:=
 .still fun E W ρ hG aW=>by
   have h2:=aW x _ hx;have h3:=aW y _ hy;generalize cF:ρ x=vx at h2;generalize k8:ρ y=vy at h3;cases h2;cases h3;refine⟨_,?_,.c _ rfl⟩;rw[zN];simp only[builtin,zU,jW,sM,cF,k8];rw[Sem.run_bind,run_max_int2];rfl
theorem aQ6{ts:Array TypeId}{x y:Operand}{k k':IntKind}{a b:Int}(hx:g x=some (.c (.int k a)))(hy:g y=some (.c (.int k' b))):
  eJ P g G aG ⟨dst,.call ⟨.builtin .min,#[x,y],ts⟩,ty,pos,after,guard⟩ (.c (.int k (if b<a then b else a))) G:=
 .still fun E W ρ hG aW=>by
   have h2:=aW x _ hx;have h3:=aW y _ hy;generalize cF:ρ x=vx at h2;generalize k8:ρ y=vy at h3;cases h2;cases h3;refine⟨_,?_,.c _ rfl⟩;rw[zN];simp only[builtin,zU,jW,sM,cF,k8];rw[Sem.run_bind,run_min_int2];rfl
def hO(g:Operand->Option AV)(d:Int):Option Operand->Option Int
 |none=>some d
 |some x=>match g x with
  |some (.c (.int _ n))=>some n
  |_=>none
theorem JF{E:Env}{W:World}{ρ:Operand->Value}(aW:∀x b,g x=some b->RV E W b (ρ x)){d n:Int}{lo:Option Operand}(h:hO g d lo=some n):
  (lo=none/\n=d)\/∃k,lo.map ρ=some (.int k n):=by
 unfold hO at h;split at h
 ·injection h with h;exact .inl ⟨rfl,h.symm⟩
 ·rename_i x
  split at h
  ·rename_i k n' hx
   injection h with h
   subst h;have:=aW x _ hx;generalize cF:ρ x=vx at this;cases this;exact .inr ⟨k,by simp[cF]⟩
  ·cases h
theorem S5{ρ:Operand->Value}{E:Env}{W:World}(aW:∀x b,g x=some b->RV E W b (ρ x)){t e:TypeId}{k:Nat}(ht:fC P t=some (e,k))(base:Option Addr)(len cap:Nat){lo hi:Option Operand}{l h:Int}
  (hl:hO g 0 lo=some l) (hh:hO g len hi=some h) (h0:0<=l) (h1:l<=h) (h2:h<=cap):
  (Instr.sliceAt t (.slice base len cap) (lo.map ρ) (hi.map ρ) none).run P W= .ok (.slice (if(cap:Int)=l then base else base.map (·.add (l.toNat*k))) (h-l).toNat (cap-l.toNat)) W:=by
 obtain⟨hu,hk⟩:=vJ ht;have hb:(cap=l.toNat)↔((cap:Int)=l):=by omega
 have e1:h.toNat-l.toNat=(h-l).toNat:=by omega
 rcases JF aW hl with⟨rfl,rfl⟩|⟨kl,xT⟩<;>rcases JF aW hh with⟨rfl,rfl⟩|⟨kh,EE⟩
 ·simp[Instr.sliceAt,run_underlying hu,Instr.slice,Instr.sliceBounds,run_sizeOf hk]
  try (by_cases hc:cap=0<;>simp[hc])
 ·simp[Instr.sliceAt,run_underlying hu,Instr.slice,Instr.sliceBounds,run_sizeOf hk,EE,Instr.sliceBound,asIntOf,h1,h2]
  try (by_cases hc:cap=0<;>simp[hc])
 ·simp[Instr.sliceAt,run_underlying hu,Instr.slice,Instr.sliceBounds,run_sizeOf hk,xT,Instr.sliceBound,asIntOf,h0,h1]
  by_cases hc:(cap:Int)=l
  ·rw[if_pos (hb.2 hc),if_pos hc];simp;omega
  ·rw[if_neg (fun h=>hc (hb.1 h)),if_neg hc];simp;omega
 ·have h3:0<=h:=by omega
  have h4:l<=max h 0:=by omega
  simp[Instr.sliceAt,run_underlying hu,Instr.slice,Instr.sliceBounds,run_sizeOf hk,xT,EE,Instr.sliceBound,asIntOf,h0,h1,h2,h3,h4];by_cases hc:(cap:Int)=l
  ·rw[if_pos (hb.2 hc),if_pos hc];simp;omega
  ·rw[if_neg (fun h=>hc (hb.1 h)),if_neg hc];simp;omega
theorem aQ7{t e:TypeId}{k:Nat}{x:Operand}{rows:List (List AV)}{lo hi:Option Operand}{l h:Int}(ht:fC P t=some (e,k))(hx:g x=some (.snap rows))(hl:hO g 0 lo=some l)(hh:hO g rows.length hi=some h)
  (h0:0<=l) (h1:l<=h) (h2:h<=rows.length) (hw:rows.all (fun r=>r.length==k)=true):
  eJ P g G aG ⟨dst,.slice t x lo hi none,ty,pos,after,guard⟩ (.snap ((rows.drop l.toNat).take (h-l).toNat)) G:=
 .still fun E W ρ hG aW=>by
   have h3:=aW x _ hx;generalize cF:ρ x=vx at h3;cases h3 with
   |kY a cap=>
    simp at h2;refine⟨_,by simp only[execOp,cF,L2];rw[Sem.run_bind,S5 aW ht a 0 cap hl (show hO g ((0:Nat):Int) hi=some h from hh) h0 h1 (by omega)];rfl,?_⟩
    have:(h-l).toNat=0:=by omega
    rw[this];simp;exact .kY _ _
   |snap _ b off s n cap vs hn oG hs hL hc hr=>
    subst hn;refine⟨_,by simp only[execOp,cF,L2];rw[Sem.run_bind,S5 aW ht _ rows.length cap hl hh h0 h1 (by omega)];rfl,?_⟩
    by_cases hz:h=l
    ·have:(h-l).toNat=0:=by omega
     rw[this];simp;exact .kY _ _
    ·have aM:¬((cap:Int)=l):=by omega
     rw[if_neg aM];have bG:l.toNat<rows.length:=by omega
     have lF:s=k:=by
      have h4:=hs l.toNat _ (fU bG);have h5:=gK.1 hw _ (D2 bG);simp at h5;omega
     subst lF
     have hmul:l.toNat*s+(h-l).toNat*s<=rows.length*s:=by
      rw[<-nX];exact mU s (by omega)
     have hlen:((rows.drop l.toNat).take (h-l).toNat).length=(h-l).toNat:=by simp;omega
     have bX:∀(i:Nat) row,((rows.drop l.toNat).take (h-l).toNat)[i]? =some row->rows[l.toNat+i]? =some row:=fun i row hr=>by
      rw[gF]at hr;split at hr
      ·rwa[m9]at hr
      ·cases hr
     have:=RV.snap (E:=E) (W:=W) ((rows.drop l.toNat).take (h-l).toNat) b (off+l.toNat*s) s (h-l).toNat (cap-l.toNat) (fun i j=>vs (l.toNat+i) j) hlen.symm (by omega) (fun i row hr=>hs _ row (bX i row hr)) (by rw[hlen];omega)
      (fun i j row x h4 h5=>by rw[<-hc _ j row x (bX i row h4) h5];congr 2;rw[nX];omega) (fun i j row x h4 h5=>hr _ j row x (bX i row h4) h5)
     simpa[Addr.add_lit]using this
theorem aQ8{t e:TypeId}{k:Nat}{x:Operand}{id off len:Nat}{e':TypeId}{rows:List (List AV)}{w ap:Bool}{lo hi:Option Operand}{l h:Int}(ht:fC P t=some (e,k))(hx:g x=some (.own id off len))(hg:G id=some (.cells e' k rows w ap))
  (hl:hO g 0 lo=some l) (hh:hO g len hi=some h) (h0:0<=l) (h1:l<=h) (h2:h<=len):
  eJ P g G aG ⟨dst,.slice t x lo hi none,ty,pos,after,guard⟩ (.own id (off+l.toNat) (h-l).toNat) G:=
 .still fun E W ρ hG aW=>by
   have h3:=aW x _ hx;generalize cF:ρ x=vx at h3;have dX:E.sz id=k:=(hG.ok id _ hg).2.1;cases h3 with
   |own _ _ _ cap aC eA hs=>
    refine⟨_,by simp only[execOp,cF,L2];rw[Sem.run_bind,S5 aW ht _ len cap hl hh h0 h1 (by omega)];rfl,?_⟩
    by_cases hc:(cap:Int)=l
    ·rw[if_pos hc]
     have e1:(h-l).toNat=0:=by omega
     have e2:cap-l.toNat=0:=by omega
     rw[e1,e2];exact .mF _ _ _ aC
    ·rw[if_neg hc]
     obtain⟨cur,e2,f,h4,h5⟩:=hs;have:=RV.own (E:=E) (W:=W) id (off+l.toNat) (h-l).toNat (cap-l.toNat) aC (by omega) ⟨cur,e2,f,h4,by rw[show off+l.toNat+(cap-l.toNat)=off+cap by omega];exact h5⟩
     rw[dX]at this⊢;simpa[Addr.add_lit,nX]using this
   |mF _ _ a aC=>
    refine⟨_,by simp only[execOp,cF,L2];rw[Sem.run_bind,S5 aW ht _ 0 0 hl (show hO g ((0:Nat):Int) hi=some h from hh) h0 h1 (by omega)];rfl,?_⟩
    have e1:(h-l).toNat=0:=by omega
    have e3:((0:Nat):Int)=l:=by omega
    rw[if_pos e3,e1,Nat.zero_sub];exact .mF _ _ _ aC
end
end Go.AL
namespace Go.AL
open Go.RowKit
def aI.le:aI->aI->Prop
 | .cells e s rows w a,.cells e' s' dZ w' a'=>e=e'/\s=s'/\rows=dZ/\(w=true->w'=true)/\(a=true->a'=true)
 | .map es,.map es'=>es=es'
 | .iter m n s,.iter m' n' s'=>m=m'/\n=n'/\s=s'
 | .cJ a b c d e f g,.cJ a' b' c' d' e' f' g'=>(∀t x,lk a t=some x->lk a' t=some x)/\b=b'/\c=c'/\d=d'/\e=e'/\f=f'/\g=g'
 |_,_=>False
theorem aI.le_refl(b:aI):b.le b:=by
 cases b with
 |map es=>exact rfl
 |iter=>exact⟨rfl,rfl,rfl⟩
 |cJ=>exact⟨fun _ _ h=>h,rfl,rfl,rfl,rfl,rfl,rfl⟩
 |cells e s rows w a=>exact⟨rfl,rfl,rfl,fun h=>h,fun h=>h⟩
theorem RC.S6{E:Env}{W:World}{G G':Nat->Option aI}(hG:RC E W G)(h:∀id b',G' id=some b'->∃b,G id=some b/\b'.le b):RC E W G' where
 lim:=hG.lim
 eX:=hG.eX
 ok:=fun id b' hb=>by
  obtain⟨b,h1,h2⟩:=h id b' hb;obtain⟨hU,cK⟩:=hG.ok id b h1;refine⟨hU,?_⟩;cases b' with
  |map es=>
   cases b with
   |cells=>exact h2.elim
   |cJ=>exact h2.elim
   |iter=>exact h2.elim
   |map es0=>
   obtain rfl:es=es0:=h2;obtain⟨h3,h4,h5⟩:=cK;refine⟨h3,h4,fun aK cY aM hg=> ?_⟩
   obtain⟨b0,cO,_⟩:=h aK cY hg;exact h5 aK b0 aM cO
  |iter=>
   cases b with
   |cells=>exact h2.elim
   |cJ=>exact h2.elim
   |map=>exact h2.elim
   |iter=>
   obtain⟨rfl,rfl,rfl⟩:=h2;obtain⟨h3,h4,h5⟩:=cK;refine⟨h3,h4,fun aK cY aM hg=> ?_⟩
   obtain⟨b0,cO,_⟩:=h aK cY hg;exact h5 aK b0 aM cO
  |cJ=>
   cases b with
   |cells=>exact h2.elim
   |map=>exact h2.elim
   |iter=>exact h2.elim
   |cJ=>
   obtain⟨hle,rfl,rfl,rfl,rfl,rfl,rfl⟩:=h2;obtain⟨⟨fn,tmps,D,Cw,h32,h33⟩,h4,h5⟩:=cK;refine⟨⟨fn,tmps,D,Cw,h32,fun t c a ha=>h33 t c a (hle _ _ ha)⟩,h4,fun aK cY aM hg=> ?_⟩
   obtain⟨b0,cO,_⟩:=h aK cY hg;exact h5 aK b0 aM cO
  |cells e s rows w a=>
  cases b with
  |map es=>exact h2.elim
  |cJ=>exact h2.elim
  |iter=>exact h2.elim
  |cells e' s' dZ w' a'=>
  obtain⟨rfl,rfl,rfl,hw,ha⟩:=h2;obtain⟨h3,h4,h5,h6,h7⟩:=cK;refine⟨h3,h4,h5,fun GF=> ?_,fun haa=> ?_⟩
  ·obtain⟨h8,h9⟩:=h6 (hw GF)
   refine⟨h8,fun aK cY aM hg=> ?_⟩
   obtain⟨b0,cO,_⟩:=h aK cY hg;exact h9 aK b0 aM cO
  ·obtain⟨h8,h9⟩:=h7 (ha haa)
   refine⟨h8,fun aK cY aM hg he=> ?_⟩
   obtain⟨b0,cO,kC⟩:=h aK cY hg;obtain⟨rX,vU⟩:=h9 aK b0 aM cO he;cases cY with
   |map es=>exact⟨mT _,rfl⟩
   |cJ=>exact⟨mT _,rfl⟩
   |iter=>exact⟨mT _,rfl⟩
   |cells e1 s1 r1 w1 a1=>
   cases b0 with
   |map es=>exact kC.elim
   |cJ=>exact kC.elim
   |iter=>exact kC.elim
   |cells e2 s2 r2 w2 a2=>
   obtain⟨rfl,rfl,rfl,_,JA⟩:=kC;refine⟨rX,?_⟩;simp only[aI.app]at vU⊢;cases a1
   ·rfl
   ·simp_all
theorem bD.share{E:Env}{W:World}{id aG:Nat}(hU:E.U id)(hn:¬E.U aG)(s:Nat):bD E W (E.more aG (E.ι id) s) W where
 os:=rfl
 tape:=rfl
 output:=rfl
 size:=cA _
 used:=fun id h=> .inl h
 jL:=fun id h=>by
  have:id≠aG:=fun e=>hn (e▸h)
  simp[Env.more,this]
 lim:=fun b=>cA _
 yB:=fun b k hk=>rfl
 sD:=fun b hb _=>rfl
 cD:=fun b cur e f h=>⟨cur,f,h,rfl⟩
 still:=fun _ _ _=>rfl
 fresh:=fun aK h1 h2=>by
  rcases h2 with h2|h2
  ·exact absurd h2 h1
  ·subst h2;right;exact⟨id,hU,by simp[Env.more]⟩
 loops:=fun b r h=>⟨r,h,rfl⟩
def zO(e:TypeId)(k:Nat)(rows:List (List AV))(w:Bool):Option aI:=if w then none else some (.cells e k rows false false)
theorem RC.share{E:Env}{W:World}{G:Nat->Option aI}(hG:RC E W G){id aG:Nat}(hn:¬E.U aG){e:TypeId}{k:Nat}{rows GG:List (List AV)}{w:Bool}(hg:G id=some (.cells e k rows w true))
  {cur dQ:Array Value} (bU:W.heap[E.ι id]? =some (Obj.cells cur e (0,0))) (dX:dQ.size=cur.size) (hp:∀q,q<rows.length*k->dQ[q]? =cur[q]?)
  (hs:∀(i:Nat) row,GG[i]? =some row->row.length=k) (hle:rows.length<=GG.length) (Ba:GG.length*k<=cur.size)
  (hc:∀(i j:Nat) row x,GG[i]? =some row->row[j]? =some x->∃v,dQ[i*k+j]? =some v/\RV E W x v):
  bD E W (E.more aG (E.ι id) k) (W.setRow (E.ι id) dQ)/\RC (E.more aG (E.ι id) k) (W.setRow (E.ι id) dQ) (aS G [(id,zO e k rows w),(aG,some (.cells e k GG w true))]):=by
 obtain⟨hU,kL,hlen,⟨B7,k9,rG,fH⟩,hw,ha⟩:=hG.ok id _ hg;rw[bU]at k9;injection k9 with k9
 injection k9 with k9
 subst k9;obtain⟨hL,wQ⟩:=ha rfl;have Sx:id≠aG:=fun h=>hn (h▸hU)
 have nF:=bD.setRow hG hU bU dX (fun q hq=>hp q (by omega))
 have hv:=nF.trans (bD.share (W:=W.setRow (E.ι id) dQ) hU hn k);have hmul:rows.length*k<=GG.length*k:=mU k hle;have JG:∀aK,E.U aK->(E.more aG (E.ι id) k).ι aK=E.ι aK:=fun aK h=>(hv.jL aK h).1
 refine⟨hv,fun b hb=>hG.lim b (by simpa using hb),fun aK h=> ?_,fun aK b' hb=> ?_⟩
 ·rcases h with h|h
  ·rw[JG aK h];simpa using hG.eX aK h
  ·subst h;simp only[Env.more,if_true];simpa using hG.eX id hU
 ·have CN:∀cX cY,aS G [(id,zO e k rows w),(aG,some (.cells e k GG w true))] cX=some cY->
    (cX=aG/\cY= .cells e k GG w true)\/(cX≠aG/\cX=id/\w=false/\cY= .cells e k rows false false)\/(cX≠aG/\cX≠id/\G cX=some cY):=by
   intro cX cY h;simp only[aS]at h;split at h
   ·rename_i h1;injection h with h;exact .inl ⟨h1,h.symm⟩
   ·rename_i h1
    split at h
    ·rename_i h2
     unfold zO at h;split at h
     ·cases h
     ·rename_i h3;injection h with h;exact .inr (.inl ⟨h1,h2,by simpa using h3,h.symm⟩)
    ·rename_i h2;exact .inr (.inr ⟨h1,h2,h⟩)
  rcases CN aK b' hb with⟨rfl,rfl⟩|⟨h1,rfl,hwf,rfl⟩|⟨h1,h2,h3⟩
  ·refine⟨.inr rfl,by simp[Env.more],hs,⟨dQ,by simp only[Env.more,if_true];exact setRow_heap W _ cur dQ e (0,0) bU,by omega,fun i j row x hr hx=> ?_⟩,fun GF=>⟨?_,fun cX cY aM El=> ?_⟩,fun _=>⟨?_,fun cX cY aM El he=> ?_⟩⟩
   ·obtain⟨v,h1,h2⟩:=hc i j row x hr hx
    exact⟨v,h1,h2.mono hv⟩
   ·simp only[Env.more,if_true];exact(hw GF).1
   ·rcases CN cX cY El with⟨h4,_⟩|⟨_,_,h4,_⟩|⟨h4,h5,h6⟩
    ·exact absurd h4 aM
    ·rw[h4]at GF;cases GF
    ·rw[JG cX (hG.ok cX cY h6).1]
     simp only[Env.more,if_true];exact(hw GF).2 cX cY h5 h6
   ·simp only[Env.more,if_true];omega
   ·rcases CN cX cY El with⟨h4,_⟩|⟨_,h4,_,h5⟩|⟨h4,h5,h6⟩
    ·exact absurd h4 aM
    ·subst h5;exact⟨hmul,rfl⟩
    ·rw[JG cX (hG.ok cX cY h6).1]at he
     simp only[Env.more,if_true]at he;obtain⟨h7,h8⟩:=wQ cX cY h5 h6 he;exact⟨by omega,h8⟩
  ·refine⟨.inl hU,by rw[(hv.jL _ hU).2];exact kL,hlen,⟨dQ,by rw[JG _ hU];exact setRow_heap W _ cur dQ e (0,0) bU,by omega,fun i j row x hr hx=> ?_⟩,fun h=>(by cases h),fun h=>(by cases h)⟩
   obtain⟨v,h4,h5⟩:=fH i j row x hr hx;refine⟨v,?_,h5.mono hv⟩;rw[hp,h4];have hl:=hlen i row hr;exact yC (dS.1 hr).1 (by rw[<-hl];exact(dS.1 hx).1)
  ·obtain⟨h4,h5⟩:=hG.ok aK b' h3
   refine⟨.inl h4,?_⟩;by_cases dY:E.ι aK=E.ι id
   ·obtain⟨h6,h7⟩:=wQ aK b' h2 h3 dY
    cases b' with
    |map es=>exact absurd dY.symm (h5.2.2 id _ (mV h2) hg)
    |cJ=>exact absurd dY.symm (h5.2.2 id _ (mV h2) hg)
    |iter=>exact absurd dY.symm (h5.2.2 id _ (mV h2) hg)
    |cells e2 s2 r2 w2 a2=>
    obtain⟨h8,h9,⟨EF,cO,kC,rX⟩,vU,zZ⟩:=h5;rw[dY,bU]at cO;injection cO with cO
    injection cO with cO Ct
    subst cO;subst Ct;simp only[aI.app]at h7;subst h7;simp only[aI.upto]at h6;refine⟨by rw[(hv.jL _ h4).2];exact h8,h9,⟨dQ,by rw[JG _ h4,dY];exact setRow_heap W _ cur dQ e (0,0) bU,by omega,fun i j row x hr hx=> ?_⟩,fun GF=>absurd dY.symm ((vU GF).2 id _ (mV h2) hg),fun h=>(by cases h)⟩
    obtain⟨v,Cu,Cv⟩:=rX i j row x hr hx;refine⟨v,?_,Cv.mono hv⟩;rw[hp,Cu];have hl:=h9 i row hr;have:=yC (dS.1 hr).1 (show j<s2 by rw[<-hl];exact(dS.1 hx).1)
    omega
   ·refine h5.mono hv h4 (setRow_other W _ _ dQ dY) rfl fun cX cY aM dA he=> ?_
    rcases CN cX cY dA with⟨rfl,_⟩|⟨_,rfl,_,_⟩|⟨h6,h7,h8⟩
    ·simp only[Env.more,if_true]at he;exact absurd he.symm dY
    ·rw[JG _ hU]at he;exact absurd he.symm dY
    ·rw[JG _ (hG.ok cX cY h8).1]at he
     exact⟨cY,h8,he,rfl,fun h=>h⟩
theorem LX{E:Env}{W:World}{G:Nat->Option aI}(hG:RC E W G){a:AV}{v:Value}(r:RV E W a v){rows:List (List AV)}{rd:List Nat}(h:rowsOf G a=some (rows,rd))(aM:rows≠[]){k:Nat}
  (hk:rows.all (fun r=>r.length==k&&r.all AV.one)=true):
  ∃b p cap,v= .slice (some ⟨b,p,none⟩) rows.length cap/\∃news:List Value,news.length=rows.length*k/\(∀(j:Nat) u,news[j]? =some u->W.cell? ⟨b,p+j,none⟩=some u)/\(∀u∈news,u.oneCell'=true)/\
   (∀(i j:Nat) row x,rows[i]? =some row->row[j]? =some x->∃u,news[i*k+j]? =some u/\RV E W x u):=by
 obtain⟨base,n,cap,hv,hn,oG,hr⟩:=MN hG r h;obtain⟨b,p,s,hb,hs,hc⟩:=hr aM;subst hn;subst hb
 have lF:s=k:=by
  cases rows with
  |nil=>exact absurd rfl aM
  |cons r0 rs=>
   have h1:=hs 0 r0 rfl;simp at hk;omega
 subst lF
 have CC:∀q,q<rows.length*s->∃u,W.cell? ⟨b,p+q,none⟩=some u/\u.oneCell'=true/\∀(i j:Nat) row x,i*s+j=q->j<s->rows[i]? =some row->row[j]? =some x->RV E W x u:=by
  intro q hq
  have iM:0<s:=by
   rcases Jb s with h0|h0
   ·subst h0;simp at hq
   ·exact h0
  have hi:q/s<rows.length:=Nat.div_lt_of_lt_mul (by rw[Z7];exact hq)
  have hj:q % s<s:=PD _ iM;have bH:=fU hi;have hlen:=hs _ _ bH;have XD:q % s<(rows[q/s]).length:=by omega
  have hx:=fU XD;have hqq:q/s*s+q % s=q:=by rw[Z7];exact Nat.div_add_mod q s
  obtain⟨u,h1,h2⟩:=hc _ _ _ _ bH hx;rw[hqq]at h1;refine⟨u,h1,?_,fun i j row x he B8 dD nN=> ?_⟩
  ·have h3:=gK.1 hk _ (D2 hi)
   simp only[jX]at h3;exact h2.oneOf (gK.1 h3.2 _ (D2 XD))
  ·have h4:i=q/s:=by
    rw[<-he,Z7,Nat.mul_add_div iM,Nat.div_eq_of_lt B8];omega
   subst h4;have h5:j=q % s:=by omega
   subst h5;rw[dD]at bH;injection bH with bH;subst bH
   rw[nN]at hx;injection hx with hx;subst hx
   exact h2
 let f:Nat->Value:=fun q=>(W.cell? ⟨b,p+q,none⟩).getD undef
 have hf:∀q,q<rows.length*s->W.cell? ⟨b,p+q,none⟩=some (f q):=fun q hq=>by
  obtain⟨u,h1,_⟩:=CC q hq;simp only[f,h1,qR]
 refine⟨b,p,cap,hv,(List.range (rows.length*s)).map f,by simp,fun j u hu=> ?_,fun u hu=> ?_,fun i j row x dD nN=> ?_⟩
 ·have hj:j<rows.length*s:=by have:=(dS.1 hu).1;simpa using this
  simp[hj]at hu;subst hu;exact hf j hj
 ·simp only[mS,Je]at hu
  obtain⟨q,hq,rfl⟩:=hu;obtain⟨u,h1,h2,_⟩:=CC q hq;simp only[f,h1,qR];exact h2
 ·have B8:j<s:=by rw[<-hs i row dD];exact(dS.1 nN).1
  have hq:=yC (dS.1 dD).1 B8;obtain⟨u,h1,_,h3⟩:=CC _ hq;refine⟨u,?_,h3 i j row x rfl B8 dD nN⟩;simp[hq,f,h1]
section
variable {P : Program} {g : Operand -> Option AV} {G : Nat -> Option aI} {aG : Nat} {dst : Option Tmp} {ty : TypeId} {pos : String} {after : Array Edge} {guard : Option (Nat × Bool)}
theorem Em{t e:TypeId}{k:Nat}(ht:fC P t=some (e,k))(ty:TypeId)(base b2:Option Addr)(n c c2:Nat)(wD:n<=c)(w:World):
  (Builtin.append_ #[t,t] ty #[.slice base n c,.slice b2 0 c2]).run P w= .ok (.slice base n c) w:=by
 obtain⟨hu,hk⟩:=vJ ht
 have hf:(Builtin.firstCells k 0 (.slice b2 0 c2)).run P w= .ok #[] w:=by
  cases b2<;>simp[Builtin.firstCells,loadCells,loadCellsFrom]
 cases base<;>simp[Builtin.append_,run_underlying hu,run_sizeOf hk,Builtin.lenOf,wD,hf,storeCells]
theorem XE{e:TypeId}{i:TypeInfo}{k:Nat}(hi:P.info? e=some i)(hk:dU P e=some k):i.size=k:=by simp[dU,hi]at hk;exact hk
theorem aR6{JH news:List Value}{rest:Array Value}{n m k:Nat}(ho:JH.length=n*k)(hn:news.length=m*k):
  (∀q,q<n*k->(JH.toArray++news.toArray++rest)[q]? =JH[q]?)/\(∀q,q<m*k->(JH.toArray++news.toArray++rest)[n*k+q]? =news[q]?):=by
 refine⟨fun q hq=> ?_,fun q hq=> ?_⟩
 ·rw[PH (by simp;omega),PH (by simp;omega)];simp
 ·rw[PH (by simp;omega),Array.getElem?_append_right (by simp;omega)];simp[ho]
theorem Sy{E:Env}{W:World}{rows aZ:List (List AV)}{k:Nat}{JH news:List Value}{cur:Array Value}(hl:∀(i:Nat) row,rows[i]? =some row->row.length=k)(bQ:∀(i:Nat) row,aZ[i]? =some row->row.length=k)
  (ho:∀(i j:Nat) row x,rows[i]? =some row->row[j]? =some x->∃v,JH[i*k+j]? =some v/\RV E W x v) (hn:∀(i j:Nat) row x,aZ[i]? =some row->row[j]? =some x->∃v,news[i*k+j]? =some v/\RV E W x v)
  (h1:∀q,q<rows.length*k->cur[q]? =JH[q]?) (h2:∀q,q<aZ.length*k->cur[rows.length*k+q]? =news[q]?):
  (∀(i:Nat) row,(rows++aZ)[i]? =some row->row.length=k)/\∀(i j:Nat) row x,(rows++aZ)[i]? =some row->row[j]? =some x->∃v,cur[i*k+j]? =some v/\RV E W x v:=by
 refine⟨fun i row hr=> ?_,fun i j row x hr hx=> ?_⟩
 ·by_cases hi:i<rows.length
  ·rw[lT hi]at hr;exact hl i row hr
  ·rw[lD (by omega)]at hr;exact bQ _ row hr
 ·by_cases hi:i<rows.length
  ·rw[lT hi]at hr
   obtain⟨v,h3,h4⟩:=ho i j row x hr hx;refine⟨v,?_,h4⟩;rw[h1,h3];exact yC hi (by rw[<-hl i row hr];exact(dS.1 hx).1)
  ·rw[lD (by omega)]at hr
   obtain⟨v,h3,h4⟩:=hn _ j row x hr hx;refine⟨v,?_,h4⟩;have bG:i-rows.length<aZ.length:=(dS.1 hr).1;have:=h2 ((i-rows.length)*k+j) (yC bG (by rw[<-bQ _ row hr];exact(dS.1 hx).1))
   rw[h3]at this;rw[<-this];congr 1;have:i*k=rows.length*k+(i-rows.length)*k:=by rw[<-nX];congr 1;omega
   omega
theorem XF{rows:List (List AV)}{k:Nat}(hk:rows.all (fun r=>r.length==k&&r.all AV.one)=true):∀(i:Nat) row,rows[i]? =some row->row.length=k:=fun i row hr=>by
 have:=gK.1 hk row (eY hr);simp only[jX,beq_iff_eq]at this;exact this.1
theorem tO{E:Env}{W:World}{id off len:Nat}{v:Value}(r:RV E W (.own id off len) v):E.U id/\
  ((∃cap,v= .slice (some ⟨E.ι id,off*E.sz id,none⟩) len cap/\len<=cap/\∃(cur:Array Value) (e:TypeId) (f:Nat×Nat),W.heap[E.ι id]? =some (Obj.cells cur e f)/\(off+cap)*E.sz id<=cur.size)\/(len=0/\∃a,v= .slice a 0 0)):=by
 cases r with
 |own _ _ _ cap aC eA hs=>exact⟨aC,.inl ⟨cap,rfl,eA,hs⟩⟩
 |mF _ _ a aC=>exact⟨aC,.inr ⟨rfl,a,rfl⟩⟩
set_option maxHeartbeats 1000000 in
theorem aR7{t e:TypeId}{k m6:Nat}{zs:List AV}{x y:Operand}{id n:Nat}{rows aZ:List (List AV)}{w:Bool}{b:AV}{rd:List Nat}(ht:fC P t=some (e,k))(hz:fQ P e=some zs)(ED:zs.length=k)(oW:p5 P e=some m6)
  (hx:g x=some (.own id 0 n)) (hg:G id=some (.cells e k rows w true)) (hn:n=rows.length) (hy:g y=some b) (hb:rowsOf G b=some (aZ,rd)) (h1:aZ.all (fun r=>r.length==k&&r.all AV.one)=true)
  (JI:n+aZ.length<=9223372036854775807) (AH:(n+aZ.length)*m6<=140737488355328):
  eJ P g G aG ⟨dst,.call ⟨.builtin .append,#[x,y],#[t,t]⟩,ty,pos,after,guard⟩ (.own aG 0 (n+aZ.length)) (aS G [(id,zO e k rows w),(aG,some (.cells e k (rows++aZ) w true))]):=fun E W ρ hG gU aW=>by
 have gR:=aW x _ hx;have mG:=aW y _ hy;generalize cF:ρ x=vx at gR;generalize k8:ρ y=vy at mG;obtain⟨hu,hk⟩:=vJ ht;obtain⟨i,z,hi,tX,B9⟩:=JE hz;have fE:=XE hi hk;have CO:i.bytes=m6:=by simp[p5,hi]at oW;exact oW
 have iL:=hG;obtain⟨hU,kL,hlen,⟨cur,bU,rG,fH⟩,hw,ha⟩:=hG.ok id _ hg;subst hn
 have dF:∀(r:Result Value),(Builtin.append_ #[t,t] ty #[vx,vy]).run P W=r->(execOp ρ ⟨dst,.call ⟨.builtin .append,#[x,y],#[t,t]⟩,ty,pos,after,guard⟩).run P W=r.andThen fun v w'=> .ok (.value v) w':=by
  intro r hr;rw[zN];simp only[builtin,zU,jW,sM,cF,k8];rw[Sem.run_bind,hr];rfl
 have h8:z.cells.size=k:=by have:=(B9 E W).1;simp at this;omega
 have bQ:=XF h1
 have Sz:∀(i j:Nat) row x,rows[i]? =some row->row[j]? =some x->∃v,(cur.toList.take (rows.length*k))[i*k+j]? =some v/\RV E W x v:=fun i j row x hr hx=>by
  obtain⟨v,h3,h4⟩:=fH i j row x hr hx;refine⟨v,?_,h4⟩;have:=yC (dS.1 hr).1 (show j<k by rw[<-hlen i row hr];exact(dS.1 hx).1)
  rw[gF,if_pos this];simpa using h3
 --a new array
 have grow:∀(v2:Value),(∃FL rest,v2= .slice (some ⟨W.heap.size,0,none⟩) (rows.length+aZ.length) FL/\rows.length+aZ.length<=FL/\∃news:List Value,news.length=aZ.length*k/\
   (∀(i j:Nat) row x,aZ[i]? =some row->row[j]? =some x->∃u,news[i*k+j]? =some u/\RV E W x u)/\rest.size=(FL-(rows.length+aZ.length))*k/\
   (Builtin.append_ #[t,t] ty #[vx,vy]).run P W= .ok v2 (W.drew.alloc (.cells ((cur.toList.take (rows.length*k)).toArray++news.toArray++rest) e)))->
   ∃W' v E',((execOp ρ ⟨dst,.call ⟨.builtin .append,#[x,y],#[t,t]⟩,ty,pos,after,guard⟩).run P W= .ok (.value v) W'\/((execOp ρ ⟨dst,.call ⟨.builtin .append,#[x,y],#[t,t]⟩,ty,pos,after,guard⟩).run P W= .ok .skip W'/\v=undef))/\bD E W E' W'/\
    RC E' W' (aS G [(id,zO e k rows w),(aG,some (.cells e k (rows++aZ) w true))])/\RV E' W' (.own aG 0 (rows.length+aZ.length)) v/\(∀q,E'.U q->E.U q\/(q=aG/\(aS G [(id,zO e k rows w),(aG,some (.cells e k (rows++aZ) w true))] aG).isSome=true)):=by
  rintro v2 ⟨FL,rest,rfl,Ta,news,rB,wD,En,hr⟩;have kK:(cur.toList.take (rows.length*k)).length=rows.length*k:=by simp;omega
  obtain⟨g1,g2⟩:=aR6 (rest:=rest) kK rB;obtain⟨g3,g4⟩:=Sy hlen bQ Sz wD g1 g2
  have GH:RC E W.drew (aS G [(id,zO e k rows w)]):=hG.drew.S6 fun aK b' bZ=>by
   simp only[aS]at bZ;split at bZ
   ·rename_i h2;subst h2
    unfold zO at bZ;split at bZ
    ·cases bZ
    ·injection bZ with bZ;subst bZ;exact⟨_,hg,rfl,rfl,rfl,(fun h=>by cases h),(fun h=>by cases h)⟩
   ·refine⟨b',bZ,?_⟩
    exact aI.le_refl b'
  have CP:((cur.toList.take (rows.length*k)).toArray++news.toArray++rest).size=FL*k:=by
   simp only[Iz,PE,kK,rB,En,<-nX];congr 1;omega
  have bK7:(rows++aZ).length*k<=FL*k:=mU k (by simpa using Ta)
  have AT:=GH.alloc gU e ((cur.toList.take (rows.length*k)).toArray++news.toArray++rest) k (rows++aZ) w true g3 (by omega) (fun i j row x h5 h6=>by
   obtain⟨v,h7,h8⟩:=g4 i j row x h5 h6
   exact⟨v,h7,h8.mono (bD.drew E W)⟩)
  have hv:=(bD.drew E W).trans (bD.alloc GH gU (.cells ((cur.toList.take (rows.length*k)).toArray++news.toArray++rest) e) k);refine⟨_,_,_,.inl (by rw[dF _ hr];rfl),hv,AT,?_,fun id h=>h.imp (fun h=>h) (fun e=>⟨e,by simp[aS]⟩)⟩
  have:=RV.own (E:=E.more aG W.drew.heap.size k) (W:=W.drew.alloc (.cells ((cur.toList.take (rows.length*k)).toArray++news.toArray++rest) e)) aG 0 (rows.length+aZ.length) FL (.inr rfl) Ta
   ⟨_,e,(0,0),by simp only[Env.more,if_true];exact heap_alloc_new W.drew _,by simp only[Env.more,if_true];rw[CP];simp⟩
  simpa[Env.more]using this
 --XG same array
 have J9:∀(cap:Nat) (base:Option Addr) (dQ:Array Value),RV (E.more aG (E.ι id) k) (W.setRow (E.ι id) dQ) (.own aG 0 (rows.length+aZ.length)) (.slice base (rows.length+aZ.length) cap)->
   dQ.size=cur.size->(∀q,q<rows.length*k->dQ[q]? =cur[q]?)->(rows++aZ).length*k<=cur.size->(∀(i j:Nat) row x,(rows++aZ)[i]? =some row->row[j]? =some x->∃v,dQ[i*k+j]? =some v/\RV E W x v)->
   (Builtin.append_ #[t,t] ty #[vx,vy]).run P W= .ok (.slice base (rows.length+aZ.length) cap) (W.setRow (E.ι id) dQ)->
   ∃W' v E',((execOp ρ ⟨dst,.call ⟨.builtin .append,#[x,y],#[t,t]⟩,ty,pos,after,guard⟩).run P W= .ok (.value v) W'\/((execOp ρ ⟨dst,.call ⟨.builtin .append,#[x,y],#[t,t]⟩,ty,pos,after,guard⟩).run P W= .ok .skip W'/\v=undef))/\bD E W E' W'/\
    RC E' W' (aS G [(id,zO e k rows w),(aG,some (.cells e k (rows++aZ) w true))])/\RV E' W' (.own aG 0 (rows.length+aZ.length)) v/\(∀q,E'.U q->E.U q\/(q=aG/\(aS G [(id,zO e k rows w),(aG,some (.cells e k (rows++aZ) w true))] aG).isSome=true)):=by
  intro cap base dQ iF nH hp' Ef B6 hr
  obtain⟨h2,h3⟩:=hG.share gU hg bU nH hp' (fun i row hr=>by
   by_cases hi:i<rows.length
   ·rw[lT hi]at hr;exact hlen i row hr
   ·rw[lD (by omega)]at hr;exact bQ _ row hr) (by simp) Ef B6
  exact⟨_,_,_,.inl (by rw[dF _ hr];rfl),h2,h3,iF,fun id h=>h.imp (fun h=>h) (fun e=>⟨e,by simp[aS]⟩)⟩
 by_cases aM:aZ=[]
 ·subst aM
  obtain⟨S7,n2,xP,eZ,lG,_,_⟩:=MN hG mG hb;simp at lG;subst lG;subst eZ;simp only[gL,BU,rO]at grow J9⊢;rcases(tO gR).2 with⟨cap,rfl,eA,EF,e2,f2,h4,h5⟩|⟨mZ,a,rfl⟩
  ·
   rw[bU]at h4;injection h4 with h4
   injection h4 with h4 h6 h7
   subst h4;subst h6;subst h7;refine J9 cap _ cur ?_ rfl (fun _ _=>rfl) rG fH (by rw[Em ht ty _ _ _ _ _ eA,setRow_self W _ cur _ _ bU])
   rw[setRow_self W _ cur _ _ bU];have:=RV.own (E:=E.more aG (E.ι id) k) (W:=W) aG 0 rows.length cap (.inr rfl) eA ⟨cur,_,_,by simp only[Env.more,if_true];exact bU,by simp only[Env.more,if_true];rw[kL]at h5;exact h5⟩
   simpa[Env.more,kL]using this
  ·have h0:rows=[]:=Is.1 mZ
   subst h0;refine J9 0 a cur ?_ rfl (fun _ _=>rfl) rG fH (by rw[setRow_self W _ cur _ _ bU];exact Em ht ty _ _ _ _ _ (cA _) _)
   exact .mF _ _ _ (.inr rfl)
 ·obtain⟨b2,p2,xP,eZ,news,rB,wD,mY,CQ⟩:=LX hG mG hb aM h1
  subst eZ;have HN:0<aZ.length:=BP.2 aM;have AK:∀(j:Nat) u,news[j]? =some u->W.cell? ((⟨b2,p2,none⟩:Addr).add j)=some u:=fun j u hu=>by rw[Addr.add_lit];exact wD j u hu
  have XH:news.length=aZ.length*i.size:=by rw[fE];exact rB
  rcases(tO gR).2 with⟨cap,rfl,eA,EF,e2,f2,h4,h5⟩|⟨mZ,a,rfl⟩
  ·
   rw[bU]at h4;injection h4 with h4
   injection h4 with h4 h6 h7
   subst h4;subst h6;subst h7;rw[kL]at h5;simp only[sN,BQ]at h5 grow J9⊢;by_cases AI:rows.length+aZ.length<=cap
   ·have hmul:(rows.length+aZ.length)*k<=cap*k:=mU k AI
    rw[nX]at hmul;have hr:=run_append_room (P:=P) W t ty e i hu hi (E.ι id) rows.length cap cur bU ⟨b2,p2,none⟩ aZ.length xP news XH AK mY AI (by rw[fE];omega)
    rw[fE]at hr;refine J9 cap _ _ ?_ ?_ ?_ ?_ ?_ hr
    ·have:=RV.own (E:=E.more aG (E.ι id) k) (W:=W.setRow (E.ι id) (cur.toList.take (rows.length*k)++news++cur.toList.drop (rows.length*k+news.length)).toArray) aG 0 (rows.length+aZ.length) cap (.inr rfl) AI
      ⟨_,e,(0,0),by simp only[Env.more,if_true];exact setRow_heap W _ cur _ e (0,0) bU,by simp only[Env.more,if_true];simp;omega⟩
     simpa[Env.more]using this
    ·simp;omega
    ·intro q hq
     rw[vR,kA,lT (by simp;omega),gF,if_pos hq];simp
    ·simp[nX];omega
    ·have kK:(cur.toList.take (rows.length*k)).length=rows.length*k:=by simp;omega
     refine(Sy hlen bQ Sz CQ (fun q hq=> ?_) (fun q hq=> ?_)).2
     ·rw[vR,kA,lT (by omega)]
     ·rw[vR,kA,lD (by omega),lT (by omega)]
      congr 1;omega
   ·have kK:(cur.toList.take (rows.length*k)).length=rows.length*i.size:=by rw[fE];simp;omega
    have hr:=run_append_grow (P:=P) W t ty e i z hu hi tX ⟨E.ι id,0,none⟩ rows.length cap (cur.toList.take (rows.length*k)) kK (fun j u hu=>by
      rw[Addr.add_lit,sN,cell_of_row W _ j cur e (0,0) bU];rw[gF]at hu;split at hu
      ·simpa using hu
      ·cases hu) ⟨b2,p2,none⟩ aZ.length xP news XH AK (by omega) (by omega) (growslice_fits (by omega) (by rw[CO];exact AH))
    refine grow _ ⟨_,_,rfl,grownCap_ge W _ _ e,news,rB,CQ,?_,hr⟩;rw[size_zeroCells];rw[h8]
  ·have h0:rows=[]:=Is.1 mZ
   subst h0;simp only[gL,sN,BQ,wY]at grow⊢;cases a with
   |none=>
    have hr:=run_append_nil (P:=P) W t ty e i z hu hi tX ⟨b2,p2,none⟩ aZ.length xP news XH AK HN (by simp at JI;omega) (by simp at AH;rw[CO];omega)
    refine grow _ ⟨grownCap W aZ.length 0 e,Builtin.zeroCells z.cells (grownCap W aZ.length 0 e-aZ.length),rfl,grownCap_ge W aZ.length 0 e,news,rB,CQ,by rw[size_zeroCells,h8],?_⟩
    simpa using hr
   |some a=>
   have hr:=run_append_grow (P:=P) W t ty e i z hu hi tX a 0 0 [] (by simp) (fun j u hu=>by simp at hu) ⟨b2,p2,none⟩ aZ.length xP news XH AK (by omega) (by simp at JI;omega) (growslice_fits (by omega) (by rw[CO];exact AH))
   refine grow _ ⟨grownCap W aZ.length 0 e,Builtin.zeroCells z.cells (grownCap W aZ.length 0 e-aZ.length),rfl,grownCap_ge W aZ.length 0 e,news,rB,CQ,by rw[size_zeroCells,h8],?_⟩
   simp only[sN]at hr;exact hr
end
end Go.AL
namespace Go.AL
open Go.RowKit
section
variable (P : Program)
def GI(f:TypeId->AV->AV->Option Bool)(xs ys:List AV):List Field->Option Bool
 |[]=>some true
 |fd::r=>if fd.name= "_" then none else match qY P fd.type xs fd.offset,qY P fd.type ys fd.offset with
  |some a,some b=>match f fd.type a b,GI f xs ys r with
   |some p,some q=>some (p&&q)
   |_,_=>none
  |_,_=>none
def LF(f:TypeId->AV->AV->Option Bool)(e:TypeId)(k:Nat)(xs ys:List AV):List Nat->Option Bool
 |[]=>some true
 |i::r=>match qY P e xs (i*k),qY P e ys (i*k)with
  |some a,some b=>match f e a b,LF f e k xs ys r with
   |some p,some q=>some (p&&q)
   |_,_=>none
  |_,_=>none
def pT:Nat->TypeId->AV->AV->Option Bool
 |0,_,_,_=>none
 |d+1,t,x,y=>match P.underlying t,x,y with
  |some (.int _),.c (.int k a),.c (.int k' b)=>if k=k' then some (a==b)else none
  |some .bool,.c (.bool a),.c (.bool b)=>some (a==b)
  |some .string,.c (.string a),.c (.string b)=>some (a.toList==b.toList)
  |some (.struct fs),.agg xs,.agg ys=>if P.stoodInHeld t=true then none else GI P (pT d) xs ys fs.toList
  |some (.array n e),.agg xs,.agg ys=>match dU P e with
   |some k=>LF P (pT d) e k xs ys (List.range n)
   |none=>none
  |_,_,_=>none
def xF(t:TypeId)(x y:AV):Option Bool:=if P.eqGuardType P.depth t=true then none else pT P 10000 t x y
end
section
variable {P : Program} {E : Env} {W : World}
theorem Tb{d:Nat}{xs ys:List AV}{vs us:Array Value}(hx:bP E W xs vs.toList)(hy:bP E W ys us.toList)
  (ih:∀t x y v u r,RV E W x v->RV E W y u->pT P d t x y=some r->(Op.equalIn d t v u).run P W= .ok r W):
  ∀(fs:List Field) (r:Bool),GI P (pT P d) xs ys fs=some r->(Op.eqFields d vs us fs).run P W= .ok r W
 |[],r,h=>by simp only[GI,bB]at h;subst h;simp[Op.eqFields]
 |fd::fs,r,h=>by
  simp only[GI]at h;split at h
  ·cases h
  ·rename_i hn
   split at h
   ·rename_i a b ha hb
    split at h
    ·rename_i p q hp hq
     simp only[bB]at h;subst h;obtain⟨v,h1,h2⟩:=MQ (P:=P) hx ha;obtain⟨u,h3,h4⟩:=MQ (P:=P) hy hb;have h5:=ih _ _ _ _ _ _ h2 h4 hp;have h6:=Tb hx hy ih fs q hq;simp only[Op.eqFields,ne_eq,hn,not_false_eq_true,if_true,Sem.run_bind,Array.toArray_toList,h1,h3,h5,Result.andThen_ok]at*;cases p<;>simp[h1,h3,h5,h6]
    ·cases h
   ·cases h
theorem Tc{d:Nat}{e:TypeId}{k:Nat}{xs ys:List AV}{vs us:Array Value}(hx:bP E W xs vs.toList)(hy:bP E W ys us.toList)
  (ih:∀t x y v u r,RV E W x v->RV E W y u->pT P d t x y=some r->(Op.equalIn d t v u).run P W= .ok r W):
  ∀(is:List Nat) (r:Bool),LF P (pT P d) e k xs ys is=some r->(Op.eqItems d e k vs us is).run P W= .ok r W
 |[],r,h=>by simp only[LF,bB]at h;subst h;simp[Op.eqItems]
 |i::is,r,h=>by
  simp only[LF]at h;split at h
  ·rename_i a b ha hb
   split at h
   ·rename_i p q hp hq
    simp only[bB]at h;subst h;obtain⟨v,h1,h2⟩:=MQ (P:=P) hx ha;obtain⟨u,h3,h4⟩:=MQ (P:=P) hy hb;have h5:=ih _ _ _ _ _ _ h2 h4 hp;have h6:=Tc hx hy ih is q hq;simp only[Op.eqItems,Sem.run_bind,Array.toArray_toList,h1,h3,h5,Result.andThen_ok]at*;cases p<;>simp[h1,h3,h5,h6]
   ·cases h
  ·cases h
theorem XI:∀(d:Nat) (t:TypeId) (x y:AV) (v u:Value) (r:Bool),RV E W x v->RV E W y u->pT P d t x y=some r->(Op.equalIn d t v u).run P W= .ok r W
 |0,t,x,y,v,u,r,hx,hy,h=>by simp[pT]at h
 |d+1,t,x,y,v,u,r,hx,hy,h=>by
  simp only[pT]at h;split at h
  ·rename_i k0 k a k' b hu
   split at h
   ·rename_i hk
    subst hk;simp only[bB]at h;subst h;cases hx;cases hy;exact run_equalIn_int W d t k k0 a b hu
   ·cases h
  ·rename_i a b hu
   simp only[bB]at h;subst h;cases hx;cases hy;exact run_equalIn_bool' W d t a b hu
  ·rename_i a b hu
   simp only[bB]at h;subst h;cases hx;cases hy;exact run_equalIn_string W d t a b hu
  ·rename_i fs xs ys hu
   split at h
   ·cases h
   ·rename_i hp
    cases hx with
    |agg _ vs tP hx=>
    cases hy with
    |agg _ us bQ hy=>
    have CA:P.fieldsOf t=fs:=by simp[Program.fieldsOf,hu]
    rw[run_equalIn_struct W d t vs us (by rw[CA];exact hu) (by simpa using hp),CA]
    exact Tb ⟨by simpa using tP,fun i x v h1 h2=>hx i x v h1 (by simpa using h2)⟩ ⟨by simpa using bQ,fun i x v h1 h2=>hy i x v h1 (by simpa using h2)⟩ (XI d) _ _ h
  ·rename_i n e xs ys hu
   split at h
   ·rename_i k hk
    cases hx with
    |agg _ vs tP hx=>
    cases hy with
    |agg _ us bQ hy=>
    cases hi:P.info? e with
    |none=>simp[dU,hi]at hk
    |some i=>
     have hc:P.cellsOf e=k:=by simp[dU,hi]at hk;simp[Program.cellsOf,hi,hk]
     rw[run_equalIn_array W d vs us hu hi,hc];exact Tc ⟨by simpa using tP,fun i x v h1 h2=>hx i x v h1 (by simpa using h2)⟩ ⟨by simpa using bQ,fun i x v h1 h2=>hy i x v h1 (by simpa using h2)⟩ (XI d) _ _ h
   ·cases h
  ·cases h
end
section
variable {P : Program} {g : Operand -> Option AV} {G : Nat -> Option aI} {aG : Nat} {dst : Option Tmp} {ty : TypeId} {pos : String} {after : Array Edge} {guard : Option (Nat × Bool)}
def CR(op:BinOp)(r:Bool):Option Value:=
 match op with
 | .eql=>some (.bool r)
 | .neq=>some (.bool (!r))
 |_=>none
theorem aR9{op:BinOp}{t yt:TypeId}{x y:Operand}{xs ys:List AV}{r:Bool}{v:Value}(hx:g x=some (.agg xs))(hy:g y=some (.agg ys))(h:xF P t (.agg xs) (.agg ys)=some r)(hv:CR op r=some v):
  eJ P g G aG ⟨dst,.binOp op t x y yt,ty,pos,after,guard⟩ (.c v) G:=
 .still fun E W ρ hG aW=>by
   have h1:=aW x _ hx;have h2:=aW y _ hy;generalize cF:ρ x=vx at h1;generalize k8:ρ y=vy at h2;unfold xF at h;split at h
   ·cases h
   ·rename_i Bn
    have heq:=XI 10000 t _ _ _ _ r h1 h2 h;cases h1 with
    |agg _ vs tP h1=>
    cases h2 with
    |agg _ us bQ h2=>
    refine⟨v,?_,.c v ?_⟩
    ·simp only[execOp,cF,k8,Sem.run_bind,run_eqGuard_agg W op t x y vs us (by simpa using Bn),Result.andThen_ok]
     cases op<;>simp only[CR,reduceCtorEq,bB]at hv
     ·subst hv;rw[run_eql_struct,heq];rfl
     ·subst hv;rw[run_neq_struct,heq];rfl
    ·cases op<;>simp only[CR,reduceCtorEq,bB]at hv<;>subst hv<;>rfl
def S8(a:AV):Option Bool:=
 match a with
 | .c (.slice a _ _)=>some a.isNone
 | .snap rows=>if rows.isEmpty=true then none else some false
 | .own _ _ n=>if n=0 then none else some false
 |_=>none
theorem aS5{E:Env}{W:World}{a:AV}{v:Value}{r:Bool}(hr:RV E W a v)(h:S8 a=some r):∃p n c,v= .slice p n c/\p.isNone=r:=by
 unfold S8 at h;split at h
 ·simp only[bB]at h;subst h;cases hr;exact⟨_,_,_,rfl,rfl⟩
 ·rename_i rows
  split at h
  ·cases h
  ·rename_i aM
   simp only[bB]at h;subst h;cases hr with
   |snap=>exact⟨_,_,_,rfl,rfl⟩
   |kY=>exact absurd rfl aM
 ·split at h
  ·cases h
  ·rename_i aM
   simp only[bB]at h;subst h;cases hr with
   |own=>exact⟨_,_,_,rfl,rfl⟩
   |mF=>exact absurd rfl aM
 ·cases h
theorem aS6(d:Nat){t e:TypeId}(hu:P.underlying t=some (.slice e))(p:Option Addr)(n c:Nat)(w:World):
  (Op.equalIn (d+1) t (.slice p n c) (.slice none 0 0)).run P w= .ok p.isNone w:=by
 cases p<;>simp[Op.equalIn,run_underlying hu]
theorem aS7{op:BinOp}{t e:TypeId}(hu:P.underlying t=some (.slice e))(p:Option Addr)(n c:Nat)(w:World){v:Value}(hv:CR op p.isNone=some v):
  (binOp op t (.slice p n c) (.slice none 0 0)).run P w= .ok v w:=by
 have h:=aS6 (P:=P) 9999 hu p n c w;cases op<;>simp only[CR,reduceCtorEq,bB]at hv<;>subst hv<;>simp only[binOp,Op.equal,Op.maxDepth,Sem.run_bind,h,Result.andThen_ok,Sem.run_pure]
theorem aS8{op:BinOp}{t e yt:TypeId}{k:Nat}{x y:Operand}{a:AV}{r:Bool}{v:Value}(ht:fC P t=some (e,k))(hx:g x=some a)(hy:g y=some (.c (.slice none 0 0)))(h:S8 a=some r)(hv:CR op r=some v):
  eJ P g G aG ⟨dst,.binOp op t x y yt,ty,pos,after,guard⟩ (.c v) G:=
 .still fun E W ρ hG aW=>by
   obtain⟨p,n,c,h1,h2⟩:=aS5 (aW x _ hx) h;have h3:=aW y _ hy;generalize k8:ρ y=vy at h3;cases h3;obtain⟨hu,_⟩:=vJ ht;refine⟨v,?_,.c v ?_⟩
   ·simp only[execOp,h1,k8,Sem.run_bind]
    subst h2
    have Eo:(eqGuard op t x y (.slice p n c) (.slice none 0 0)).run P W= .ok () W:=by
     cases op<;>simp[eqGuard,run_program,run_underlying hu]
    rw[Eo,Result.andThen_ok,aS7 hu p n c W hv];rfl
   ·cases op<;>simp only[CR,reduceCtorEq,bB]at hv<;>subst hv<;>rfl
theorem XJ{ρ:Operand->Value}{E:Env}{W:World}(aW:∀x b,g x=some b->RV E W b (ρ x)){t e:TypeId}{k:Nat}(ht:fC P t=some (e,k))(base:Option Addr)(len cap:Nat){lo:Option Operand}{hi mx:Operand}{l h m:Int}
  (hl:hO g 0 lo=some l) (hh:hO g len (some hi)=some h) (hm:hO g len (some mx)=some m) (h0:0<=l) (h1:l<=h) (h2:h<=m) (h3:m<=cap):
  (Instr.sliceAt t (.slice base len cap) (lo.map ρ) (some (ρ hi)) (some (ρ mx))).run P W= .ok (.slice (if m=l then base else base.map (·.add (l.toNat*k))) (h-l).toNat (m-l).toNat) W:=by
 obtain⟨hu,hk⟩:=vJ ht;have hb:(m.toNat=l.toNat)↔(m=l):=by omega
 have e1:h.toNat-l.toNat=(h-l).toNat:=by omega
 have e2:m.toNat-l.toNat=(m-l).toNat:=by omega
 rcases JF aW hh with⟨hc,_⟩|⟨kh,EE⟩
 ·cases hc
 rcases JF aW hm with⟨hc,_⟩|⟨km,JJ⟩
 ·cases hc
 simp only[pP,bB]at EE JJ;have h5:0<=h:=by omega
 have h6:0<=m:=by omega
 have h7:h<=max m 0:=by omega
 have h8:l<=max h 0:=by omega
 rcases JF aW hl with⟨rfl,rfl⟩|⟨kl,xT⟩
 ·simp[Instr.sliceAt,run_underlying hu,Instr.slice,Instr.sliceBounds,run_sizeOf hk,EE,JJ,Instr.sliceBound,asIntOf,h5,h6,h7,h3]
  by_cases hc:m=0
  ·rw[if_pos (by omega),if_pos hc]
  ·rw[if_neg (by omega),if_neg hc]
 ·simp[Instr.sliceAt,run_underlying hu,Instr.slice,Instr.sliceBounds,run_sizeOf hk,xT,EE,JJ,Instr.sliceBound,asIntOf,h0,h5,h6,h7,h8,h3]
  by_cases hc:m=l
  ·rw[if_pos (by omega),if_pos hc];simp;omega
  ·rw[if_neg (by omega),if_neg hc];simp;omega
theorem aS9{t e:TypeId}{k:Nat}{x:Operand}{rows:List (List AV)}{lo:Option Operand}{hi mx:Operand}{l h m:Int}(ht:fC P t=some (e,k))(hx:g x=some (.snap rows))(hl:hO g 0 lo=some l)(hh:hO g rows.length (some hi)=some h)
  (hm:hO g rows.length (some mx)=some m) (h0:0<=l) (h1:l<=h) (h2:h<=m) (h3:m<=rows.length) (hw:rows.all (fun r=>r.length==k)=true):
  eJ P g G aG ⟨dst,.slice t x lo (some hi) (some mx),ty,pos,after,guard⟩ (.snap ((rows.drop l.toNat).take (h-l).toNat)) G:=
 .still fun E W ρ hG aW=>by
   have h4:=aW x _ hx;generalize cF:ρ x=vx at h4;cases h4 with
   |kY a cap=>
    simp at h3;refine⟨_,by simp only[execOp,cF,pP];rw[Sem.run_bind,XJ aW ht a 0 cap hl (show hO g ((0:Nat):Int) (some hi)=some h from hh) (show hO g ((0:Nat):Int) (some mx)=some m from hm) h0 h1 h2 (by omega)];rfl,?_⟩
    have:(h-l).toNat=0:=by omega
    rw[this];simp;exact .kY _ _
   |snap _ b off s n cap vs hn oG hs hL hc hr=>
    subst hn;refine⟨_,by simp only[execOp,cF,pP];rw[Sem.run_bind,XJ aW ht _ rows.length cap hl hh hm h0 h1 h2 (by omega)];rfl,?_⟩
    by_cases hz:h=l
    ·have:(h-l).toNat=0:=by omega
     rw[this];simp;exact .kY _ _
    ·have aM:¬(m=l):=by omega
     rw[if_neg aM];have bG:l.toNat<rows.length:=by omega
     have lF:s=k:=by
      have h4:=hs l.toNat _ (fU bG);have h5:=gK.1 hw _ (D2 bG);simp at h5;omega
     subst lF
     have hmul:l.toNat*s+(h-l).toNat*s<=rows.length*s:=by
      rw[<-nX];exact mU s (by omega)
     have hlen:((rows.drop l.toNat).take (h-l).toNat).length=(h-l).toNat:=by simp;omega
     have bX:∀(i:Nat) row,((rows.drop l.toNat).take (h-l).toNat)[i]? =some row->rows[l.toNat+i]? =some row:=fun i row hr=>by
      rw[gF]at hr;split at hr
      ·rwa[m9]at hr
      ·cases hr
     have:=RV.snap (E:=E) (W:=W) ((rows.drop l.toNat).take (h-l).toNat) b (off+l.toNat*s) s (h-l).toNat (m-l).toNat (fun i j=>vs (l.toNat+i) j) hlen.symm (by omega) (fun i row hr=>hs _ row (bX i row hr)) (by rw[hlen];omega)
      (fun i j row x h4 h5=>by rw[<-hc _ j row x (bX i row h4) h5];congr 2;rw[nX];omega) (fun i j row x h4 h5=>hr _ j row x (bX i row h4) h5)
     simpa[Addr.add_lit]using this
end
end Go.AL
namespace Go.AL
open Go.RowKit
def yE(P:Program):List Field->Nat->Option Nat
 |[],i=>some i
 |f::r,i=>match P.underlying f.type,dU P f.type with
  |some (.int .i64),some 1=>if f.name= "_" \/f.offset≠i then none else yE P r (i+1)
  |_,_=>none
def v7(P:Program)(kt:TypeId):Option TypeDesc:=
 match P.underlying kt with
 |some (.struct fs)=>if P.stoodInHeld kt=true then none else(yE P fs.toList 0).map fun n=> .array n 0
 |some (.array _ _)=>none
 |d=>d
def yQ(P:Program)(t:TypeId):Option (TypeId×TypeId×TypeDesc):=
 match P.underlying t with
 |some (.map k e)=>(v7 P k).map fun d=>(k,e,d)
 |_=>none
theorem XK{P:Program}{t k e:TypeId}{d:TypeDesc}(h:yQ P t=some (k,e,d)):P.underlying t=some (.map k e)/\v7 P k=some d:=by
 unfold yQ at h;split at h
 ·rename_i k' e' hu
  cases hk:v7 P k' with
  |none=>rw[hk]at h;cases h
  |some d'=>
   rw[hk]at h;simp only[pP,bB,bY]at h;obtain⟨rfl,rfl,rfl⟩:=h;exact⟨hu,hk⟩
 ·cases h
def BX(P:Program)(e:TypeId):Option AV:=
 match(P.info? e).bind (·.zero)with
 |some z=>zL z
 |none=>none
theorem Ep{P:Program}{e:TypeId}{a:AV}(h:BX P e=some a):∃z,(∀W,(zeroValue e).run P W= .ok z W)/\∀E W,RV E W a z:=by
 unfold BX at h;split at h
 ·rename_i z hz
  cases hi:P.info? e with
  |none=>rw[hi]at hz;cases hz
  |some i=>
   rw[hi]at hz;simp only[UC]at hz;exact⟨z,fun W=>by simp[zeroValue,run_typeInfo hi,hz],fun E W=>RV.zL h⟩
 ·cases h
def iV(a:Int):Value:= .int .i64 a
def wR:TypeDesc->Value->Prop
 | .array n _,.agg cs=>∃l:List Int,l.length=n/\cs=(l.map iV).toArray
 |d,v=>MapKept.IsKey d v
def XL:Value->Bool
 | .int k _=>k== .i64
 |_=>false
def s9:TypeDesc->Value->Bool
 | .bool,.bool _=>true
 | .int k,.int k' _=>k'==k
 | .string,.string _=>true
 | .array n _,.agg cs=>cs.toList.length==n&&cs.toList.all XL
 |_,_=>false
theorem Td:∀(l:List Value),l.all XL=true->∃as:List Int,l=as.map iV
 |[],_=>⟨[],rfl⟩
 |v::r,h=>by
  simp only[KV,jX]at h;obtain⟨as,h2⟩:=Td r h.2;cases v with
  |int k n=>
   obtain rfl:=eq_of_beq (show(k==IntKind.i64)=true from h.1)
   exact⟨n::as,by rw[h2];rfl⟩
  |_=>exact absurd h.1 (by simp[XL])
theorem MR{d:TypeDesc}{k:Value}(h:s9 d k=true):wR d k:=by
 unfold s9 at h;split at h
 ·trivial
 ·exact eq_of_beq h
 ·trivial
 ·rename_i n e cs
  simp only[jX,beq_iff_eq]at h;obtain⟨as,h2⟩:=Td _ h.2;refine⟨as,?_,?_⟩
  ·rw[h2,mJ]at h;exact h.1
  ·rw[<-h2]
 ·cases h
def yY(d:TypeDesc)(es:List (Value×AV)):Bool:=es.all fun p=>s9 d p.1
def GJ:List Value->List Value->Bool
 |[],[]=>true
 | .int k a::r,.int k' b::s=>k==k'&&a==b&&GJ r s
 |_,_=>false
def pX:Value->Value->Bool
 | .int k a,.int k' b=>k==k'&&a==b
 | .bool a,.bool b=>a==b
 | .string a,.string b=>a==b
 | .agg a,.agg b=>GJ a.toList b.toList
 |_,_=>false
theorem XM:∀(a b:List Int),GJ (a.map iV) (b.map iV)=true↔a=b
 |[],[]=>by simp[GJ]
 |[],_::_=>by simp[GJ]
 |_::_,[]=>by simp[GJ]
 |x::a,y::b=>by
  simp only[jW,iV,GJ,jX,beq_iff_eq,true_and,PG,beq_self_eq_true];exact and_congr_right fun _=>XM a b
theorem Te{a b:List Int}(h:(a.map iV)=(b.map iV)):a=b:=(XM a b).1 (h▸(XM a a).2 rfl)
theorem JK{d:TypeDesc}{v:Value}(hd:∀n e,d≠ .array n e)(h:wR d v):MapKept.IsKey d v:=by
 cases d<;>first|exact h|(rename_i n e;exact absurd rfl (hd n e))
theorem JL{n:Nat}{e:TypeId}{v:Value}(h:wR (.array n e) v):∃l:List Int,l.length=n/\v= .agg (l.map iV).toArray:=by
 cases v<;>simp only[wR,MapKept.IsKey]at h
 obtain⟨l,h1,h2⟩:=h;exact⟨l,h1,by rw[h2]⟩
theorem Er{d:TypeDesc}{a b:Value}(ha:wR d a)(hb:wR d b):pX a b=true↔a=b:=by
 by_cases hd:∃n e,d= .array n e
 ·obtain⟨n,e,rfl⟩:=hd
  obtain⟨l,_,rfl⟩:=JL ha;obtain⟨m,_,rfl⟩:=JL hb;simp only[pX,XM];constructor
  ·rintro rfl;rfl
  ·intro h
   simp only[Value.agg.injEq]at h;exact Te (by simpa using congrArg Array.toList h)
 ·have JM:∀n e,d≠ .array n e:=fun n e h=>hd ⟨n,e,h⟩
  have ha:=JK JM ha;have hb:=JK JM hb;cases d<;>cases a<;>cases b<;>simp_all [MapKept.IsKey,pX,MapKept.bytes_beq]
theorem IF{α β:Type}{x:Option α}{f:α->β}{b:β}(h:x.map f=some b):∃a,x=some a/\f a=b:=by
 cases x with
 |none=>simp at h
 |some a=>exact⟨a,rfl,by simpa using h⟩
section
variable {P : Program}
theorem Cb{d:Nat}{t:TypeId}{fs:Array Field}{xs ys:List AV}(hu:P.underlying t=some (.struct fs)):pT P (d+1) t (.agg xs) (.agg ys)=if P.stoodInHeld t=true then none else GI P (pT P d) xs ys fs.toList:=by
 simp only[pT,hu]
theorem W7{d:Nat}:∀(fs:List Field) (i n:Nat) (as bs:List Int),yE P fs i=some n->as.length=n->bs.length=n->
  GI P (pT P (d+1)) ((as.map iV).map AV.c) ((bs.map iV).map AV.c) fs=some (decide (as.drop i=bs.drop i))
 |[],i,n,as,bs,h,h1,h2=>by
  simp only[yE,bB]at h;subst h;rw[EU (by omega),EU (by omega)]
  rfl
 |f::fs,i,n,as,bs,h,h1,h2=>by
  simp only[yE]at h;split at h
  ·rename_i hu hs
   split at h
   ·cases h
   ·rename_i hn
    simp only[not_or,ne_eq,Decidable.not_not]at hn
    have mP:∀(fs:List Field) (i n:Nat),yE P fs i=some n->i<=n:=by
     intro fs
     induction fs with
     |nil=>intro i n h;simp only[yE,bB]at h;omega
     |cons f fs ih=>
      intro i n h;simp only[yE]at h;split at h
      ·split at h
       ·cases h
       ·have:=ih _ _ h;omega
      ·cases h
    have hi:=mP _ _ _ h;have ih:=W7 (d:=d) fs (i+1) n as bs h h1 h2;have DN:iB P f.type=some false:=by unfold iB;rw[hu]
    have p1:∀l:List Int,l.length=n->qY P f.type ((l.map iV).map AV.c) f.offset=some (.c (iV (l.getD i 0))):=fun l hl=>by
     have BA:i<l.length:=by omega
     unfold qY;rw[DN,hs];simp[hn.2,BA]
    have e1:∀x y:Int,pT P (d+1) f.type (.c (iV x)) (.c (iV y))=some (x==y):=fun x y=>by
     simp only[pT,hu,iV,if_true]
    rw[GI,if_neg hn.1,p1 as h1,p1 bs h2];simp only[e1,ih]
    have hd:∀l:List Int,l.length=n->l.drop i=l.getD i 0::l.drop (i+1):=fun l hl=>by
     have BA:i<l.length:=by omega
     rw[YW BA];simp[BA]
    rw[hd as h1,hd bs h2];rw[show(as.getD i 0==bs.getD i 0)=decide (as.getD i 0=bs.getD i 0)from rfl]
    by_cases h5:as.getD i 0=bs.getD i 0
    ·by_cases h6:as.drop (i+1)=bs.drop (i+1)
     ·rw[decide_eq_true h5,decide_eq_true h6,decide_eq_true (by rw[h5,h6])];rfl
     ·rw[decide_eq_true h5,decide_eq_false h6,decide_eq_false (fun q=>h6 (List.cons.inj q).2)];rfl
    ·rw[decide_eq_false h5,decide_eq_false (fun q=>h5 (List.cons.inj q).1)];rfl
  ·cases h
theorem Es(E:Env)(W:World)(l:List Int):RV E W (.agg ((l.map iV).map AV.c)) (.agg (l.map iV).toArray):=
 .agg _ _ (by simp) fun i x v h1 h2=>by
   rw[iA]at h1;rw[vR]at h2;rw[h2]at h1;simp only[pP,bB]at h1;subst h1;rw[iA]at h2;obtain⟨y,_,rfl⟩:=Option.map_eq_some_iff.1 h2;exact .c _ rfl
theorem aT0{kt:TypeId}{n:Nat}{W:World}(hk:v7 P kt=some (.array n 0))(as bs:List Int)(h1:as.length=n)(h2:bs.length=n):
  (Op.equal kt (.agg (as.map iV).toArray) (.agg (bs.map iV).toArray)).run P W= .ok (decide (as=bs)) W:=by
 have E0:Env:=⟨fun _=>0,fun _=>0,fun _=>False,fun _=>0⟩
 refine XI 10000 kt _ _ _ _ _ (Es E0 W as) (Es E0 W bs) ?_;unfold v7 at hk;split at hk
 ·rename_i fs hu
  split at hk
  ·cases hk
  ·rename_i hp
   obtain⟨m,hm,he⟩:=IF hk;simp only[TypeDesc.array.injEq,and_true]at he;subst he;have:=W7 (P:=P) (d:=9998) fs.toList 0 m as bs hm h1 h2;simp only[tH]at this
   show pT P (9999+1) kt (.agg ((as.map iV).map AV.c)) (.agg ((bs.map iV).map AV.c))=_
   rw[Cb hu,if_neg hp];exact this
 ·cases hk
 ·rename_i LZ xK
  exact absurd hk (xK _ _)
theorem Tf{kt:TypeId}{n:Nat}{W:World}(hk:v7 P kt=some (.array n 0)){k:Value}(sA:wR (.array n 0) k):∀(l:List MapEntry) (i:Nat),(∀x∈l,wR (.array n 0) x.key)->
  ((Instr.findAsking kt k l i).run P W= .ok none W/\∀x∈l,x.key≠k)\/∃j e,(Instr.findAsking kt k l i).run P W= .ok (some (i+j,e.val)) W/\l[j]? =some e/\e.key=k
 |[],i,_=> .inl ⟨by simp[Instr.findAsking],by simp⟩
 |e::es,i,h=>by
  obtain⟨as,h1,rfl⟩:=JL sA;obtain⟨bs,h2,h3⟩:=JL (h e (.head _));have hr:=aT0 (W:=W) hk as bs h1 h2;rw[<-h3]at hr;by_cases XN:as=bs
  ·rw[decide_eq_true XN]at hr
   exact .inr ⟨0,e,by simp[Instr.findAsking,hr],rfl,by rw[h3,XN]⟩
  ·rw[decide_eq_false XN]at hr
   have aM:e.key≠ .agg (as.map iV).toArray:=fun q=>XN (by
    rw[h3]at q;simp only[Value.agg.injEq]at q
    exact(Te (by simpa using congrArg Array.toList q)).symm)
   rcases Tf (W:=W) hk sA es (i+1) (fun x hx=>h x (.tail _ hx))with⟨h1,h2⟩|⟨j,e',h1,h2,h3⟩
   ·exact .inl ⟨by simp[Instr.findAsking,hr,h1],fun x hx=>by
     rcases fB.1 hx with rfl|hx
     ·exact aM
     ·exact h2 x hx⟩
   ·exact .inr ⟨j+1,e',by simp[Instr.findAsking,hr,h1,uE,Nat.add_comm 1 j],by simpa using h2,h3⟩
theorem aT1{kt:TypeId}{d:TypeDesc}{W:World}(hk:v7 P kt=some d){k:Value}(sA:wR d k)(l:List MapEntry)(h:∀x∈l,wR d x.key):
  ((Instr.findKey kt k l).run P W= .ok none W/\∀x∈l,x.key≠k)\/∃j e,(Instr.findKey kt k l).run P W= .ok (some (j,e.val)) W/\l[j]? =some e/\e.key=k:=by
 have vE:=hk;unfold v7 at hk;split at hk
 ·rename_i fs hu
  split at hk
  ·cases hk
  ·obtain⟨m,hm,he⟩:=IF hk
   subst he;rcases Tf (W:=W) vE sA l 0 h with⟨h1,h2⟩|⟨j,e,h1,h2,h3⟩
   ·refine .inl ⟨?_,h2⟩
    cases l with
    |nil=>simp[Instr.findKey,run_underlying hu,Result.andThen,Instr.findNow]
    |cons e es=>
     have:Instr.findNow (.struct fs) k (e::es) 0=none:=by simp[Instr.findNow,Instr.sameNow]
     simp[Instr.findKey,run_underlying hu,Result.andThen,this,h1]
   ·refine .inr ⟨j,e,?_,h2,h3⟩
    cases l with
    |nil=>simp at h2
    |cons e0 es=>
     have:Instr.findNow (.struct fs) k (e0::es) 0=none:=by simp[Instr.findNow,Instr.sameNow]
     simp only[sN]at h1;simp[Instr.findKey,run_underlying hu,Result.andThen,this,h1]
 ·cases hk
 ·rename_i d0 LZ xK
  have JM:∀n e,d≠ .array n e:=fun n e q=>by subst q;exact xK _ _ hk
  rcases MapKept.findNow_spec (JK JM sA) l 0 (fun x hx=>JK JM (h x hx))with⟨h1,h2⟩|⟨j,e,h1,h2,h3⟩
  ·exact .inl ⟨MapKept.run_findKey hk h1,h2⟩
  ·exact .inr ⟨j,e,by have:=MapKept.run_findKey (P:=P) (w:=W) hk h1;simpa using this,h2,h3⟩
theorem Tg{m n:Nat}{W:World}{em:Bool}(l:List Int):∀(fs:List Field) (i:Nat),yE P fs i=some n->l.length=n->
  (forIn fs PUnit.unit fun f _=>do
    if f.name≠ "_" then Instr.checkKey em (m+1) f.type (<-part f.type (l.map iV).toArray f.offset)
    pure (ForInStep.yield PUnit.unit):Sem PUnit).run P W= .ok PUnit.unit W
 |[],i,h,hl=>by simp
 |f::fs,i,h,hl=>by
  simp only[yE]at h;split at h
  ·rename_i hu hs
   split at h
   ·cases h
   ·rename_i hn
    simp only[not_or,ne_eq,Decidable.not_not]at hn;have ih:=Tg (m:=m) (W:=W) (em:=em) l fs (i+1) h hl
    have mP:∀(fs:List Field) (i n:Nat),yE P fs i=some n->i<=n:=by
     intro fs
     induction fs with
     |nil=>intro i n h;simp only[yE,bB]at h;omega
     |cons f fs ih=>
      intro i n h;simp only[yE]at h;split at h
      ·split at h
       ·cases h
       ·have:=ih _ _ h;omega
      ·cases h
    have hi:=mP _ _ _ h;have BA:i<l.length:=by omega
    have DN:iB P f.type=some false:=by unfold iB;rw[hu]
    have hp:(part f.type (l.map iV).toArray f.offset).run P W= .ok (iV l[i]) W:=by
     simp[part,RY DN,hn.2,BA]
    have hc:(Instr.checkKey em (m+1) f.type (iV l[i])).run P W= .ok () W:=MapKept.run_checkKey hu (show MapKept.IsKey (.int .i64) (.int .i64 l[i])from rfl) em m
    simp only[List.forIn_cons,Sem.run_bind,hn.1,ne_eq,not_false_eq_true,if_true,Result.andThen_ok,hp,hc,Sem.run_pure];exact ih
  ·cases h
theorem Th{kt:TypeId}{d:TypeDesc}{W:World}(hk:v7 P kt=some d){k:Value}(sA:wR d k)(em:Bool):(Instr.checkKey em 10000 kt k).run P W= .ok () W:=by
 unfold v7 at hk;split at hk
 ·rename_i fs hu
  split at hk
  ·cases hk
  ·obtain⟨m,hm,he⟩:=IF hk
   subst he;obtain⟨l,h1,rfl⟩:=JL sA;rw[show(10000:Nat)=9998+1+1 from rfl,Instr.checkKey]
   simp only[Sem.run_bind,run_underlying hu,Result.andThen_ok];rw[<-Array.forIn_toList];have:=Tg (m:=9998) (W:=W) (em:=em) l fs.toList 0 hm h1;simp only[Sem.run_bind]at this⊢;rw[this];rfl
 ·cases hk
 ·rename_i d0 LZ xK
  have JM:∀n e,d≠ .array n e:=fun n e q=>by subst q;exact xK _ _ hk
  exact MapKept.run_checkKey hk (JK JM sA) em 9999
theorem aT2{d:TypeDesc}{W:World}{k:Value}(sA:wR d k):(Instr.keyThatStays k k).run P W= .ok k W:=by
 by_cases hd:∃n e,d= .array n e
 ·obtain⟨n,e,rfl⟩:=hd
  obtain⟨l,_,rfl⟩:=JL sA
  have hs:Instr.sameBits 10000 (.agg (l.map iV).toArray) (.agg (l.map iV).toArray)=true:=by
   show Instr.sameBits (9999+1) (.agg (l.map iV).toArray) (.agg (l.map iV).toArray)=true
   simp only[Instr.sameBits,beq_self_eq_true,Z5,gK];intro p hp;obtain⟨i,hi,e⟩:=List.getElem_of_mem hp;rw[List.getElem_zip]at e;rw[<-e];simp[iV,Instr.sameBits]
  simp[Instr.keyThatStays,hs]
 ·exact MapKept.run_keyThatStays (JK (fun n e h=>hd ⟨n,e,h⟩) sA)
end
def s8(k:Value):List (Value×AV)->Option AV
 |[]=>none
 |(k',x)::r=>if pX k' k=true then some x else s8 k r
def tN(k:Value)(x:AV):List (Value×AV)->List (Value×AV)
 |[]=> [(k,x)]
 |(k',y)::r=>if pX k' k=true then(k',x)::r else(k',y)::tN k x r
theorem Bc{k:Value}:∀{es:List (Value×AV)},(∀p∈es,pX p.1 k=false)->s8 k es=none
 |[],_=>rfl
 |(k',x)::r,h=>by
  simp only[s8,h _ (.head _),kV,if_false];exact Bc fun p hp=>h p (.tail _ hp)
theorem Bd{k:Value}{x:AV}:∀{es:List (Value×AV)},(∀p∈es,pX p.1 k=false)->tN k x es=es++[(k,x)]
 |[],_=>rfl
 |(k',y)::r,h=>by
  simp only[tN,h _ (.head _),kV,if_false,YX];rw[Bd fun p hp=>h p (.tail _ hp)]
theorem Ti{k:Value}{x:AV}{k':Value}:∀{es:List (Value×AV)} {j:Nat},es[j]? =some (k',x)->pX k' k=true->(∀i,i<j->∀p,es[i]? =some p->pX p.1 k=false)->s8 k es=some x
 |[],j,h,_,_=>by simp at h
 |(k0,y)::r,0,h,hs,_=>by
  simp only[mK,bB,bY]at h;obtain⟨rfl,rfl⟩:=h;simp only[s8,hs,if_true]
 |(k0,y)::r,j+1,h,hs,hn=>by
  have h0:=hn 0 (by omega) (k0,y) rfl
  simp only[s8,h0,kV,if_false];exact Ti (by simpa using h) hs fun i hi p hp=>hn (i+1) (by omega) p (by simpa using hp)
theorem Tj{k:Value}{x y:AV}{k':Value}:∀{es:List (Value×AV)} {j:Nat},es[j]? =some (k',x)->pX k' k=true->(∀i,i<j->∀p,es[i]? =some p->pX p.1 k=false)->tN k y es=es.set j (k',y)
 |[],j,h,_,_=>by simp at h
 |(k0,z)::r,0,h,hs,_=>by
  simp only[mK,bB,bY]at h;obtain⟨rfl,rfl⟩:=h;simp only[tN,hs,if_true,YU]
 |(k0,z)::r,j+1,h,hs,hn=>by
  have h0:=hn 0 (by omega) (k0,z) rfl
  simp only[tN,h0,kV,if_false,Ip];rw[Tj (by simpa using h) hs fun i hi p hp=>hn (i+1) (by omega) p (by simpa using hp)]
section
variable {P : Program} {g : Operand -> Option AV} {G : Nat -> Option aI} {aG : Nat} {dst : Option Tmp} {ty : TypeId} {pos : String} {after : Array Edge} {guard : Option (Nat × Bool)}
theorem Tk{E:Env}{W:World}{es:List (Value×AV)}{ms:Array MapEntry}{clock:Nat}{kt:TypeId}{d:TypeDesc}{k:Value}(hkd:v7 P kt=some d)(hs:MapKept.Stamped ms clock)(hl:ms.size=es.length)
  (hc:∀(i:Nat) k x,es[i]? =some (k,x)->∃e,ms[i]? =some e/\e.key=k/\RV E W x e.val) (hk:s9 d k=true) (CS:yY d es=true):
  (∀x∈ms.toList,wR d x.key)/\
  (((Instr.findKey kt k ms.toList).run P W= .ok none W/\(∀x∈ms.toList,x.key≠k)/\s8 k es=none/\∀x,tN k x es=es++[(k,x)])\/
  ∃j e x,(Instr.findKey kt k ms.toList).run P W= .ok (some (j,e.val)) W/\ms[j]? =some e/\e.key=k/\es[j]? =some (k,x)/\RV E W x e.val/\s8 k es=some x/\∀y,tN k y es=es.set j (k,y)):=by
 have JN:=MR hk
 have bX:∀(i:Nat) e,ms[i]? =some e->∃x,es[i]? =some (e.key,x)/\RV E W x e.val:=fun i e he=>by
  have hi:i<es.length:=by rw[<-hl];exact(jB.1 he).1
  obtain⟨e',h1,h2,h3⟩:=hc i es[i].1 es[i].2 (by rw[fU hi])
  rw[he]at h1;injection h1 with h1
  subst h1;exact⟨_,by rw[fU hi,h2],h3⟩
 have eT:∀x∈ms.toList,wR d x.key:=fun x hx=>by
  obtain⟨i,hi⟩:=wX.1 hx;rw[yP]at hi;obtain⟨y,hy,_⟩:=bX i x hi;exact MR (gK.1 CS _ (eY hy))
 refine⟨eT,?_⟩;rcases aT1 (W:=W) hkd JN ms.toList eT with⟨h1,h2⟩|⟨j,e,h1,h2,h3⟩
 ·have gG:∀p∈es,pX p.1 k=false:=fun p hp=>by
   obtain⟨i,hi⟩:=wX.1 hp;obtain⟨e,k7,lA,_⟩:=hc i p.1 p.2 hi;have hm:e∈ms.toList:=by rw[EW];exact HH k7
   have aM:=h2 e hm;rw[lA]at aM;cases lF:pX p.1 k with
   |false=>rfl
   |true=>exact absurd ((Er (lA▸eT e hm) JN).1 lF) aM
  exact .inl ⟨h1,h2,Bc gG,fun x=>Bd gG⟩
 ·rw[yP]at h2
  obtain⟨x,hx,hr⟩:=bX j e h2;rw[h3]at hx;have lF:pX k k=true:=(Er JN JN).2 rfl
  have bG:∀i,i<j->∀p,es[i]? =some p->pX p.1 k=false:=fun i jY p hp=>by
   obtain⟨e',k7,lA,_⟩:=hc i p.1 p.2 hp;have hm:e'∈ms.toList:=by rw[EW];exact HH k7
   cases lF:pX p.1 k with
   |false=>rfl
   |true=>
    have heq:=(Er (lA▸eT e' hm) JN).1 lF;have sS:=hs.2.2;have g1:(ms.toList.map (·.key))[i]? =some k:=by rw[iA,yP,k7,pP,lA,heq]
    have g2:(ms.toList.map (·.key))[j]? =some k:=by rw[iA,yP,h2,pP,h3]
    have zA:i<(ms.toList.map (·.key)).length:=(dS.1 g1).1
    have:=(List.getElem?_inj zA sS).1 (g1.trans g2.symm);omega
  exact .inr ⟨j,e,x,h1,h2,h3,hx,hr,Ti hx lF bG,fun y=>Tj hx lF bG⟩
def MS:List AV->Option (List Value)
 |[]=>some []
 | .c v::r=>if yA v=true then none else(MS r).map (v:: ·)
 |_=>none
def BB:AV->Option Value
 | .c v=>some v
 | .agg xs=>(MS xs).map fun vs=> .agg vs.toArray
 |_=>none
theorem Tl{E:Env}{W:World}:∀(xs:List AV) (vs us:List Value),MS xs=some vs->xs.length=us.length->(∀(i:Nat) x v,xs[i]? =some x->us[i]? =some v->RV E W x v)->us=vs
 |[],vs,us,h,hl,_=>by
  simp only[MS,bB]at h;subst h;exact fI hl.symm
 |x::xs,vs,us,h,hl,hr=>by
  cases us with
  |nil=>simp at hl
  |cons u us=>
   cases x<;>simp only[MS,reduceCtorEq]at h
   rename_i v;split at h
   ·cases h
   ·obtain⟨ws,h1,h2⟩:=IF h
    subst h2;have h3:=hr 0 _ u rfl rfl;cases h3;rw[Tl xs ws us h1 (by simpa using hl) fun i x v g1 g2=>hr (i+1) x v (by simpa using g1) (by simpa using g2)]
theorem Et{E:Env}{W:World}{a:AV}{k v:Value}(h:BB a=some k)(r:RV E W a v):v=k:=by
 cases a<;>simp only[BB,reduceCtorEq]at h
 ·injection h with h;subst h;cases r;rfl
 ·obtain⟨vs,h1,h2⟩:=IF h
  subst h2;cases r with
  |agg _ us hl hc=>
  have:=Tl _ _ us.toList h1 (by simpa using hl) fun i x v g1 g2=>hc i x v g1 (by simpa using g2)
  rw[<-this]
theorem aT4{t kt e:TypeId}{d:TypeDesc}{m x:Operand}{ok:Bool}{id:Nat}{es:List (Value×AV)}{kv:Value}{z:AV}(ht:yQ P t=some (kt,e,d))(hz:BX P e=some z)(hm:g m=some (.omap id))(hg:G id=some (.map es))
  {xa:AV} (hx:g x=some xa) (JO:BB xa=some kv) (hk:s9 d kv=true) (CS:yY d es=true):
  eJ P g G aG ⟨dst,.lookup t m x ok,ty,pos,after,guard⟩ (if ok=true then .aR [(s8 kv es).getD z,.c (.bool (s8 kv es).isSome)]else(s8 kv es).getD z) G:=
 .still fun E W ρ hG aW=>by
   have nZ:=aW m _ hm;have gR:=aW x _ hx;generalize GK:ρ m=vm at nZ;generalize cF:ρ x=vx at gR;obtain rfl:=(Et JO gR).symm;cases nZ;obtain⟨hu,JP⟩:=XK ht;obtain⟨zv,B9,RZ⟩:=Ep hz;obtain⟨⟨ms,clock,h1,h2,h3,h4⟩,_,_⟩:=(hG.ok id _ hg).2;obtain⟨eT,hf⟩:=Tk JP h2.1 h3 h4 hk CS;have e1:=MapKept.run_getObj_map (P:=P) h1;have e3:=Th (P:=P) (W:=W) JP (MR hk) ms.isEmpty
   rcases hf with⟨f1,f2,f3,_⟩|⟨j,e',y,f1,f2,f3,f4,f5,f6,_⟩
   ·have e4:=f1
    have hr:(Instr.lookup t (.map (some (E.ι id))) kv ok).run P W= .ok (if ok=true then .tuple #[zv,.bool false]else zv) W:=by
     simp[Instr.lookup,Sem.run_bind,run_underlying hu,Result.andThen,e1,e3,e4,B9]
    refine⟨_,by simp only[execOp,GK,cF];rw[Sem.run_bind,hr];rfl,?_⟩
    rw[f3];cases ok with
    |false=>exact RZ E W
    |true=>
     refine .aR _ _ rfl fun i a v ha hv=> ?_
     rcases i with _|_|i
     ·simp at ha hv;subst ha;subst hv;exact RZ E W
     ·simp at ha hv;subst ha;subst hv;exact .c _ rfl
     ·simp at ha
   ·have e4:=f1
    have hr:(Instr.lookup t (.map (some (E.ι id))) kv ok).run P W= .ok (if ok=true then .tuple #[e'.val,.bool true]else e'.val) W:=by
     simp[Instr.lookup,Sem.run_bind,run_underlying hu,Result.andThen,e1,e3,e4]
    refine⟨_,by simp only[execOp,GK,cF];rw[Sem.run_bind,hr];rfl,?_⟩
    rw[f6];cases ok with
    |false=>exact f5
    |true=>
     refine .aR _ _ rfl fun i a v ha hv=> ?_
     rcases i with _|_|i
     ·simp at ha hv;subst ha;subst hv;exact f5
     ·simp at ha hv;subst ha;subst hv;exact .c _ rfl
     ·simp at ha
theorem aT5{t kt e:TypeId}{d:TypeDesc}{m:Operand}{id:Nat}{es:List (Value×AV)}(ht:yQ P t=some (kt,e,d))(hm:g m=some (.omap id))(hg:G id=some (.map es)):
  eJ P g G aG ⟨dst,.call ⟨.builtin .len,#[m],#[t]⟩,ty,pos,after,guard⟩ (.c (.int .i64 es.length)) G:=
 .still fun E W ρ hG aW=>by
   have nZ:=aW m _ hm;generalize GK:ρ m=vm at nZ;cases nZ;obtain⟨hu,JP⟩:=XK ht;obtain⟨⟨ms,clock,h1,h2,h3,h4⟩,_,_⟩:=(hG.ok id _ hg).2;refine⟨.int .i64 es.length,?_,.c _ rfl⟩;rw[zN];simp[builtin,GK,Builtin.len_,run_underlying hu,MapKept.run_getObj_map h1,goInt,Result.andThen,h3,Sem.run_bind]
theorem bD.aT6{E:Env}{W:World}{G:Nat->Option aI}{id:Nat}(hU:E.U id){ms:Array MapEntry}{clock:Nat}(hb:W.heap[E.ι id]? =some (.map ms clock))(hL:E.L (E.ι id)=0)(wS:Array MapEntry)(zP:Nat):
  bD E W E {W with heap:=W.heap.setIfInBounds (E.ι id) (.map wS zP)}where
 os:=rfl
 tape:=rfl
 output:=rfl
 size:=by simp
 used:=fun _ h=>h
 jL:=fun _ _=>⟨rfl,rfl⟩
 lim:=fun _=>cA _
 yB:=fun b k hk=>by
  have aM:b≠E.ι id:=fun e=>by subst e;omega
  have:=(MapKept.heap_set (w:=W) (o':= .map wS zP) hb).2 b aM;unfold World.cell?;simp only[this]
 sD:=fun b _ hf=>(MapKept.heap_set (w:=W) (o':= .map wS zP) hb).2 b fun e=>hf id hU e.symm
 cD:=fun b c e f h=>by
  have aM:b≠E.ι id:=fun e=>by subst e;rw[hb]at h;cases h
  exact⟨c,f,by rw[(MapKept.heap_set (w:=W) (o':= .map wS zP) hb).2 b aM];exact h,rfl⟩
 still:=fun _ _ _=>rfl
 fresh:=fun id h h'=>absurd h' h
 loops:=fun b r h=>by
  have aM:b≠E.ι id:=fun e=>by subst e;rw[hb]at h;cases h
  exact⟨r,by rw[(MapKept.heap_set (w:=W) (o':= .map wS zP) hb).2 b aM];exact h,rfl⟩
theorem aT7{t kt e:TypeId}{d:TypeDesc}{m x y:Operand}{id:Nat}{es:List (Value×AV)}{kv:Value}{a:AV}(ht:yQ P t=some (kt,e,d))(hm:g m=some (.omap id))(hg:G id=some (.map es))
  {xa:AV} (hx:g x=some xa) (JO:BB xa=some kv) (hy:g y=some a) (hk:s9 d kv=true) (CS:yY d es=true):
  eJ P g G aG ⟨dst,.mapUpdate t m x y,ty,pos,after,guard⟩ (.c undef) (aS G [(id,some (.map (tN kv a es)))]):=fun E W ρ hG gU aW=>by
 have nZ:=aW m _ hm;have gR:=aW x _ hx;have mG:=aW y _ hy;generalize GK:ρ m=vm at nZ;generalize cF:ρ x=vx at gR;generalize k8:ρ y=vy at mG;obtain rfl:=(Et JO gR).symm;cases nZ;obtain⟨hu,JP⟩:=XK ht;obtain⟨hU,⟨ms,clock,h1,h2,h3,h4⟩,hL,eM⟩:=hG.ok id _ hg;obtain⟨eT,hf⟩:=Tk JP h2.1 h3 h4 hk CS;have e1:=MapKept.run_getObj_map (P:=P) h1;have e3:=Th (P:=P) (W:=W) JP (MR hk) false
 have fin:∀(wS:Array MapEntry) (zP:Nat),(Instr.mapUpdate t (.map (some (E.ι id))) kv vy).run P W= .ok () {W with heap:=W.heap.setIfInBounds (E.ι id) (.map wS zP)}->
   Ed wS zP->wS.size=(tN kv a es).length->(∀(i:Nat) k x,(tN kv a es)[i]? =some (k,x)->∃e,wS[i]? =some e/\e.key=k/\RV E W x e.val)->
   ∃W' v E',((execOp ρ ⟨dst,.mapUpdate t m x y,ty,pos,after,guard⟩).run P W= .ok (.value v) W'\/((execOp ρ ⟨dst,.mapUpdate t m x y,ty,pos,after,guard⟩).run P W= .ok .skip W'/\v=undef))/\bD E W E' W'/\
    RC E' W' (aS G [(id,some (.map (tN kv a es)))])/\RV E' W' (.c undef) v/\(∀q,E'.U q->E.U q\/(q=aG/\(aS G [(id,some (.map (tN kv a es)))] aG).isSome=true)):=by
  intro wS zP hr nH rH B6;have hv:=bD.aT6 (G:=G) hU h1 hL wS zP;obtain⟨MP,Sf⟩:=MapKept.heap_set (w:=W) (o':= .map wS zP) h1;refine⟨_,undef,E,.inr ⟨?_,rfl⟩,hv,⟨fun b hb=>hG.lim b (by simpa using hb),fun aK h=>by simpa using hG.eX aK h,fun aK b h=> ?_⟩,.c _ rfl,fun _ h=> .inl h⟩
  ·simp only[execOp,GK,cF,k8]
   rw[Sem.run_bind,hr];rfl
  ·by_cases aC:aK=id
   ·subst aC
    simp only[aS,if_true,bB]at h;subst h;refine⟨hU,⟨wS,zP,MP,nH,rH,fun i k x hx=> ?_⟩,hL,fun cX cY aM dA=> ?_⟩
    ·obtain⟨e,k7,lA,qA⟩:=B6 i k x hx
     exact⟨e,k7,lA,qA.mono hv⟩
    ·simp only[aS,aM,if_false]at dA
     exact eM cX cY aM dA
   ·simp only[aS,aC,if_false]at h
    obtain⟨g2,g3⟩:=hG.ok aK b h;have dY:E.ι aK≠E.ι id:=eM aK b aC h;refine⟨g2,g3.mono hv g2 (Sf _ dY) rfl fun cX cY aM dA he=> ?_⟩
    by_cases GD:cX=id
    ·subst GD;exact absurd he.symm dY
    ·simp only[aS,GD,if_false]at dA
     exact⟨cY,dA,he,rfl,fun h=>h⟩
 rcases hf with⟨f1,f2,f3,f4⟩|⟨j,e',y',f1,f2,f3,f4,f5,f6,f7⟩
 ·have e4:=f1
  refine fin (ms.push ⟨kv,vy,clock⟩) (clock+1) ?_ ⟨MapKept.stamped_push h2.1 f2,by rw[h2.2.1];simp,fun i e he=>by
   rw[Array.getElem?_push]at he;split at he
   ·rename_i q;injection he with he;subst he;rw[q,h2.2.1]
   ·exact h2.2.2 i e he⟩ (by rw[f4];simp[h3]) fun i k x hx=> ?_
  ·have e2:=MapKept.run_setObj_map (P:=P) (w:=W) (.map (ms.push ⟨kv,vy,clock⟩) (clock+1)) h1
   simp only[Instr.mapUpdate,Sem.run_bind,run_underlying hu,Result.andThen,e1,e3,e4,e2]
  ·rw[f4]at hx
   by_cases hi:i<es.length
   ·rw[lT hi]at hx
    obtain⟨e,k7,lA,qA⟩:=h4 i k x hx;exact⟨e,by rw[Array.getElem?_push_lt (by omega)];rw[EX (by omega)]at k7;exact k7,lA,qA⟩
   ·have Bw:i=es.length:=by
     have:=(dS.1 hx).1;simp at this;omega
    subst Bw;simp only[lD (cA _),tG,mK,bB,bY]at hx;obtain⟨rfl,rfl⟩:=hx;exact⟨⟨kv,vy,clock⟩,by rw[<-h3];simp,rfl,mG⟩
 ·have e4:=f1
  have e5:=aT2 (P:=P) (W:=W) (MR hk)
  have hjk:∀e∈ms.toList,ms[j]? =some e->({e with key:=kv,val:=vy}:MapEntry).key=e.key:=fun e _ h=>by
   rw[f2]at h;injection h with h;subst h;exact f3.symm
  refine fin (ms.modify j fun e=>{e with key:=kv,val:=vy}) clock ?_ ⟨MapKept.stamped_modify h2.1 j _ (fun _ _=>rfl) hjk,by rw[h2.2.1];simp,fun i e he=>by
   rw[Yt]at he;split at he
   ·rename_i q
    subst q;rw[f2]at he;simp only[pP,bB]at he;subst he;exact(h2.2.2 j e' f2:e'.born=j)
   ·exact h2.2.2 i e he⟩ (by rw[f7];simp[h3]) fun i k x hx=> ?_
  ·have e2:=MapKept.run_setObj_map (P:=P) (w:=W) (.map (ms.modify j fun e=>{e with key:=kv,val:=vy}) clock) h1
   have e6:((ms[j]?).map (·.key)).getD kv=kv:=by rw[f2];simp[f3]
   simp only[Instr.mapUpdate,Sem.run_bind,run_underlying hu,Result.andThen,e1,e3,e4,e6,e5,e2]
  ·rw[f7]at hx
   have hj:j<ms.size:=(jB.1 f2).1;by_cases jY:i=j
   ·subst jY
    rw[U9 (by omega)]at hx
    injection hx with hx
    obtain⟨rfl,rfl⟩:=Prod.mk.inj hx;refine⟨{e' with key:=kv,val:=vy},by rw[Yt];simp[f2],rfl,mG⟩
   ·rw[Z3 (mV jY)]at hx
    obtain⟨e,k7,lA,qA⟩:=h4 i k x hx;exact⟨e,by rw[Yt];simp[mV jY,k7],lA,qA⟩
theorem aT9{t:TypeId}:eJ P g G aG ⟨dst,.makeMap t none,ty,pos,after,guard⟩ (.omap aG) (aS G [(aG,some (.map []))]):=fun E W ρ hG gU aW=>by
 have hv:=bD.alloc hG gU (.map #[] 0) 0;refine⟨_,.map (some W.heap.size),_,.inl ?_,hv,⟨fun b hb=>hG.lim b (by simp at hb;omega),fun id h=> ?_,fun id b h=> ?_⟩,?_,fun id h=>h.imp (fun h=>h) (fun e=>⟨e,by simp[aS]⟩)⟩
 ·simp only[execOp]
  rfl
 ·rcases h with h|h
  ·have aM:id≠aG:=fun e=>gU (e▸h)
   have:=hG.eX id h;simp[Env.more,aM];omega
  ·subst h;simp[Env.more]
 ·by_cases aC:id=aG
  ·subst aC
   simp only[aS,if_true,bB]at h;subst h;refine⟨.inr rfl,⟨#[],0,by simp only[Env.more,if_true];exact heap_alloc_new W _,⟨MapKept.stamped_empty 0,rfl,fun i e h=>by simp at h⟩,rfl,fun i k x hx=>by simp at hx⟩,?_,fun aK b' aM hg=> ?_⟩
   ·simp only[Env.more,if_true];exact hG.lim _ (cA _)
   ·simp only[aS,aM,if_false]at hg
    have:=hG.eX aK (hG.ok aK b' hg).1;simp only[Env.more,aM,if_true,if_false];omega
  ·simp only[aS,aC,if_false]at h
   obtain⟨h1,h2⟩:=hG.ok id b h;have bG:=hG.eX id h1;refine⟨.inl h1,h2.mono hv h1 (Below.heap_alloc W _ _ bG) rfl fun aK b' aM hg he=> ?_⟩
   by_cases rC:aK=aG
   ·subst rC;simp only[Env.more,if_true]at he;omega
   ·simp only[aS,rC,if_false]at hg
    simp only[Env.more,rC,if_false]at he;exact⟨b',hg,he,rfl,fun h=>h⟩
 ·have:=RV.omap (E:=E.more aG W.heap.size 0) (W:=W.alloc (.map #[] 0)) aG (.inr rfl)
  simpa[Env.more]using this
def S9:Value->AV
 | .agg cs=> .agg (cs.toList.map AV.c)
 |v=> .c v
theorem Tm{E:Env}{W:World}{d:TypeDesc}{k:Value}(h:s9 d k=true):RV E W (S9 k) k:=by
 have h2:=MR h;by_cases hd:∃n e,d= .array n e
 ·obtain⟨n,e,rfl⟩:=hd
  obtain⟨l,_,rfl⟩:=JL h2;exact Es E W l
 ·have h3:=JK (fun n e h=>hd ⟨n,e,h⟩) h2
  cases d<;>cases k<;>simp only[MapKept.IsKey]at h3<;>exact .c _ rfl
theorem aU0{t kt e:TypeId}{d:TypeDesc}{m:Operand}{id:Nat}{es:List (Value×AV)}(ht:yQ P t=some (kt,e,d))(hm:g m=some (.omap id))(hg:G id=some (.map es)):
  eJ P g G aG ⟨dst,.range t m,ty,pos,after,guard⟩ (.ptr aG 0 0) (aS G [(aG,some (.iter id es.length []))]):=fun E W ρ hG gU aW=>by
 have nZ:=aW m _ hm;generalize GK:ρ m=vm at nZ;cases nZ;obtain⟨hu,JP⟩:=XK ht;obtain⟨hU,⟨ms,clock,h1,h2,h3,h4⟩,_,_⟩:=hG.ok id _ hg;have j7:clock=es.length:=by rw[h2.2.1,h3]
 subst j7;have hv:=bD.alloc hG gU (.mapIter (some (E.ι id)) es.length #[] es.length) 0;have Sx:id≠aG:=fun e=>gU (e▸hU)
 refine⟨_,.pointer (some ⟨W.heap.size,0,none⟩),_,.inl ?_,hv,⟨fun b hb=>hG.lim b (by simp at hb;omega),fun id h=> ?_,fun id b h=> ?_⟩,?_,fun id h=>h.imp (fun h=>h) (fun e=>⟨e,by simp[aS]⟩)⟩
 ·simp only[execOp,GK]
  rw[Sem.run_bind];simp[Instr.range,run_underlying hu,MapKept.run_getObj_map h1]
 ·rcases h with h|h
  ·have aM:id≠aG:=fun e=>gU (e▸h)
   have:=hG.eX id h;simp[Env.more,aM];omega
  ·subst h;simp[Env.more]
 ·by_cases aC:id=aG
  ·subst aC
   simp only[aS,if_true,bB]at h;subst h;refine⟨.inr rfl,⟨?_,.inl hU⟩,?_,fun aK b' aM hg=> ?_⟩
   ·simp only[Env.more,if_true,Sx,if_false];exact heap_alloc_new W _
   ·simp only[Env.more,if_true];exact hG.lim _ (cA _)
   ·simp only[aS,aM,if_false]at hg
    have:=hG.eX aK (hG.ok aK b' hg).1;simp only[Env.more,aM,if_true,if_false];omega
  ·simp only[aS,aC,if_false]at h
   obtain⟨h1,h2⟩:=hG.ok id b h;have bG:=hG.eX id h1;refine⟨.inl h1,h2.mono hv h1 (Below.heap_alloc W _ _ bG) rfl fun aK b' aM hg he=> ?_⟩
   by_cases rC:aK=aG
   ·subst rC;simp only[Env.more,if_true]at he;omega
   ·simp only[aS,rC,if_false]at hg
    simp only[Env.more,rC,if_false]at he;exact⟨b',hg,he,rfl,fun h=>h⟩
 ·have:=RV.ptr (E:=E.more aG W.heap.size 0) (W:=W.alloc (.mapIter (some (E.ι id)) es.length #[] es.length)) aG 0 0 (.inr rfl)
  simpa[Env.more]using this
theorem aU1{d:TypeDesc}{x:Operand}{id m n i:Nat}{seen:List Nat}{es:List (Value×AV)}{k:Value}{a:AV}(hx:g x=some (.ptr id 0 0))(hg:G id=some (.iter m n (seen++[i])))(hm:G m=some (.map es))
  (hn:es.length=n) (he:es[i]? =some (k,a)) (hk:s9 d k=true):eJ P g G aG ⟨dst,.entry x,ty,pos,after,guard⟩ (.aR [S9 k,a]) G:=
 .still fun E W ρ hG aW=>by
   have gR:=aW x _ hx;generalize cF:ρ x=vx at gR;cases gR;obtain⟨⟨ms,clock,h1,h2,h3,h4⟩,_,_⟩:=(hG.ok m _ hm).2;obtain⟨⟨h5,h7⟩,_,_⟩:=(hG.ok id _ hg).2;have j7:clock=n:=by rw[h2.2.1,h3,hn]
   subst j7;obtain⟨en,k7,lA,qA⟩:=h4 i k a he;have hb:en.born=i:=h2.2.2 i en k7;have GL:en∈ms.toList:=by rw[EW];exact HH k7
   have hf:ms.find? (·.born==i)=some en:=by rw[<-Array.find?_toList,<-hb];exact find_born en ms.toList h2.1.2.1 GL
   have hbk:(seen++[i]).toArray.back? =some i:=by simp
   refine⟨.tuple #[en.key,en.val],?_,.aR _ _ rfl fun j y v hy hv=> ?_⟩
   ·simp only[execOp,cF,BQ,BU]
    rw[Sem.run_bind];simp only[Instr.entry,getObj,Sem.run_bind,Sem.run,h5,Result.andThen,h1,hbk,bne_self_eq_false,kV,if_false,hf];rfl
   ·rcases j with _|_|j
    ·simp at hy hv;subst hy;subst hv;rw[lA];exact Tm hk
    ·simp at hy hv;subst hy;subst hv;exact qA
    ·simp at hy
theorem run_next_any{W:World}{r bm n clock:Nat}{seen:List Nat}{ms:Array MapEntry}{ty:TypeId}(hr:W.heap[r]? =some (.mapIter (some bm) n seen.toArray n))(hb:W.heap[bm]? =some (.map ms clock))(hs:Ed ms clock)(hn:ms.size=n):
  ((∀i,i<n->i∈seen)/\(Instr.next (.pointer (some ⟨r,0,none⟩)) false ty).run P W= .ok (.tuple #[.bool false]) W)\/
  ∃i e,i<n/\i∉seen/\ms[i]? =some e/\∃w1,(w1=W\/w1=W.drew)/\(Instr.next (.pointer (some ⟨r,0,none⟩)) false ty).run P W= .ok (.tuple #[.bool true,e.key,e.val]) {w1 with heap:=w1.heap.setIfInBounds r (.mapIter (some bm) n (seen++[i]).toArray n)}:=by
 have j7:clock=n:=by rw[hs.2.1,hn]
 subst j7;have Eu:∀e∈ms.toList,e.born<clock:=fun e he=>hs.1.1 e he
 simp only[Instr.next,getObj,Sem.run_bind,Sem.run,hr,hb,Result.andThen,next_test_false seen.toArray ms clock clock Eu (cA _),kV,if_false]
 have GL:∀x∈(Array.filter (fun e=> !seen.toArray.contains e.born) ms).toList,x∈ms.toList/\x.born∉seen:=fun x hx=>by
  simp at hx;exact⟨EW.2 hx.1,hx.2⟩
 have eT:∀x∈ms.toList,x.born∉seen->x∈(Array.filter (fun e=> !seen.toArray.contains e.born) ms).toList:=fun x hx h=>by
  simp;exact⟨EW.1 hx,h⟩
 generalize Array.filter (fun e=> !seen.toArray.contains e.born) ms=L at GL eT⊢
 have e1:L.filter (fun x=>decide (x.born<clock))=L:=Array.filter_eq_self.2 (fun x hx=>by simpa using Eu x (GL x (by simpa using hx)).1)
 have e2:L.filter (fun x=>decide (x.born>=clock))= #[]:=by
  rw[Array.filter_eq_empty_iff];intro x hx;have:=Eu x (GL x (by simpa using hx)).1
  simp;omega
 simp only[e1,e2,Array.append_empty];by_cases h0:L.size=0
 ·left
  have:L= #[]:=Array.eq_empty_of_size_eq_zero h0;subst this;refine⟨fun i hi=> ?_,by simp[choose,Sem.run,Question.forced]⟩
  apply Yu;intro LZ;have hg:ms[i]? =some ms[i]:=EX (by omega)
  have xH:=hs.2.2 i _ hg;have:=eT ms[i] (by simp) (by rw[xH];exact LZ)
  simp at this
 ·right
  have aM:L.isEmpty=false:=by simp[Array.isEmpty,h0]
  simp only[aM,kV,if_false,Array.empty_append,Array.size_map]
  have hch:∃(j:Nat) (w1:World),j<L.size/\(w1=W\/w1=W.drew)/\(choose (Question.mapNext L.size)).run P W= .ok j w1:=by
   by_cases hf:L.size<=1
   ·exact⟨0,W,by omega,.inl rfl,by simp[choose,Sem.run,Question.forced,hf]⟩
   ·exact⟨_,W.drew,PD _ (by omega),.inr rfl,by
     simp only[choose,Sem.run,Question.forced,decide_eq_true_eq,hf,if_false,Question.cut]
     rfl⟩
  obtain⟨j,w1,hj,AT,dF⟩:=hch;obtain⟨h5,h6⟩:=GL L[j] (by simp)
  obtain⟨i,hi⟩:=wX.1 h5;rw[yP]at hi;have xH:=hs.2.2 i _ hi;have BA:i<clock:=by rw[<-hn];exact(jB.1 hi).1
  have I8:w1.heap[r]? =some (.mapIter (some bm) clock seen.toArray clock):=by rcases AT with rfl|rfl<;>exact hr
  refine⟨i,L[j],BA,by rw[<-xH];exact h6,hi,w1,AT,?_⟩
  simp only[dF,Z8,EX hj,pP,Sem.run_bind,Result.andThen,xH];simp only[setObj,Sem.run,I8];simp
end
end Go.AL
namespace Go.AL
open Go.RowKit
section
variable {P : Program} {g : Operand -> Option AV} {G : Nat -> Option aI} {aG : Nat} {dst : Option Tmp} {ty : TypeId} {pos : String} {after : Array Edge} {guard : Option (Nat × Bool)}
theorem aU4{a0:Option Addr}{t e:TypeId}{k:Nat}{x y:Operand}{b:AV}{rd:List Nat}(ht:fC P t=some (e,k))(hx:g x=some (.c (.slice a0 0 0)))(hy:g y=some b)(hb:rowsOf G b=some ([],rd)):
  eJ P g G aG ⟨dst,.call ⟨.builtin .append,#[x,y],#[t,t]⟩,ty,pos,after,guard⟩ (.c (.slice a0 0 0)) G:=
 .still fun E W ρ hG aW=>by
   have gR:=aW x _ hx;have mG:=aW y _ hy;generalize cF:ρ x=vx at gR;generalize k8:ρ y=vy at mG;obtain⟨S7,n2,xP,rfl,lG,_,_⟩:=MN hG mG hb;simp at lG;subst lG;cases gR;refine⟨_,?_,.c _ rfl⟩;rw[zN];simp only[builtin,zU,jW,sM,cF,k8];rw[Sem.run_bind,Em ht _ _ _ _ _ _ (cA _)];rfl
theorem aU5{a0:Option Addr}{t e:TypeId}{k m6:Nat}{zs:List AV}{x y:Operand}{aZ:List (List AV)}{b:AV}{rd:List Nat}(ht:fC P t=some (e,k))(hz:fQ P e=some zs)(ED:zs.length=k)(oW:p5 P e=some m6)
  (hx:g x=some (.c (.slice a0 0 0))) (hy:g y=some b) (hb:rowsOf G b=some (aZ,rd)) (aM:aZ≠[]) (h1:aZ.all (fun r=>r.length==k&&r.all AV.one)=true)
  (JI:aZ.length<=9223372036854775807) (AH:aZ.length*m6<=140737488355328):
  eJ P g G aG ⟨dst,.call ⟨.builtin .append,#[x,y],#[t,t]⟩,ty,pos,after,guard⟩ (.own aG 0 aZ.length) (aS G [(aG,some (.cells e k aZ true true))]):=fun E W ρ hG gU aW=>by
 have gR:=aW x _ hx;have mG:=aW y _ hy;generalize cF:ρ x=vx at gR;generalize k8:ρ y=vy at mG;cases gR;obtain⟨hu,hk⟩:=vJ ht;obtain⟨i,z,hi,tX,B9⟩:=JE hz;have fE:=XE hi hk;have CO:i.bytes=m6:=by simp[p5,hi]at oW;exact oW
 have h8:z.cells.size=k:=by have:=(B9 E W).1;simp at this;omega
 obtain⟨b2,p2,xP,eZ,news,rB,wD,mY,CQ⟩:=LX hG mG hb aM h1;subst eZ;have HN:0<aZ.length:=BP.2 aM;have AK:∀(j:Nat) u,news[j]? =some u->W.cell? ((⟨b2,p2,none⟩:Addr).add j)=some u:=fun j u hu=>by rw[Addr.add_lit];exact wD j u hu
 have hr:(Builtin.append_ #[t,t] ty #[.slice a0 0 0,.slice (some ⟨b2,p2,none⟩) aZ.length xP]).run P W= .ok (.slice (some ⟨W.heap.size,0,none⟩) aZ.length (grownCap W aZ.length 0 e)) (W.drew.alloc (.cells (news.toArray++Builtin.zeroCells z.cells (grownCap W aZ.length 0 e-aZ.length)) e)):=by
  cases a0 with
  |none=>exact run_append_nil (P:=P) W t ty e i z hu hi tX ⟨b2,p2,none⟩ aZ.length xP news (by rw[fE];exact rB) AK HN (by omega) (by rw[CO];omega)
  |some a1=>
   have h:=run_append_grow (P:=P) W t ty e i z hu hi tX a1 0 0 [] (by simp) (fun j u hu=>by simp at hu) ⟨b2,p2,none⟩ aZ.length xP news (by rw[fE];exact rB) AK (by omega) (by simp;omega) (growslice_fits (by omega) (by rw[CO];simpa using AH))
   simpa using h
 have mP:=grownCap_ge W aZ.length 0 e
 have CP:(news.toArray++Builtin.zeroCells z.cells (grownCap W aZ.length 0 e-aZ.length)).size=grownCap W aZ.length 0 e*k:=by
  simp only[Iz,PE,rB,size_zeroCells,h8,<-nX];congr 1;omega
 have hmul:aZ.length*k<=grownCap W aZ.length 0 e*k:=mU k mP;have GH:=hG.drew
 have AT:=GH.alloc gU e (news.toArray++Builtin.zeroCells z.cells (grownCap W aZ.length 0 e-aZ.length)) k aZ true true (XF h1) (by omega) (fun i j row x h5 h6=>by
  obtain⟨v,h7,h9⟩:=CQ i j row x h5 h6;refine⟨v,?_,h9.mono (bD.drew E W)⟩;have:i*k+j<news.length:=(dS.1 h7).1
  rw[PH (by simpa using this)];simpa using h7)
 have hv:=(bD.drew E W).trans (bD.alloc GH gU (.cells (news.toArray++Builtin.zeroCells z.cells (grownCap W aZ.length 0 e-aZ.length)) e) k);refine⟨_,.slice (some ⟨W.heap.size,0,none⟩) aZ.length (grownCap W aZ.length 0 e),_,.inl ?_,hv,AT,?_,fun id h=>h.imp (fun h=>h) (fun e=>⟨e,by simp[aS]⟩)⟩
 ·rw[zN]
  simp only[builtin,zU,jW,sM,cF,k8];rw[Sem.run_bind,hr];rfl
 ·have:=RV.own (E:=E.more aG W.drew.heap.size k) (W:=W.drew.alloc (.cells (news.toArray++Builtin.zeroCells z.cells (grownCap W aZ.length 0 e-aZ.length)) e)) aG 0 aZ.length (grownCap W aZ.length 0 e) (.inr rfl) mP
   ⟨_,e,(0,0),by simp only[Env.more,if_true];exact heap_alloc_new W.drew _,by simp only[Env.more,if_true];rw[CP];simp⟩
  simpa[Env.more]using this
theorem aU6{t e:TypeId}{k m6:Nat}{zs:List AV}{x y:Operand}{kl kc:IntKind}{l c:Int}(ht:fC P t=some (e,k))(hz:fQ P e=some zs)(ED:zs.length=k)(oW:p5 P e=some m6)
  (hx:g x=some (.c (.int kl l))) (hy:g y=some (.c (.int kc c))) (h0:0<=l) (eA:l<=c) (JI:c<=9223372036854775807) (AH:(m6:Int)*c<=281474976710656):
  eJ P g G aG ⟨dst,.makeSlice t x y,ty,pos,after,guard⟩ (.own aG 0 l.toNat) (aS G [(aG,some (.cells e k (List.replicate l.toNat zs) true true))]):=fun E W ρ hG gU aW=>by
 have gR:=aW x _ hx;have mG:=aW y _ hy;generalize cF:ρ x=vx at gR;generalize k8:ρ y=vy at mG;cases gR;cases mG;obtain⟨hu,hk⟩:=vJ ht;obtain⟨i,z,hi,tX,B9⟩:=JE hz;have fE:=XE hi hk;have CO:i.bytes=m6:=by simp[p5,hi]at oW;exact oW
 have h8:z.cells.size=k:=by have:=(B9 E W).1;simp at this;omega
 have hr:=run_make (P:=P) W t e i z hu hi tX kl kc l c h0 eA (by rw[CO];exact AH) JI
 rw[fE]at hr;have hmul:l.toNat*k<=c.toNat*k:=mU k (by omega)
 have bH:∀(i:Nat) row,(List.replicate l.toNat zs)[i]? =some row->i<l.toNat/\row=zs:=fun i row hr=>by
  rw[KU]at hr;split at hr
  ·rename_i h;injection hr with hr;exact⟨h,hr.symm⟩
  ·cases hr
 have AT:=hG.alloc gU e (madeCells z.cells (c.toNat*k)) k (List.replicate l.toNat zs) true true (fun i row hr=>by rw[(bH i row hr).2];exact ED) (by rw[size_madeCells];simpa using hmul) (fun i j row x h5 h6=>by
  obtain⟨h9,rfl⟩:=bH i row h5;obtain⟨v,h7,cO⟩:=(B9 E W).get h6;have hj:j<k:=by rw[<-ED];exact(dS.1 h6).1
  have bG:=yC h9 hj;refine⟨v,?_,cO⟩;have Ev:(i*k+j) % k=j:=by rw[Z7,Nat.mul_add_mod];exact D3 hj
  have M5:j<z.cells.size:=by omega
  have hv:z.cells[j]? =some v:=by simpa using h7
  have tY:i*k+j<c.toNat*k:=by omega
  unfold madeCells
  rw[Z8,Array.getElem?_range,if_pos tY,pP,h8,Ev,getElem!_def,hv])
 refine⟨_,.slice (some ⟨W.heap.size,0,none⟩) l.toNat c.toNat,_,.inl ?_,bD.alloc hG gU (.cells (madeCells z.cells (c.toNat*k)) e) k,AT,?_,fun id h=>h.imp (fun h=>h) (fun e=>⟨e,by simp[aS]⟩)⟩
 ·simp only[execOp,cF,k8]
  rw[Sem.run_bind,hr];rfl
 ·have:=RV.own (E:=E.more aG W.heap.size k) (W:=W.alloc (.cells (madeCells z.cells (c.toNat*k)) e)) aG 0 l.toNat c.toNat (.inr rfl) (by omega)
   ⟨_,e,(0,0),by simp only[Env.more,if_true];exact heap_alloc_new W _,by simp only[Env.more,if_true];rw[size_madeCells];simp⟩
  simpa[Env.more]using this
theorem aU7{x:Operand}{id i o:Nat}(hx:g x=some (.ptr id i o)):eJ P g G aG ⟨dst,.nilCheck x,ty,pos,after,guard⟩ (.ptr id i o) G:=
 .still fun E W ρ hG aW=>by
   have gR:=aW x _ hx;generalize cF:ρ x=vx at gR;refine⟨vx,?_,gR⟩;cases gR;simp[execOp,cF]
theorem aU8{x:Operand}{rows:List (List AV)}{i o:Nat}(hx:g x=some (.dJ rows i o)):eJ P g G aG ⟨dst,.nilCheck x,ty,pos,after,guard⟩ (.dJ rows i o) G:=
 .still fun E W ρ hG aW=>by
   have gR:=aW x _ hx;generalize cF:ρ x=vx at gR;refine⟨vx,?_,gR⟩;cases gR;simp[execOp,cF]
end
def dO(g:Operand->Option AV):List Operand->Option (List AV)
 |[]=>some []
 |x::r=>match g x,dO g r with
  |some a,some l=>some (a::l)
  |_,_=>none
theorem tZ{E:Env}{W:World}{g:Operand->Option AV}{ρ:Operand->Value}(aW:∀x b,g x=some b->RV E W b (ρ x)):∀(xs:List Operand) (as:List AV),dO g xs=some as->bP E W as (xs.map ρ)
 |[],as,h=>by simp only[dO,bB]at h;subst h;exact .nil
 |x::r,as,h=>by
  simp only[dO]at h;split at h
  ·rename_i a l ha hl
   injection h with h
   subst h;exact .cons (aW x a ha) (tZ aW r l hl)
  ·cases h
theorem aU9{P:Program}{g:Operand->Option AV}{G:Nat->Option aI}{aG:Nat}{dst:Option Tmp}{ty:TypeId}{pos:String}{after:Array Edge}{guard:Option (Nat×Bool)}{fn:Fn}{first captured:Array Operand}{fs cs:List AV}
  (hf:dO g first.toList=some fs) (hc:dO g captured.toList=some cs):eJ P g G aG ⟨dst,.makeFunc fn first captured,ty,pos,after,guard⟩ (.fn fn fs cs) G:=
 .still fun E W ρ hG aW=>by
   have h1:=tZ aW _ _ hf;have h2:=tZ aW _ _ hc;exact⟨.func fn (first.map ρ) (captured.map ρ),by simp[execOp,Instr.makeFunc],.fn fn fs cs _ _ (by simpa using h1.1) (by simpa using h2.1) (fun i x v hx hv=>h1.2 i x v hx (by simpa using hv)) (fun i x v hx hv=>h2.2 i x v hx (by simpa using hv))⟩
abbrev jG:=AV×List (Nat×Option aI)×List Nat
section
variable (P : Program) (g : Operand -> Option AV) (G : Nat -> Option aI) (aG : Nat)
def Ew(b p q:Option AV):Option jG:=
 match b with
 |some (.c (.bool b))=>match p,q with
  |some (.c (.bool p)),some (.c (.bool q))=>some (.c (.bool (cond b p q)),[],[])
  |_,_=>match b with
   |true=>p.map fun a=>(a,[],[])
   |false=>q.map fun a=>(a,[],[])
 |_=>none
def UY:Value->Bool
 | .slice none n c=>n==0&&c==0
 |_=>false
def Ex(op:BinOp)(t:TypeId)(x:AV)(b:Value):Option jG:=
 match UY b with
 |true=>match fC P t,S8 x with
  |some _,some r=>(CR op r).map fun v=>(.c v,[],[])
  |_,_=>none
 |false=>match x with
  | .c a=>(JD P op t a b).map fun v=>(.c v,[],[])
  |_=>none
def Ey(op:BinOp)(t:TypeId):Option AV->Option AV->Option jG
 |some x,some (.c b)=>Ex P op t x b
 |some (.agg xs),some (.agg ys)=>match xF P t (.agg xs) (.agg ys)with
  |some r=>(CR op r).map fun v=>(.c v,[],[])
  |none=>none
 |_,_=>none
def Ez:UnOp->Option AV->Option jG
 | .not,some (.c (.bool b))=>some (.c (.bool (!b)),[],[])
 | .neg,some (.c (.int k n))=>some (.c (.int k (k.wrap (0-n))),[],[])
 | .xor,some (.c (.int k n))=>some (.c (.int k (bits .xor k (if k.signed then-1 else k.max) n)),[],[])
 |_,_=>none
def Fa(src t:TypeId):Option AV->Option jG
 |some (.c (.int _ n))=>match vS P src,vS P t with
  |some _,some kd=>some (.c (.int kd (kd.wrap n)),[],[])
  |_,_=>none
 |_=>none
def Bv:List AV->Option Int
 |[.c (.int .u8 n)]=>some n
 |_=>none
def FR:List (List AV)->Option (List Int)
 |[]=>some []
 |r::rs=>match Bv r,FR rs with
  |some n,some l=>some (n::l)
  |_,_=>none
def IA(l:List Int):ByteArray:=l.foldl (fun r n=>r.push (UInt8.ofNat n.toNat)) ByteArray.empty
def XO(src t:TypeId)(a:Option AV):Option jG:=
 match mW P t isString with
 |true=>match fC P src,a.bind (rowsOf G)with
  |some (e,1),some (rows,rd)=>match vS P e,FR rows with
   |some .u8,some l=>some (.c (.string (IA l)),[],rd)
   |_,_=>none
  |_,_=>none
 |false=>none
def MT(src t:TypeId):Option AV->Option jG
 |some (.c (.int k n))=>Fa P src t (some (.c (.int k n)))
 |a=>XO P G src t a
def Fb(t:TypeId):Option AV->Option jG
 |some (.snap rows)=>match qC P t with
  |some (n,_,k)=>if k=1/\0<n/\n<=rows.length/\rows.all (fun r=>r.length==1)=true then some (.dJ [(rows.take n).flatten] 0 0,[],[])else none
  |none=>none
 |_=>none
def Fc(t:TypeId):Option AV->Option jG
 |some (.c (.slice _ _ c))=>match fC P t with
  |some _=>some (.c (.int .i64 c),[],[])
  |none=>none
 |_=>none
def Fe(t t':TypeId):Option AV->Option AV->Option jG
 |some (.c (.slice none 0 0)),some (.c (.int _ n))=>match fC P t,vS P t' with
  |some (e,k),some _=>match fQ P e,p5 P e with
   |some zs,some m6=>if zs.length=k/\0<k/\0<n/\n<=9223372036854775807/\n*m6<=281474976710656 then some (.own aG 0 n.toNat,[(aG,some (.cells e k (List.replicate n.toNat zs) true true))],[])else none
   |_,_=>none
  |_,_=>none
 |_,_=>none
def Ff(i:Nat):Option AV->Option jG
 |some (.aR xs)=>(xs[i]?).map fun a=>(a,[],[])
 |_=>none
def Fg(t:TypeId)(f:Nat):Option AV->Option jG
 |some (.agg xs)=>match dE P t f with
  |some (off,_,ft)=>(qY P ft xs off).map fun a=>(a,[],[])
  |none=>none
 |_=>none
def Fh(t:TypeId)(f:Nat):Option AV->Option jG
 |some (.ptr id i o)=>match dE P t f with
  |some (off,k,_)=>if k≠0 then some (.ptr id i (o+off),[],[])else none
  |none=>none
 |some (.dJ rows i o)=>match dE P t f with
  |some (off,k,_)=>if k≠0 then some (.dJ rows i (o+off),[],[])else none
  |none=>none
 |_=>none
def MU(t:TypeId):Option AV->Option jG
 |some p=>match deref G p with
  |some (row,o,rd)=>(qY P t row o).map fun a=>(a,[],rd)
  |none=>none
 |none=>none
def MV(t:TypeId):Option AV->Option AV->Option jG
 |some (.ptr id i o),some a=>match G id with
  |some (.cells e s rows true ap)=>match rows[i]?,dU P t with
   |some row,some k=>if a.cells.length=k/\o+k<=row.length/\a.cells.all AV.one=true then some (.c undef,[(id,some (.cells e s (rows.set i (tW row o a.cells)) true ap))],[id])else none
   |_,_=>none
  |_=>none
 |_,_=>none
def MW(t:TypeId):Option AV->Option AV->Option jG
 |some (.own id off len),some (.c (.int _ i))=>match fC P t,G id with
  |some (_,k),some (.cells _ k' _ _ _)=>if k=k'/\0<=i/\i<len then some (.ptr id (off+i.toNat) 0,[],[id])else none
  |_,_=>none
 |some (.snap rows),some (.c (.int _ i))=>match fC P t,rows[i.toNat]? with
  |some (_,k),some row=>if 0<=i/\row.length=k then some (.dJ rows i.toNat 0,[],[])else none
  |_,_=>none
 |some (.ptr id r o),some (.c (.int _ i))=>match qC P t with
  |some (n,_,k)=>if 0<=i/\i<n then some (.ptr id r (o+i.toNat*k),[],[])else none
  |none=>none
 |some (.dJ rows r o),some (.c (.int _ i))=>match qC P t with
  |some (n,_,k)=>if 0<=i/\i<n then some (.dJ rows r (o+i.toNat*k),[],[])else none
  |none=>none
 |_,_=>none
def Fi(t:TypeId):Option AV->Option AV->Option jG
 |some (.agg xs),some (.c (.int _ i))=>match qC P t with
  |some (n,e,k)=>if 0<=i/\i<n then(qY P e xs (i.toNat*k)).map fun a=>(a,[],[])else none
  |none=>none
 |some (.c (.string s)),some (.c (.int _ i))=>if mW P t isString=true/\0<=i then(s[i.toNat]?).map fun b=>(.c (.int .u8 b.toNat),[],[])else none
 |_,_=>none
def MX(t:TypeId)(l h:Nat->Option Int):Option AV->Option jG
 |some (.c (.slice none 0 0))=>match fC P t,l 0,h 0 with
  |some _,some 0,some 0=>some (.c (.slice none 0 0),[],[])
  |_,_,_=>none
 |some (.snap rows)=>match fC P t,l rows.length,h rows.length with
  |some (_,k),some l,some h=>if 0<=l/\l<=h/\h<=rows.length/\rows.all (fun r=>r.length==k)=true then some (.snap ((rows.drop l.toNat).take (h-l).toNat),[],[])else none
  |_,_,_=>none
 |some (.own id off len)=>match fC P t,G id,l len,h len with
  |some (_,k),some (.cells _ k' _ _ _),some l,some h=>if k=k'/\0<=l/\l<=h/\h<=len then some (.own id (off+l.toNat) (h-l).toNat,[],[id])else none
  |_,_,_,_=>none
 |some (.ptr id i o)=>match qC P t,G id with
  |some (n,_,1),some (.cells _ _ rows _ _)=>match rows[i]?,l n,h n with
   |some row,some l,some h=>if o+n<=row.length/\0<=l/\l<=h/\h<=n/\l<n then some (.sub id i (o+l.toNat) (h-l).toNat,[],[id])else none
   |_,_,_=>none
  |_,_=>none
 |some (.dJ rows i o)=>match qC P t,rows[i]? with
  |some (n,_,1),some row=>match l n,h n with
   |some l,some h=>if o+n<=row.length/\0<=l/\l<=h/\h<=n/\l<n then some (.snap (((row.drop (o+l.toNat)).take (h-l).toNat).map fun x=> [x]),[],[])else none
   |_,_=>none
  |_,_=>none
 |_=>none
def MY(t:TypeId)(l h m:Nat->Option Int):Option AV->Option jG
 |some (.snap rows)=>match fC P t,l rows.length,h rows.length,m rows.length with
  |some (_,k),some l,some h,some m=>if 0<=l/\l<=h/\h<=m/\m<=rows.length/\rows.all (fun r=>r.length==k)=true then some (.snap ((rows.drop l.toNat).take (h-l).toNat),[],[])else none
  |_,_,_,_=>none
 |some (.own id off len)=>match fC P t,G id,l len,h len,m len with
  |some (_,k),some (.cells _ k' _ _ _),some l,some h,some m=>if k=k'/\0<=l/\l<=h/\h<=m/\m<=len then some (.own id (off+l.toNat) (h-l).toNat,[],[id])else none
  |_,_,_,_,_=>none
 |_=>none
def MZ(t:TypeId)(ok:Bool):Option AV->Option AV->Option jG
 |some (.omap id),some xa=>match BB xa,G id,yQ P t with
  |some kv,some (.map es),some (_,e,d)=>match BX P e with
   |some z=>if s9 d kv=true/\yY d es=true then some (if ok=true then .aR [(s8 kv es).getD z,.c (.bool (s8 kv es).isSome)]else(s8 kv es).getD z,[],[id])else none
   |none=>none
  |_,_,_=>none
 |_,_=>none
def N1(t:TypeId):Option AV->Option AV->Option AV->Option jG
 |some (.omap id),some xa,some a=>match BB xa,G id,yQ P t with
  |some kv,some (.map es),some (_,_,d)=>if s9 d kv=true/\yY d es=true then some (.c undef,[(id,some (.map (tN kv a es)))],[id])else none
  |_,_,_=>none
 |_,_,_=>none
def N2(t:TypeId):Option AV->Option jG
 |some (.omap id)=>match G id,yQ P t with
  |some (.map es),some _=>some (.ptr aG 0 0,[(aG,some (.iter id es.length []))],[id])
  |_,_=>none
 |_=>none
def SA(k:Value):Bool:=match k with
 | .agg cs=>s9 (.array cs.toList.length 0) k
 | .bool _=>true
 | .int _ _=>true
 | .string _=>true
 |_=>false
def N3:Option AV->Option jG
 |some (.ptr id 0 0)=>match G id with
  |some (.iter m n seen)=>match seen.getLast?,G m with
   |some i,some (.map es)=>match es[i]? with
    |some (k,a)=>if es.length=n/\SA k=true then some (.aR [S9 k,a],[],[id,m])else none
    |none=>none
   |_,_=>none
  |_=>none
 |_=>none
def N4(t:TypeId):Option AV->Option jG
 |some (.omap id)=>match G id,yQ P t with
  |some (.map es),some _=>some (.c (.int .i64 es.length),[],[id])
  |_,_=>none
 |some (.c (.string s))=>if mW P t isString=true then some (.c (.int .i64 s.size),[],[])else none
 |some a=>match fC P t,S4 a with
  |some _,some n=>some (.c (.int .i64 n),[],[])
  |_,_=>none
 |none=>none
def SB(f:Int->Int->Int):Option AV->Option AV->Option jG
 |some (.c (.int k a)),some (.c (.int _ b))=>some (.c (.int k (f a b)),[],[])
 |_,_=>none
def N5(t:TypeId):Option AV->Option AV->Option jG
 |some (.own id 0 n),some b=>match G id,rowsOf G b,fC P t with
  |some (.cells e k rows w true),some (aZ,rd),some (e',k')=>match fQ P e,p5 P e with
   |some zs,some m6=>if e'=e/\k'=k/\zs.length=k/\n=rows.length/\aZ.all (fun r=>r.length==k&&r.all AV.one)=true/\n+aZ.length<=9223372036854775807/\(n+aZ.length)*m6<=140737488355328
    then some (.own aG 0 (n+aZ.length),[(id,zO e k rows w),(aG,some (.cells e k (rows++aZ) w true))],id::rd)else none
   |_,_=>none
  |_,_,_=>none
 |some (.c (.slice a0 0 0)),some b=>match rowsOf G b,fC P t with
  |some (aZ,rd),some (e,k)=>
   if aZ.isEmpty then some (.c (.slice a0 0 0),[],rd)else
   match fQ P e,p5 P e with
   |some zs,some m6=>if zs.length=k/\aZ.all (fun r=>r.length==k&&r.all AV.one)=true/\aZ.length<=9223372036854775807/\aZ.length*m6<=140737488355328
    then some (.own aG 0 aZ.length,[(aG,some (.cells e k aZ true true))],rd)else none
   |_,_=>none
  |_,_=>none
 |_,_=>none
def N6(t:TypeId):Option AV->Option AV->Option jG
 |some (.own id off len),some b=>match G id,rowsOf G b,fC P t with
  |some (.cells e k rows true ap),some (aZ,rd),some (e',k')=>if e'=e/\k'=k/\off+len<=rows.length/\aZ.all (fun r=>r.length==k&&r.all AV.one)=true
   then some (.c (.int .i64 (Nat.min aZ.length len)),[(id,some (.cells e k (rows.take off++aZ.take (Nat.min aZ.length len)++rows.drop (off+Nat.min aZ.length len)) true ap))],id::rd)else none
  |_,_,_=>none
 |some (.sub id i o len),some b=>match G id,rowsOf G b,fC P t with
  |some (.cells e s rows true ap),some (aZ,rd),some (_,1)=>match rows[i]? with
   |some row=>if o+len<=row.length/\aZ.all (fun r=>r.length==1&&r.all AV.one)=true
    then some (.c (.int .i64 (Nat.min aZ.length len)),[(id,some (.cells e s (rows.set i (tW row o (aZ.take (Nat.min aZ.length len)).flatten)) true ap))],id::rd)else none
   |none=>none
  |_,_,_=>none
 |_,_=>none
def Fj(t:TypeId):Option AV->Option AV->Option jG
 |some (.c (.int _ l)),some (.c (.int _ c))=>match fC P t with
  |some (e,k)=>match fQ P e,p5 P e with
   |some zs,some m6=>if zs.length=k/\0<=l/\l<=c/\c<=9223372036854775807/\(m6:Int)*c<=281474976710656
    then some (.own aG 0 l.toNat,[(aG,some (.cells e k (List.replicate l.toNat zs) true true))],[])else none
   |_,_=>none
  |none=>none
 |_,_=>none
def XP(b:Builtin)(as:List (Option AV))(ts:List TypeId):Option jG:=
 match b,as,ts with
 | .len,[a],[t]=>N4 P G t a
 | .max,[a,b],_=>SB (fun a b=>if b>a then b else a) a b
 | .min,[a,b],_=>SB (fun a b=>if b<a then b else a) a b
 | .append,[a,b],[t,t']=>if t=t' then N5 P G aG t a b else Fe P aG t t' a b
 | .cap,[a],[t]=>Fc P t a
 | .copy,[a,b],[t,_]=>N6 P G t a b
 |_,_,_=>none
def Fk(t:TypeId)(x:Option AV):Option jG:=
 match mW P t x9,x.bind BB with
 |true,some v=>some (.c (.iface t v),[],[])
 |_,_=>none
def SC(t:TypeId)(ok:Bool):Option jG:=
 match ok,BX P t with
 |true,some z=>some (.aR [z,.c (.bool false)],[],[])
 |_,_=>none
def Fl(t:TypeId)(ok:Bool):Option AV->Option jG
 |some (.c (.iface t' v))=>match mW P t x9 with
  |true=>if t'=t then(zL v).map fun a=>(cond ok (.aR [a,.c (.bool true)]) a,[],[])else SC P t ok
  |false=>none
 |some (.c .nilIface)=>match mW P t x9 with
  |true=>SC P t ok
  |false=>none
 |_=>none
def res(o:Oper):Option jG:=
 match o.op with
 | .move x=>(g x).map fun a=>(a,[],[])
 | .assign x=>(g x).map fun a=>(a,[],[])
 | .pick c x y=>Ew (g c) (g x) (g y)
 | .binOp op t x y _=>Ey P op t (g x) (g y)
 | .unOp op _ x=>Ez op (g x)
 | .convert src t x=>MT P G src t (g x)
 | .sliceToArrayPointer t x=>Fb P t (g x)
 | .extract x i=>Ff i (g x)
 | .field t x f=>Fg P t f (g x)
 | .fieldAddr t x f=>Fh P t f (g x)
 | .load t x=>MU P G t (g x)
 | .store t x y=>MV P G t (g x) (g y)
 | .indexAddr t x y=>MW P G t (g x) (g y)
 | .index t x y=>Fi P t (g x) (g y)
 | .slice t x lo (some hi) (some mx)=>MY P G t (fun _=>hO g 0 lo) (fun n=>hO g n (some hi)) (fun n=>hO g n (some mx)) (g x)
 | .slice t x lo hi none=>MX P G t (fun _=>hO g 0 lo) (fun n=>hO g n hi) (g x)
 | .alloc t=>(fQ P t).map fun zs=>(.ptr aG 0 0,[(aG,some (.cells t zs.length [zs] true false))],[])
 | .box t x=>(g x).map fun a=>(.ptr aG 0 0,[(aG,some (.cells t a.cells.length [a.cells] true false))],[])
 | .build t ps=>match fQ P t,mL P t,zM g ps.toList with
   |some zs,true,some as=>(EC (eK P t) zs as).map fun ys=>(.agg ys,[],[])
   |_,_,_=>none
 | .buildSlice t len ps=>match fC P t,zM g ps.toList with
   |some (e,k),some as=>match fQ P e with
    |some zs=>if zs.length=k/\len*k<=16777216 then(EC (fun i=>some (i*k,k)) (List.replicate len zs).flatten as).map fun ys=>(.own aG 0 len,[(aG,some (.cells e k (chunk k len ys) true true))],[])else none
    |none=>none
   |_,_=>none
 | .makeSlice t l c=>Fj P aG t (g l) (g c)
 | .makeMap _ none=>some (.omap aG,[(aG,some (.map []))],[])
 | .range t x=>N2 P G aG t (g x)
 | .entry x=>N3 G (g x)
 | .lookup t m x ok=>MZ P G t ok (g m) (g x)
 | .mapUpdate t m x y=>N1 P G t (g m) (g x) (g y)
 | .makeFunc fn first captured=>match dO g first.toList,dO g captured.toList with
   |some fs,some cs=>some (.fn fn fs cs,[],[])
   |_,_=>none
 | .makeInterface t x=>Fk P t (g x)
 | .typeAssert x _ t ok=>Fl P t ok (g x)
 | .nilCheck x=>match g x with
   |some (.ptr id i o)=>some (.ptr id i o,[],[])
   |some (.dJ rows i o)=>some (.dJ rows i o,[],[])
   |_=>none
 | .call ⟨.builtin b,as,ts⟩=>XP P G aG b (as.toList.map g) ts.toList
 |_=>none
end
end Go.AL
namespace Go.AL
open Go.RowKit
theorem RC.aV0{E:Env}{W:World}{G:Nat->Option aI}(hG:RC E W G){id:Nat}{elem:TypeId}{s:Nat}{rows:List (List AV)}{a:Bool}(hg:G id=some (.cells elem s rows true a))
  {cur dQ:Array Value} {dZ:List (List AV)} (bU:W.heap[E.ι id]? =some (.cells cur elem (0,0))) (nH:dQ.size=cur.size) (hl:dZ.length=rows.length) (hr:∀(i:Nat) row,dZ[i]? =some row->row.length=s)
  (hc:∀(i j:Nat) row x,dZ[i]? =some row->row[j]? =some x->∃v,dQ[i*s+j]? =some v/\RV E W x v):
  bD E W E (W.setRow (E.ι id) dQ)/\RC E (W.setRow (E.ι id) dQ) (aS G [(id,some (.cells elem s dZ true a))]):=by
 obtain⟨hU,dX,hlen,⟨B7,k9,rG,fH⟩,hw,ha⟩:=hG.ok id _ hg;obtain⟨hL,hd⟩:=hw rfl;rw[bU]at k9;cases k9;have hv:=bD.setRow hG hU bU nH (fun k hk=>by omega)
 refine⟨hv,⟨fun b hb=>hG.lim b (by simpa using hb),fun aK h=>by simpa using hG.eX aK h,fun aK b h=> ?_⟩⟩
 by_cases aC:aK=id
 ·subst aC
  simp only[aS,if_true,bB]at h;subst h;refine⟨hU,dX,hr,⟨dQ,setRow_heap W _ cur dQ elem (0,0) bU,by rw[hl,nH];exact rG,fun i' j fG x h1 h2=> ?_⟩,fun _=>⟨hL,fun cX cY aM dA=> ?_⟩,fun JA=> ?_⟩
  ·obtain⟨v,h5,h6⟩:=hc i' j fG x h1 h2
   exact⟨v,h5,h6.mono hv⟩
  ·simp only[aS,aM,if_false]at dA
   exact hd cX cY aM dA
  ·obtain⟨h8,h9⟩:=ha JA
   refine⟨by rw[hL];omega,fun cX cY aM dA he=> ?_⟩
   simp only[aS,aM,if_false]at dA;exact absurd he (hd cX cY aM dA)
 ·simp only[aS,aC,if_false]at h
  obtain⟨h2,h3⟩:=hG.ok aK b h;have dY:E.ι aK≠E.ι id:=hd aK b aC h;refine⟨h2,h3.mono hv h2 (setRow_other W _ _ dQ dY) rfl fun cX cY aM dA he=> ?_⟩
  by_cases GD:cX=id
  ·subst GD;exact absurd he.symm dY
  ·simp only[aS,GD,if_false]at dA
   exact⟨cY,dA,he,rfl,fun h=>h⟩
theorem Tn{G:Nat->Option aI}{id:Nat}{b:Option aI}(h:G id=b):aS G [(id,b)]=G:=by
 funext k
 simp only[aS];split
 ·rename_i hk;subst hk;exact h.symm
 ·rfl
section
variable {P : Program} {g : Operand -> Option AV} {G : Nat -> Option aI} {aG : Nat} {dst : Option Tmp} {ty : TypeId} {pos : String} {after : Array Edge} {guard : Option (Nat × Bool)}
theorem To{ρ:Operand->Value}{E:Env}{W:World}(aW:∀x b,g x=some b->RV E W b (ρ x)){t e:TypeId}{n k:Nat}(hu:P.underlying t=some (.array n e))(hk:(P.info? e).map (·.size)=some k)(a:Addr){lo hi:Option Operand}{l h:Int}
  (hl:hO g 0 lo=some l) (hh:hO g n hi=some h) (h0:0<=l) (h1:l<=h) (h2:h<=n) (h3:l<n):
  (Instr.sliceAt t (.pointer (some a)) (lo.map ρ) (hi.map ρ) none).run P W= .ok (.slice (some (a.add (l.toNat*k))) (h-l).toNat (n-l.toNat)) W:=by
 have aM:¬n=l.toNat:=by omega
 have e1:h.toNat-l.toNat=(h-l).toNat:=by omega
 rcases JF aW hl with⟨rfl,rfl⟩|⟨kl,xT⟩<;>rcases JF aW hh with⟨rfl,rfl⟩|⟨kh,EE⟩
 ·have:¬n=0:=by omega
  simp[Instr.sliceAt,run_underlying hu,Instr.sliceBounds,run_sizeOf hk,Instr.sureAddr,this]
 ·have:¬n=0:=by omega
  simp[Instr.sliceAt,run_underlying hu,Instr.sliceBounds,run_sizeOf hk,Instr.sureAddr,EE,Instr.sliceBound,asIntOf,h1,h2,this]
 ·simp[Instr.sliceAt,run_underlying hu,Instr.sliceBounds,run_sizeOf hk,Instr.sureAddr,xT,Instr.sliceBound,asIntOf,h0,h1,aM]
  omega
 ·have h4:0<=h:=by omega
  have h5:l<=max h 0:=by omega
  simp[Instr.sliceAt,run_underlying hu,Instr.sliceBounds,run_sizeOf hk,Instr.sureAddr,xT,EE,Instr.sliceBound,asIntOf,h0,h1,h2,h4,h5,aM];omega
theorem aV1{t e e':TypeId}{n s:Nat}{x:Operand}{id i o:Nat}{rows:List (List AV)}{row:List AV}{w ap:Bool}{lo hi:Option Operand}{l h:Int}(ht:qC P t=some (n,e,1))(hx:g x=some (.ptr id i o))(hg:G id=some (.cells e' s rows w ap))(bH:rows[i]? =some row)(hon:o+n<=row.length)
  (hl:hO g 0 lo=some l) (hh:hO g n hi=some h) (h0:0<=l) (h1:l<=h) (h2:h<=n) (h3:l<n):
  eJ P g G aG ⟨dst,.slice t x lo hi none,ty,pos,after,guard⟩ (.sub id i (o+l.toNat) (h-l).toNat) G:=
 .still fun E W ρ hG aW=>by
   obtain⟨hu,hk⟩:=S3 ht;have h4:=aW x _ hx;generalize cF:ρ x=vx at h4;obtain⟨hU,dX,hlen,⟨cur,bU,rG,_⟩,_,_⟩:=hG.ok id _ hg;have zA:i<rows.length:=(dS.1 bH).1;have hls:=hlen i row bH
   have hmul:i*s+s<=rows.length*s:=by
    have:=mU s (show i+1<=rows.length from zA)
    rw[uB]at this;exact this
   cases h4 with
   |ptr _ _ _ aC=>
    refine⟨_,by simp only[execOp,cF,L2];rw[Sem.run_bind,To aW hu hk _ hl hh h0 h1 h2 h3];rfl,?_⟩
    have:=RV.sub (E:=E) (W:=W) id i (o+l.toNat) (h-l).toNat (n-l.toNat) aC (by omega) ⟨cur,e',(0,0),bU,by rw[dX];omega⟩
    simpa[Addr.add_lit,uE]using this
theorem aV4{t e:TypeId}{n:Nat}{x:Operand}{i o:Nat}{rows:List (List AV)}{row:List AV}{lo hi:Option Operand}{l h:Int}(ht:qC P t=some (n,e,1))(hx:g x=some (.dJ rows i o))(bH:rows[i]? =some row)(hon:o+n<=row.length)
  (hl:hO g 0 lo=some l) (hh:hO g n hi=some h) (h0:0<=l) (h1:l<=h) (h2:h<=n) (h3:l<n):
  eJ P g G aG ⟨dst,.slice t x lo hi none,ty,pos,after,guard⟩ (.snap (((row.drop (o+l.toNat)).take (h-l).toNat).map fun x=> [x])) G:=
 .still fun E W ρ hG aW=>by
   obtain⟨hu,hk⟩:=S3 ht;have h4:=aW x _ hx;generalize cF:ρ x=vx at h4;have zA:i<rows.length:=(dS.1 bH).1;cases h4 with
   |dJ _ _ _ b off s vs hs hL hc hr=>
    have hls:=hs i row bH
    have hmul:i*s+s<=rows.length*s:=by
     have:=mU s (show i+1<=rows.length from zA)
     rw[uB]at this;exact this
    have hlen:(((row.drop (o+l.toNat)).take (h-l).toNat).map fun x=> [x]).length=(h-l).toNat:=by
     rw[mJ,eD,fX];omega
    refine⟨_,by simp only[execOp,cF,L2];rw[Sem.run_bind,To aW hu hk _ hl hh h0 h1 h2 h3];rfl,?_⟩
    have bX:∀(i' j:Nat) (r:List AV) (y:AV),(((row.drop (o+l.toNat)).take (h-l).toNat).map fun x=> [x])[i']? =some r->r[j]? =some y->j=0/\row[o+l.toNat+i']? =some y:=by
     intro i' j r y h5 h6;rw[iA,gF]at h5;split at h5
     ·rw[m9]at h5
      cases h7:row[o+l.toNat+i']? with
      |none=>rw[h7]at h5;cases h5
      |some z=>
       rw[h7]at h5;simp only[pP,bB]at h5;subst h5;cases j with
       |zero=>exact⟨rfl,h6⟩
       |succ j=>simp at h6
     ·cases h5
    have:=RV.snap (E:=E) (W:=W) (((row.drop (o+l.toNat)).take (h-l).toNat).map fun x=> [x]) b (off+(i*s+o)+l.toNat) 1 (h-l).toNat (n-l.toNat) (fun i' _=>vs i (o+l.toNat+i')) hlen.symm (by omega)
     (fun i' r h5=>by
       rw[iA]at h5;cases h7:((row.drop (o+l.toNat)).take (h-l).toNat)[i']? with
       |none=>rw[h7]at h5;cases h5
       |some z=>rw[h7]at h5;simp only[pP,bB]at h5;subst h5;rfl)
     (by rw[hlen];omega)
     (fun i' j r y h5 h6=>by
       obtain⟨rfl,h7⟩:=bX i' j r y h5 h6;have:=hc i (o+l.toNat+i') row y bH h7
       rw[<-this];congr 2;omega)
     (fun i' j r y h5 h6=>by
       obtain⟨rfl,h7⟩:=bX i' j r y h5 h6
       exact hr i (o+l.toNat+i') row y bH h7)
    simpa[Addr.add_lit,uE]using this
theorem Tp{W W':World}{dT sT ty elem:TypeId}{k:Nat}{d:Addr}{dLen dCap sLen sCap:Nat}{a:Addr}{cs:List Value}(hu:P.underlying dT=some (.slice elem))(hk:(P.info? elem).map (·.size)=some k)(hn:cs.length=Nat.min sLen dLen*k)
  (Bo:∀j v,cs[j]? =some v->W.cell? (a.add j)=some v) (eW:(storeCells d cs 0).run P W= .ok () W'):
  (Builtin.copy_ #[dT,sT] ty #[.slice (some d) dLen dCap,.slice (some a) sLen sCap]).run P W= .ok (goInt (Nat.min sLen dLen:Nat)) W':=by
 have hl:=run_loadCells_list (P:=P) W a cs Bo;cases hq:P.info? elem with
 |none=>simp[hq]at hk
 |some i=>
  have hi:i.size=k:=by simpa[hq]using hk
  simp[Builtin.copy_,run_underlying hu,Builtin.lenOf,Builtin.firstCells,sizeOf,typeInfo,hq,hi];rw[<-hn,hl];simp[eW]
theorem Tq{E:Env}{W:World}{aZ:List (List AV)}{k n:Nat}{news:List Value}(hl:news.length=aZ.length*k)(hn:n<=aZ.length)(hc:∀(i j:Nat) row x,aZ[i]? =some row->row[j]? =some x->∃u,news[i*k+j]? =some u/\RV E W x u)(hk:∀(i:Nat) row,aZ[i]? =some row->row.length=k):
  (news.take (n*k)).length=n*k/\∀(i j:Nat) row x,i<n->aZ[i]? =some row->row[j]? =some x->∃u,(news.take (n*k))[i*k+j]? =some u/\RV E W x u:=by
 have h1:n*k<=aZ.length*k:=mU k hn;refine⟨by simp;omega,fun i j row x hi hr hx=> ?_⟩
 obtain⟨u,h2,h3⟩:=hc i j row x hr hx;have hj:j<k:=by rw[<-hk i row hr];exact(dS.1 hx).1
 have:=yC hi hj;exact⟨u,by rw[gF,if_pos this];exact h2,h3⟩
theorem aV5{t t' e:TypeId}{k:Nat}{x y:Operand}{id off len:Nat}{rows aZ:List (List AV)}{ap:Bool}{b:AV}{rd:List Nat}(ht:fC P t=some (e,k))(hx:g x=some (.own id off len))(hg:G id=some (.cells e k rows true ap))(hn:off+len<=rows.length)(hy:g y=some b)(hb:rowsOf G b=some (aZ,rd))
  (h1:aZ.all (fun r=>r.length==k&&r.all AV.one)=true):
  eJ P g G aG ⟨dst,.call ⟨.builtin .copy,#[x,y],#[t,t']⟩,ty,pos,after,guard⟩ (.c (.int .i64 (Nat.min aZ.length len))) (aS G [(id,some (.cells e k (rows.take off++aZ.take (Nat.min aZ.length len)++rows.drop (off+Nat.min aZ.length len)) true ap))]):=fun E W ρ hG gU aW=>by
 have gR:=aW x _ hx;have mG:=aW y _ hy;generalize cF:ρ x=vx at gR;generalize k8:ρ y=vy at mG;obtain⟨hu,hk⟩:=vJ ht;obtain⟨hU,kL,hlen,⟨cur,bU,rG,fH⟩,hw,ha⟩:=hG.ok id _ hg
 have dF:∀(r:Result Value),(Builtin.copy_ #[t,t'] ty #[vx,vy]).run P W=r->(execOp ρ ⟨dst,.call ⟨.builtin .copy,#[x,y],#[t,t']⟩,ty,pos,after,guard⟩).run P W=r.andThen fun v w'=> .ok (.value v) w':=by
  intro r hr;rw[zN];simp only[builtin,zU,jW,sM,cF,k8];rw[Sem.run_bind,hr];rfl
 have kP:∀(i:Nat) row,aZ[i]? =some row->row.length=k:=XF h1;obtain⟨S7,n2,xP,eZ,lG,aV6,_⟩:=MN hG mG hb
 have Tr:Nat.min aZ.length len=0->∀(d:Option Addr) (dc:Nat),(Builtin.copy_ #[t,t'] ty #[.slice d len dc,vy]).run P W= .ok (goInt 0) W:=fun h0 d dc=>by
  subst eZ;subst lG;cases hq:P.info? e with
  |none=>simp[dU,hq]at hk
  |some i=>
   have hl:∀(x:Addr),(loadCells x 0).run P W= .ok #[] W:=fun x=>by simpa using run_loadCells_list (P:=P) W x [] (by simp)
   have EG:aZ.length.min len=0:=h0;cases d<;>cases S7<;>simp[Builtin.copy_,run_underlying hu,Builtin.lenOf,Builtin.firstCells,sizeOf,typeInfo,hq,EG,storeCells,hl]
 by_cases h0:Nat.min aZ.length len=0
 ·rw[h0]
  have CN:aS G [(id,some (.cells e k (rows.take off++aZ.take 0++rows.drop (off+0)) true ap))]=G:=Tn (by rw[hg];simp)
  rw[CN];cases gR with
  |mF _ _ a aC=>exact⟨W,_,E,.inl (by rw[dF _ (Tr h0 a 0)];rfl),bD.refl E W,hG,.c _ rfl,fun _ h=> .inl h⟩
  |own _ _ _ cap aC eA dX=>exact⟨W,_,E,.inl (by rw[dF _ (Tr h0 _ cap)];rfl),bD.refl E W,hG,.c _ rfl,fun _ h=> .inl h⟩
 ·have aM:aZ≠[]:=fun h=>h0 (by subst h;exact Nat.zero_min _)
  have Fm:len≠0:=fun h=>h0 (by subst h;exact Nat.min_zero _)
  have QM:Nat.min aZ.length len<=aZ.length:=Nat.min_le_left _ _;have QO:Nat.min aZ.length len<=len:=Yv _ _;generalize hm:Nat.min aZ.length len=m at*;cases gR with
  |mF _ _ a aC=>exact absurd rfl Fm
  |own _ _ _ cap aC eA dX=>
   obtain⟨bb,pp,Fo,kM,news,rB,wD,mY,CQ⟩:=LX hG mG hb aM h1;obtain⟨j7,qG⟩:=Tq rB QM CQ kP;have hmul:(off+m)*k<=rows.length*k:=mU k (by omega)
   rw[nX]at hmul;generalize yD:news.take (m*k)=cs at j7 qG;have Fp:∀v∈cs,v.oneCell'=true:=fun v hv=>mY v (by rw[<-yD]at hv;exact qB hv)
   have eW:=run_storeCells_at P (E.ι id) (off*k) e cs 0 cur W bU (by omega) Fp
   simp only[BU]at eW;generalize B6:(cur.toList.take (off*k)++cs++cur.toList.drop (off*k+cs.length)).toArray=dQ at eW;have nH:dQ.size=cur.size:=by subst B6;simp;omega
   have hold:∀q,q<cur.size->(q<off*k\/off*k+m*k<=q)->dQ[q]? =cur[q]? :=fun q hq oC=>by
    subst B6;rw[vR];rcases oC with oC|oC
    ·rw[kA,lT (by simp;omega),gF,if_pos oC];simp
    ·rw[lD (by simp;omega),m9];simp;congr 1;omega
   have tD:∀q,q<m*k->dQ[off*k+q]? =cs[q]? :=fun q hq=>by
    subst B6;rw[vR,kA,lD (by simp;omega),lT (by simp;omega)]
    congr 1;simp;omega
   have gH:(rows.take off++aZ.take m++rows.drop (off+m)).length=rows.length:=by simp;omega
   have bH:∀(i:Nat) row,(rows.take off++aZ.take m++rows.drop (off+m))[i]? =some row->(i<rows.length/\((i<off\/off+m<=i)/\rows[i]? =some row))\/(off<=i/\i<off+m/\aZ[i-off]? =some row):=fun i row hr=>by
    by_cases h3:i<off
    ·rw[kA,lT (by simp;omega),gF,if_pos h3]at hr
     exact .inl ⟨by omega,.inl h3,hr⟩
    ·by_cases h4:i<off+m
     ·rw[kA,lD (by simp;omega),lT (by simp;omega),gF]at hr
      have he:i-(rows.take off).length=i-off:=by simp;omega
      rw[he,if_pos (by omega)]at hr
      exact .inr ⟨by omega,h4,hr⟩
     ·rw[lD (by simp;omega),m9]at hr
      have he:off+m+(i-(rows.take off++aZ.take m).length)=i:=by simp;omega
      rw[he]at hr;exact .inl ⟨(dS.1 hr).1,.inr (by omega),hr⟩
   obtain⟨hv,B0⟩:=hG.aV0 hg bU nH gH (fun i row hr=>by
    rcases bH i row hr with⟨_,_,h⟩|⟨_,_,h⟩
    ·exact hlen i row h
    ·exact kP _ row h) (fun i j row x hr nN=>by
    rcases bH i row hr with⟨hi,h3,h⟩|⟨h3,h4,h⟩
    ·obtain⟨v,h5,h6⟩:=fH i j row x h nN
     refine⟨v,?_,h6⟩;rw[<-h5];have hj:j<k:=by rw[<-hlen i row h];exact(dS.1 nN).1
     refine hold _ (jB.1 h5).1 ?_;rcases h3 with h3|h3
     ·exact .inl (yC h3 hj)
     ·right
      have:=mU k h3;rw[nX]at this;omega
    ·obtain⟨v,h5,h6⟩:=qG _ j row x (by omega) h nN
     refine⟨v,?_,h6⟩;rw[<-h5];have hj:j<k:=by rw[<-kP _ row h];exact(dS.1 nN).1
     rw[<-tD _ (yC (by omega) hj)]
     congr 1;have:i*k=off*k+(i-off)*k:=by rw[<-nX];congr 1;omega
     omega)
   subst kM
   have xV:=Tp (P:=P) (W:=W) (W':=W.setRow (E.ι id) dQ) (dT:=t) (sT:=t') (ty:=ty) (d:=⟨E.ι id,off*k,none⟩) (dLen:=len) (dCap:=cap) (sLen:=aZ.length) (sCap:=Fo) (a:=⟨bb,pp,none⟩) (cs:=cs) hu hk (by rw[hm];exact j7)
    (fun j v hj=>by rw[Addr.add_lit];exact wD j v (by rw[<-yD]at hj;rw[gF]at hj;split at hj<;>first|exact hj|cases hj)) eW
   rw[hm]at xV;rw[<-kL]at xV;exact⟨_,_,E,.inl (by rw[dF _ xV];rfl),hv,B0,.c _ rfl,fun _ h=> .inl h⟩
theorem aV7{aZ:List (List AV)}(h:∀(i:Nat) row,aZ[i]? =some row->row.length=1):∃l:List AV,aZ=l.map fun x=> [x]:=by
 induction aZ with
 |nil=>exact⟨[],rfl⟩
 |cons r rs ih=>
  obtain⟨l,hl⟩:=ih fun i row hr=>h (i+1) row (by simpa using hr)
  have h0:=h 0 r rfl
  match r,h0 with
  |[x],_=>exact⟨x::l,by rw[hl];rfl⟩
theorem aV8(l:List AV):(l.map fun x=> [x]).flatten=l:=by
 induction l with
 |nil=>rfl
 |cons x r ih=>simp only[jW,UD,ih];rfl
theorem aV9{t t' e e':TypeId}{s:Nat}{x y:Operand}{id i o len:Nat}{rows aZ:List (List AV)}{row:List AV}{ap:Bool}{b:AV}{rd:List Nat}(ht:fC P t=some (e,1))(hx:g x=some (.sub id i o len))(hg:G id=some (.cells e' s rows true ap))(bH:rows[i]? =some row)(hn:o+len<=row.length)(hy:g y=some b)(hb:rowsOf G b=some (aZ,rd))
  (h1:aZ.all (fun r=>r.length==1&&r.all AV.one)=true):
  eJ P g G aG ⟨dst,.call ⟨.builtin .copy,#[x,y],#[t,t']⟩,ty,pos,after,guard⟩ (.c (.int .i64 (Nat.min aZ.length len))) (aS G [(id,some (.cells e' s (rows.set i (tW row o (aZ.take (Nat.min aZ.length len)).flatten)) true ap))]):=fun E W ρ hG gU aW=>by
 have gR:=aW x _ hx;have mG:=aW y _ hy;generalize cF:ρ x=vx at gR;generalize k8:ρ y=vy at mG;obtain⟨hu,hk⟩:=vJ ht;obtain⟨hU,kL,hlen,⟨cur,bU,rG,fH⟩,hw,ha⟩:=hG.ok id _ hg
 have dF:∀(r:Result Value),(Builtin.copy_ #[t,t'] ty #[vx,vy]).run P W=r->(execOp ρ ⟨dst,.call ⟨.builtin .copy,#[x,y],#[t,t']⟩,ty,pos,after,guard⟩).run P W=r.andThen fun v w'=> .ok (.value v) w':=by
  intro r hr;rw[zN];simp only[builtin,zU,jW,sM,cF,k8];rw[Sem.run_bind,hr];rfl
 have kP:∀(i:Nat) row,aZ[i]? =some row->row.length=1:=XF h1;obtain⟨S7,n2,xP,eZ,lG,aV6,_⟩:=MN hG mG hb;have hi:i<rows.length:=(dS.1 bH).1;have aW0:tW row o []=row:=by unfold tW;simp
 cases gR with
 |sub _ _ _ _ cap aC eA dX=>
  by_cases h0:Nat.min aZ.length len=0
  ·rw[h0]
   have jD:rows.set i row=rows:=by
    apply BS;intro q;by_cases hq:q=i
    ·subst hq;rw[U9 hi];exact bH.symm
    ·rw[Z3 (mV hq)]
   have CN:aS G [(id,some (.cells e' s (rows.set i (tW row o (aZ.take 0).flatten)) true ap))]=G:=Tn (by rw[hg];simp[aW0,jD])
   rw[CN]
   have hz:(Builtin.copy_ #[t,t'] ty #[.slice (some ⟨E.ι id,i*E.sz id+o,none⟩) len cap,vy]).run P W= .ok (goInt 0) W:=by
    subst eZ;subst lG;cases hq:P.info? e with
    |none=>simp[dU,hq]at hk
    |some j=>
     have hl:∀(x:Addr),(loadCells x 0).run P W= .ok #[] W:=fun x=>by simpa using run_loadCells_list (P:=P) W x [] (by simp)
     have EG:aZ.length.min len=0:=h0;cases S7<;>simp[Builtin.copy_,run_underlying hu,Builtin.lenOf,Builtin.firstCells,sizeOf,typeInfo,hq,EG,storeCells,hl]
   exact⟨W,_,E,.inl (by rw[dF _ hz];rfl),bD.refl E W,hG,.c _ rfl,fun _ h=> .inl h⟩
  ·have aM:aZ≠[]:=fun h=>h0 (by subst h;exact Nat.zero_min _)
   have QM:Nat.min aZ.length len<=aZ.length:=Nat.min_le_left _ _;have QO:Nat.min aZ.length len<=len:=Yv _ _;generalize hm:Nat.min aZ.length len=m at*;obtain⟨bb,pp,Fo,kM,news,rB,wD,mY,CQ⟩:=LX hG mG hb aM h1;obtain⟨j7,qG⟩:=Tq rB QM CQ kP;generalize yD:news.take (m*1)=cs at j7 qG;have Fp:∀v∈cs,v.oneCell'=true:=fun v hv=>mY v (by rw[<-yD]at hv;exact qB hv)
   obtain⟨l,hl⟩:=aV7 kP;have lY:(aZ.take m).flatten=l.take m:=by rw[hl,<-Jg,aV8]
   have vH:aZ.length=l.length:=by rw[hl];simp
   rw[lY]
   have hxs:bP E W (l.take m) cs:=⟨by simp;omega,fun q x v hq hv=>by
    rw[gF]at hq;split at hq
    ·rename_i hqm
     obtain⟨u,h3,h4⟩:=qG q 0 [x] x hqm (by rw[hl,iA,hq];rfl) rfl
     have e1:q*1+0=q:=by omega
     rw[e1,hv]at h3;injection h3 with h3;subst h3;exact h4
    ·cases hq⟩
   have kK:o+(l.take m).length<=row.length:=by have:=List.length_take_le m l;omega
   obtain⟨dQ,eW,hv,B0⟩:=hG.write hg bH hxs kK Fp (P:=P);subst kM
   have xV:=Tp (P:=P) (W:=W) (W':=W.setRow (E.ι id) dQ) (dT:=t) (sT:=t') (ty:=ty) (d:=⟨E.ι id,i*s+o,none⟩) (dLen:=len) (dCap:=cap) (sLen:=aZ.length) (sCap:=Fo) (a:=⟨bb,pp,none⟩) (cs:=cs) hu hk (by rw[hm];exact j7)
    (fun j v hj=>by rw[Addr.add_lit];exact wD j v (by rw[<-yD]at hj;rw[gF]at hj;split at hj<;>first|exact hj|cases hj)) eW
   rw[hm]at xV;rw[<-kL]at xV;exact⟨_,_,E,.inl (by rw[dF _ xV];rfl),hv,B0,.c _ rfl,fun _ h=> .inl h⟩
theorem aW3{t e:TypeId}{k:Nat}{x:Operand}{id off len:Nat}{e':TypeId}{rows:List (List AV)}{w ap:Bool}{lo:Option Operand}{hi mx:Operand}{l h m:Int}(ht:fC P t=some (e,k))(hx:g x=some (.own id off len))(hg:G id=some (.cells e' k rows w ap))
  (hl:hO g 0 lo=some l) (hh:hO g len (some hi)=some h) (hm:hO g len (some mx)=some m) (h0:0<=l) (h1:l<=h) (h2:h<=m) (h3:m<=len):
  eJ P g G aG ⟨dst,.slice t x lo (some hi) (some mx),ty,pos,after,guard⟩ (.own id (off+l.toNat) (h-l).toNat) G:=
 .still fun E W ρ hG aW=>by
   have h4:=aW x _ hx;generalize cF:ρ x=vx at h4;have dX:E.sz id=k:=(hG.ok id _ hg).2.1;cases h4 with
   |own _ _ _ cap aC eA hs=>
    refine⟨_,by simp only[execOp,cF,pP];rw[Sem.run_bind,XJ aW ht _ len cap hl hh hm h0 h1 h2 (by omega)];rfl,?_⟩
    by_cases hc:m=l
    ·rw[if_pos hc]
     have e1:(h-l).toNat=0:=by omega
     have e2:(m-l).toNat=0:=by omega
     rw[e1,e2];exact .mF _ _ _ aC
    ·rw[if_neg hc]
     obtain⟨cur,e2,f,h5,h6⟩:=hs;have hmul:(off+l.toNat+(m-l).toNat)*E.sz id<=(off+cap)*E.sz id:=mU _ (by omega)
     have:=RV.own (E:=E) (W:=W) id (off+l.toNat) (h-l).toNat (m-l).toNat aC (by omega) ⟨cur,e2,f,h5,by omega⟩
     rw[dX]at this⊢;simpa[Addr.add_lit,nX]using this
   |mF _ _ a aC=>
    refine⟨_,by simp only[execOp,cF,pP];rw[Sem.run_bind,XJ aW ht _ 0 0 hl (show hO g ((0:Nat):Int) (some hi)=some h from hh) (show hO g ((0:Nat):Int) (some mx)=some m from hm) h0 h1 h2 (by omega)];rfl,?_⟩
    have e1:(h-l).toNat=0:=by omega
    have e2:(m-l).toNat=0:=by omega
    rw[if_pos (by omega),e1,e2]
    exact .mF _ _ _ aC
end
end Go.AL
namespace Go.AL
open Go.RowKit
theorem aW4{P:Program}{op:BinOp}{t:TypeId}{a b v:Value}(h:JD P op t a b=some v):yA v=false:=by
 unfold JD at h;split at h
 ·unfold X9 at h
  split at h
  ·unfold JB at h
   split at h<;>simp only[bB,reduceCtorEq]at h
   subst h;rfl
  ·unfold JB at h
   split at h<;>simp only[bB,reduceCtorEq]at h
   subst h;rfl
  ·split at h
   ·unfold X8 at h
    split at h<;>(try (split at h))<;>simp only[bB,reduceCtorEq]at h<;>(try subst h)<;>simp_all [yA]
   ·cases h
 ·split at h
  ·split at h<;>simp only[bB,reduceCtorEq]at h<;>subst h<;>rfl
  ·cases h
 ·split at h<;>simp only[bB,reduceCtorEq]at h<;>subst h<;>rfl
 ·split at h
  ·exact Se h
  ·cases h
 ·split at h
  ·exact Se h
  ·cases h
 ·cases h
theorem Ts{k:Value}(h:SA k=true):∃d,s9 d k=true:=by
 unfold SA at h;split at h
 ·exact⟨_,h⟩
 ·exact⟨.bool,rfl⟩
 ·rename_i q n;exact⟨.int q,by simp[s9]⟩
 ·exact⟨.string,rfl⟩
 ·cases h
theorem map_some{α β:Type}{x:Option α}{f:α->β}{b:β}(h:x.map f=some b):∃a,x=some a/\f a=b:=by
 cases x with
 |none=>simp at h
 |some a=>exact⟨a,rfl,by simpa using h⟩
section
variable {P : Program} {g : Operand -> Option AV} {G : Nat -> Option aI} {aG : Nat}
theorem aW5{dst:Option Tmp}{ty:TypeId}{pos:String}{after:Array Edge}{guard:Option (Nat×Bool)}{t:TypeId}{x:Operand}{a:AV}{v:Value}(ht:mW P t x9=true)(hx:g x=some a)(hv:BB a=some v):
  eJ P g G aG ⟨dst,.makeInterface t x,ty,pos,after,guard⟩ (.c (.iface t v)) G:=
 .still fun E W ρ hG aW=>by
   have h1:=Et hv (aW x _ hx);obtain⟨d,hu,hd⟩:=JC ht;refine⟨.iface t v,?_,.c _ rfl⟩;cases d<;>simp only[x9,kV]at hd<;>simp[execOp,Instr.makeInterface,run_underlying hu,h1]
theorem Tt{t:TypeId}{ok:Bool}{x:jG}(h:SC P t ok=some x):ok=true/\∃z,BX P t=some z/\x=(.aR [z,.c (.bool false)],[],[]):=by
 unfold SC at h;split at h
 ·rename_i z hz;injection h with h;exact⟨rfl,z,hz,h.symm⟩
 ·cases h
theorem Fq{E:Env}{W:World}{a b:AV}{v u:Value}(h1:RV E W a v)(h2:RV E W b u):RV E W (.aR [a,b]) (.tuple #[v,u]):=
 .aR _ _ rfl fun i x y hx hy=>by
   rcases i with _|_|i
   ·simp at hx hy;subst hx;subst hy;exact h1
   ·simp at hx hy;subst hx;subst hy;exact h2
   ·simp at hx
theorem aW6{dst:Option Tmp}{ty:TypeId}{pos:String}{after:Array Edge}{guard:Option (Nat×Bool)}{t xt:TypeId}{x:Operand}{a:AV}{v:Value}{ok:Bool}(ht:mW P t x9=true)(hx:g x=some (.c (.iface t v)))(hv:zL v=some a):
  eJ P g G aG ⟨dst,.typeAssert x xt t ok,ty,pos,after,guard⟩ (cond ok (.aR [a,.c (.bool true)]) a) G:=
 .still fun E W ρ hG aW=>by
   have h1:=aW x _ hx;generalize cF:ρ x=vx at h1;cases h1;obtain⟨d,hu,hd⟩:=JC ht;refine⟨if ok then .tuple #[v,.bool true]else v,?_,?_⟩
   ·cases d<;>simp only[x9,kV]at hd<;>simp[execOp,Instr.typeAssert,run_underlying hu,cF]
   ·cases ok
    ·exact RV.zL hv
    ·exact Fq (RV.zL hv) (.c _ rfl)
theorem aW7{dst:Option Tmp}{ty:TypeId}{pos:String}{after:Array Edge}{guard:Option (Nat×Bool)}{t xt t':TypeId}{x:Operand}{z:AV}{v:Value}(ht:mW P t x9=true)(hx:g x=some (.c (.iface t' v)))(aM:¬t'=t)(hz:BX P t=some z):
  eJ P g G aG ⟨dst,.typeAssert x xt t true,ty,pos,after,guard⟩ (.aR [z,.c (.bool false)]) G:=
 .still fun E W ρ hG aW=>by
   have h1:=aW x _ hx;generalize cF:ρ x=vx at h1;cases h1;obtain⟨d,hu,hd⟩:=JC ht;obtain⟨u,h2,h3⟩:=Ep hz;refine⟨.tuple #[u,.bool false],?_,Fq (h3 E W) (.c _ rfl)⟩;cases d<;>simp only[x9,kV]at hd<;>simp[execOp,Instr.typeAssert,run_underlying hu,cF,aM,h2]
theorem aW8{dst:Option Tmp}{ty:TypeId}{pos:String}{after:Array Edge}{guard:Option (Nat×Bool)}{t xt:TypeId}{x:Operand}{z:AV}(ht:mW P t x9=true)(hx:g x=some (.c .nilIface))(hz:BX P t=some z):
  eJ P g G aG ⟨dst,.typeAssert x xt t true,ty,pos,after,guard⟩ (.aR [z,.c (.bool false)]) G:=
 .still fun E W ρ hG aW=>by
   have h1:=aW x _ hx;generalize cF:ρ x=vx at h1;cases h1;obtain⟨d,hu,hd⟩:=JC ht;obtain⟨u,h2,h3⟩:=Ep hz;refine⟨.tuple #[u,.bool false],?_,Fq (h3 E W) (.c _ rfl)⟩;cases d<;>simp only[x9,kV]at hd<;>simp[execOp,Instr.typeAssert,run_underlying hu,cF,h2]
theorem Tu:∀{rows:List (List AV)} {l:List Int},FR rows=some l->rows.length=l.length/\∀(j:Nat) n,l[j]? =some n->rows[j]? =some [.c (.int .u8 n)]
 |[],l,h=>by
  simp only[FR,bB]at h;subst h;exact⟨rfl,fun j n h=>by simp at h⟩
 |r::rs,l,h=>by
  simp only[FR]at h;split at h
  ·rename_i n l' h1 h2
   simp only[bB]at h;subst h;have ih:=Tu h2;refine⟨by simp[ih.1],fun j m hj=> ?_⟩
   cases j with
   |zero=>
    simp at hj;subst hj;unfold Bv at h1;split at h1
    ·simp only[bB]at h1;subst h1;rfl
    ·cases h1
   |succ j=>simpa using ih.2 j m (by simpa using hj)
  ·cases h
theorem aW9{dst:Option Tmp}{ty:TypeId}{pos:String}{after:Array Edge}{guard:Option (Nat×Bool)}{src t e:TypeId}{x:Operand}{b:AV}{rows:List (List AV)}{rd:List Nat}{l:List Int}(hs:fC P src=some (e,1))(he:vS P e=some .u8)(hd:mW P t isString=true)(hx:g x=some b)(hb:rowsOf G b=some (rows,rd))(hl:FR rows=some l):
  eJ P g G aG ⟨dst,.convert src t x,ty,pos,after,guard⟩ (.c (.string (IA l))) G:=
 .still fun E W ρ hG aW=>by
   have h1:=aW x _ hx;obtain⟨base,n,cap,hv,hn,oG,hr⟩:=MN hG h1 hb;obtain⟨hu,_⟩:=vJ hs;have hue:=XB he;obtain⟨hlen,bX⟩:=Tu hl;obtain⟨d,hud,hdd⟩:=JC hd
   have aX3:P.underlying t=some .string:=by
    cases d<;>first|exact hud|simp[isString]at hdd
   have aX4:(Conv.bytesToString (.slice base n cap)).run P W= .ok (.string (IA l)) W:=by
    cases base with
    |none=>
     have h0:rows=[]:=by
      cases rows with
      |nil=>rfl
      |cons r rs=>obtain⟨_,_,_,h2,_⟩:=hr (by simp);cases h2
     subst h0;have:l=[]:=fI (by simpa using hlen.symm)
     subst this;rfl
    |some a=>
     refine run_bytesToString W a n cap l ?_
     have hc:∀j v,(l.map (Value.int .u8))[j]? =some v->W.cell? (a.add j)=some v:=fun j v hj=>by
      rw[iA]at hj;obtain⟨m,hm,rfl⟩:=map_some hj;have bH:=bX j m hm;have aM:rows≠[]:=fun h=>by subst h;simp at bH
      obtain⟨b',p,s,h2,h3,h4⟩:=hr aM;injection h2 with h2
      subst h2;have MP:s=1:=(h3 j _ bH).symm;subst MP;obtain⟨u,h5,h6⟩:=h4 j 0 _ _ bH rfl;cases h6;rw[Addr.add_lit];simpa using h5
     have:=run_loadCells_list (P:=P) W a (l.map (Value.int .u8)) hc;rw[mJ,<-hlen,<-hn]at this;exact this
   refine⟨_,?_,.c _ rfl⟩;simp only[execOp,hv];rw[Sem.run_bind,run_convert_bytes_string W src t e base n cap hu hue aX3,aX4];rfl
theorem Tv:∀(rows:List (List AV)) (n j:Nat) (x:AV),(∀r∈rows,r.length=1)->((rows.take n).flatten)[j]? =some x->∃row,rows[j]? =some row/\row[0]? =some x
 |[],n,j,x,_,h=>by simp at h
 |r::rows,0,j,x,h,h2=>by simp at h2
 |r::rows,n+1,j,x,h,h2=>by
  obtain⟨y,rfl⟩:∃y,r=[y]:=List.length_eq_one_iff.1 (h r (by simp))
  cases j with
  |zero=>simp at h2;exact⟨[y],rfl,by simp[h2]⟩
  |succ j=>
   simp only[D5,UD,P8,qS]at h2;obtain⟨row,h3,h4⟩:=Tv rows n j x (fun r hr=>h r (by simp[hr])) h2
   exact⟨row,by simpa using h3,h4⟩
theorem Tw:∀(rows:List (List AV)) (n:Nat),(∀r∈rows,r.length=1)->n<=rows.length->((rows.take n).flatten).length=n
 |[],n,_,h=>by simp at h;subst h;rfl
 |r::rows,0,_,_=>by simp
 |r::rows,n+1,h,h2=>by
  rw[D5,UD,cP,h r (by simp),Tw rows n (fun r hr=>h r (by simp[hr])) (by simpa using h2)]
  omega
theorem aX5{t e:TypeId}{n k:Nat}(ht:qC P t=some (n,e,k))(a:Option Addr)(len cap:Nat)(hl:n<=len)(w:World):(Instr.arrayAt t (.slice a len cap)).run P w= .ok (.pointer a) w:=by
 obtain⟨hu,_⟩:=S3 ht;have:¬len<n:=by omega
 simp[Instr.arrayAt,run_underlying hu,this]
theorem aX6{dst:Option Tmp}{ty:TypeId}{pos:String}{after:Array Edge}{guard:Option (Nat×Bool)}{t e:TypeId}{n:Nat}{x:Operand}{rows:List (List AV)}(ht:qC P t=some (n,e,1))(h0:0<n)(hl:n<=rows.length)(h1:∀r∈rows,r.length=1)(hx:g x=some (.snap rows)):
  eJ P g G aG ⟨dst,.sliceToArrayPointer t x,ty,pos,after,guard⟩ (.dJ [(rows.take n).flatten] 0 0) G:=
 .still fun E W ρ hG aW=>by
   have h2:=aW x _ hx;generalize cF:ρ x=vx at h2;cases h2 with
   |snap _ b off s m cap vs hn oG hs hL hc Ek=>
    subst hn
    have MP:s=1:=by
     cases rows with
     |nil=>simp at hl;omega
     |cons r rs=>rw[<-hs 0 r rfl];exact h1 r (by simp)
    subst MP;refine⟨_,by simp only[execOp,cF];rw[Sem.run_bind,aX5 ht _ _ _ hl];rfl,?_⟩
    have bH:∀(i j:Nat) row x,[(rows.take n).flatten][i]? =some row->row[j]? =some x->i=0/\∃r,rows[j]? =some r/\r[0]? =some x:=fun i j row x hi hj=>by
     cases i with
     |zero=>
      simp at hi;subst hi;exact⟨rfl,Tv rows n j x h1 hj⟩
     |succ i=>simp at hi
    have:=RV.dJ (E:=E) (W:=W) [(rows.take n).flatten] 0 0 b off n (fun _ j=>vs j 0)
     (fun i row hi=>by
       cases i with
       |zero=>simp at hi;subst hi;exact Tw rows n h1 hl
       |succ i=>simp at hi)
     (by simp only[eI,gL];omega)
     (fun i j row x hi hj=>by
       obtain⟨rfl,r,h3,h4⟩:=bH i j row x hi hj;have:=hc j 0 r x h3 h4
       simpa using this)
     (fun i j row x hi hj=>by
       obtain⟨rfl,r,h3,h4⟩:=bH i j row x hi hj
       exact Ek j 0 r x h3 h4)
    simpa using this
   |kY a cap=>simp at hl;omega
theorem aX7{dst:Option Tmp}{ty:TypeId}{pos:String}{after:Array Edge}{guard:Option (Nat×Bool)}{t e:TypeId}{k:Nat}{x:Operand}{lo hi:Option Operand}(ht:fC P t=some (e,k))(hx:g x=some (.c (.slice none 0 0)))(hl:hO g 0 lo=some 0)(hh:hO g ((0:Nat):Int) hi=some 0):
  eJ P g G aG ⟨dst,.slice t x lo hi none,ty,pos,after,guard⟩ (.c (.slice none 0 0)) G:=
 .still fun E W ρ hG aW=>by
   have h3:=aW x _ hx;generalize cF:ρ x=vx at h3;cases h3;exact⟨_,by simp only[execOp,cF,L2];rw[Sem.run_bind,S5 aW ht none 0 0 hl hh (by decide) (by decide) (by decide)];rfl,.c _ rfl⟩
theorem aX8{dst:Option Tmp}{ty:TypeId}{pos:String}{after:Array Edge}{guard:Option (Nat×Bool)}{t e:TypeId}{k n c:Nat}{x:Operand}{a:Option Addr}(ht:fC P t=some (e,k))(hx:g x=some (.c (.slice a n c))):
  eJ P g G aG ⟨dst,.call ⟨.builtin .cap,#[x],#[t]⟩,ty,pos,after,guard⟩ (.c (.int .i64 c)) G:=
 .still fun E W ρ hG aW=>by
   have h2:=aW x _ hx;generalize cF:ρ x=vx at h2;cases h2;obtain⟨hu,_⟩:=vJ ht;refine⟨_,?_,.c _ rfl⟩;rw[zN];simp only[builtin,zU,jW,sM,cF];simp[Builtin.cap_,run_underlying hu,goInt]
theorem aX9{dst:Option Tmp}{ty:TypeId}{pos:String}{after:Array Edge}{guard:Option (Nat×Bool)}{t tn e:TypeId}{k m6:Nat}{kq kn:IntKind}{n:Int}{zs:List AV}{x y:Operand}(ht:fC P t=some (e,k))(QP:vS P tn=some kn)(hz:fQ P e=some zs)(ED:zs.length=k)(vE:0<k)(oW:p5 P e=some m6)
  (hx:g x=some (.c (.slice none 0 0))) (hy:g y=some (.c (.int kq n))) (h0:0<n) (JI:n<=9223372036854775807) (AH:n*m6<=281474976710656):
  eJ P g G aG ⟨dst,.call ⟨.builtin .append,#[x,y],#[t,tn]⟩,ty,pos,after,guard⟩ (.own aG 0 n.toNat) (aS G [(aG,some (.cells e k (List.replicate n.toNat zs) true true))]):=fun E W ρ hG gU aW=>by
 have gR:=aW x _ hx;have mG:=aW y _ hy;generalize cF:ρ x=vx at gR;generalize k8:ρ y=vy at mG;cases gR;cases mG;obtain⟨hu,hk⟩:=vJ ht;obtain⟨i,z,hi,tX,B9⟩:=JE hz;have fE:=XE hi hk;have CO:i.bytes=m6:=by simp[p5,hi]at oW;exact oW
 have h8:z.cells.size=k:=by have:=(B9 E W).1;simp at this;omega
 obtain⟨m,rfl⟩:=sK (by omega:0<=n)
 simp only[nC]
 have h48:m*i.bytes<=281474976710656:=by
  rw[CO]
  have h9:((m*m6:Nat):Int)<=281474976710656:=by
   push_cast
   exact AH
  omega
 have hr:=Lib.run_append_nil_zeros (P:=P) W t tn ty e i z kq kn hu (XB QP) hi tX m (by omega) (by omega) JI h48
 have mP:=grownCap_ge W m 0 e
 have CP:(Builtin.zeroCells z.cells m++Builtin.zeroCells z.cells (grownCap W m 0 e-m)).size=grownCap W m 0 e*k:=by
  simp only[Iz,size_zeroCells,h8,<-nX];congr 1;omega
 have hmul:m*k<=grownCap W m 0 e*k:=mU k mP
 have bH:∀(i:Nat) row,(List.replicate m zs)[i]? =some row->i<m/\row=zs:=fun i row hr=>by
  rw[KU]at hr;split at hr
  ·rename_i h;injection hr with hr;exact⟨h,hr.symm⟩
  ·cases hr
 have GH:=hG.drew
 have AT:=GH.alloc gU e (Builtin.zeroCells z.cells m++Builtin.zeroCells z.cells (grownCap W m 0 e-m)) k (List.replicate m zs) true true (fun i row hr=>by rw[(bH i row hr).2];exact ED) (by rw[CP];simpa using hmul) (fun i j row x h5 h6=>by
  obtain⟨h9,rfl⟩:=bH i row h5;obtain⟨v,h7,cO⟩:=(B9 E W).get h6;have hj:j<k:=by rw[<-ED];exact(dS.1 h6).1
  have bG:=yC h9 hj;refine⟨v,?_,cO.mono (bD.drew E W)⟩;have Ev:(i*k+j) % k=j:=by rw[Z7,Nat.mul_add_mod];exact D3 hj
  have hv:z.cells[j]? =some v:=by simpa using h7
  rw[PH (by rw[size_zeroCells,h8];exact bG)]
  unfold Builtin.zeroCells
  rw[Z8,Array.getElem?_range,if_pos (by rw[h8];exact bG),pP,h8,Ev,getElem!_def,hv])
 have hv:=(bD.drew E W).trans (bD.alloc GH gU (.cells (Builtin.zeroCells z.cells m++Builtin.zeroCells z.cells (grownCap W m 0 e-m)) e) k);refine⟨_,.slice (some ⟨W.heap.size,0,none⟩) m (grownCap W m 0 e),_,.inl ?_,hv,AT,?_,fun id h=>h.imp (fun h=>h) (fun e=>⟨e,by simp[aS]⟩)⟩
 ·rw[zN]
  simp only[builtin,zU,jW,sM,cF,k8];rw[Sem.run_bind,hr];rfl
 ·have:=RV.own (E:=E.more aG W.drew.heap.size k) (W:=W.drew.alloc (.cells (Builtin.zeroCells z.cells m++Builtin.zeroCells z.cells (grownCap W m 0 e-m)) e)) aG 0 m (grownCap W m 0 e) (.inr rfl) mP
   ⟨_,e,(0,0),by simp only[Env.more,if_true];exact heap_alloc_new W.drew _,by simp only[Env.more,if_true];rw[CP];simp⟩
  simpa[Env.more]using this
theorem Tx{o:Oper}{a:AV}{wr:List (Nat×Option aI)}{rd:List Nat}(h:res P g G aG o=some (a,wr,rd)):eJ P g G aG o a (aS G wr):=by
 obtain⟨dst,op,ty,pos,after,guard⟩:=o;unfold res at h;split at h
 ·rename_i x he
  simp only at he;subst he;obtain⟨b,h1,h2⟩:=map_some h;simp only[bY]at h2;obtain⟨rfl,rfl,rfl⟩:=h2;exact aM8 h1
 ·rename_i x he
  simp only at he;subst he;obtain⟨b,h1,h2⟩:=map_some h;simp only[bY]at h2;obtain⟨rfl,rfl,rfl⟩:=h2;exact aM9 h1
 ·rename_i c x y he
  simp only at he;subst he;unfold Ew at h;split at h
  ·rename_i b hb
   split at h
   ·rename_i p q hp hq
    simp only[bB,bY]at h;obtain⟨rfl,rfl,rfl⟩:=h;exact aN0 hb hp hq
   ·split at h
    ·obtain⟨d,h1,h2⟩:=map_some h
     simp only[bY]at h2;obtain⟨rfl,rfl,rfl⟩:=h2;exact XA hb (fun _=>h1) (fun h=>by cases h)
    ·obtain⟨d,h1,h2⟩:=map_some h
     simp only[bY]at h2;obtain⟨rfl,rfl,rfl⟩:=h2;exact XA hb (fun h=>by cases h) (fun _=>h1)
  ·cases h
 ·rename_i op' t x y yt he
  simp only at he;subst he;unfold Ey at h;split at h
  ·rename_i a' b' hx hy
   unfold Ex at h;split at h
   ·rename_i SD
    split at h
    ·rename_i ek r ht hr
     obtain⟨d,h1,h2⟩:=map_some h;simp only[bY]at h2;obtain⟨rfl,rfl,rfl⟩:=h2
     have hb:b'= .slice none 0 0:=by
      unfold UY at SD;split at SD
      ·simp only[jX,beq_iff_eq]at SD
       obtain⟨rfl,rfl⟩:=SD;rfl
      ·cases SD
     subst hb;exact aS8 (e:=ek.1) (k:=ek.2) ht hx hy hr h1
    ·cases h
   ·split at h
    ·obtain⟨d,h1,h2⟩:=map_some h
     simp only[bY]at h2;obtain⟨rfl,rfl,rfl⟩:=h2;exact aN1 hx hy h1 (aW4 h1)
    ·cases h
  ·rename_i xs ys hx hy
   split at h
   ·rename_i r hr
    obtain⟨d,h1,h2⟩:=map_some h;simp only[bY]at h2;obtain⟨rfl,rfl,rfl⟩:=h2;exact aR9 hx hy hr h1
   ·cases h
  ·cases h
 ·rename_i op' t x he
  simp only at he;subst he;unfold Ez at h;split at h
  ·rename_i b hx
   simp only[bB,bY]at h;obtain⟨rfl,rfl,rfl⟩:=h;exact aN2 hx
  ·rename_i k n hx
   simp only[bB,bY]at h;obtain⟨rfl,rfl,rfl⟩:=h;exact aN3 hx
  ·rename_i k n hx
   simp only[bB,bY]at h;obtain⟨rfl,rfl,rfl⟩:=h;exact aN4 hx
  ·cases h
 ·rename_i src t x he
  simp only at he;subst he;unfold MT at h;split at h
  ·rename_i k n hx
   unfold Fa at h;simp only[]at h;split at h
   ·rename_i ks kd h1 h2
    simp only[bB,bY]at h;obtain⟨rfl,rfl,rfl⟩:=h;exact aN5 hx (by rw[h1];rfl) h2
   ·cases h
  ·unfold XO at h
   split at h
   ·rename_i hd
    split at h
    ·rename_i e rows yF hs hb
     split at h
     ·rename_i l he hl
      simp only[bB,bY]at h;obtain⟨rfl,rfl,rfl⟩:=h;cases Fs:g x with
      |none=>rw[Fs]at hb;cases hb
      |some b=>rw[Fs]at hb;exact aW9 hs he hd Fs hb hl
     ·cases h
    ·cases h
   ·cases h
 ·rename_i t x he
  simp only at he;subst he;unfold Fb at h;split at h
  ·rename_i rows hx
   split at h
   ·rename_i n e k ht
    split at h
    ·rename_i hc
     obtain⟨rfl,h1,h2,h3⟩:=hc;simp only[bB,bY]at h;obtain⟨rfl,rfl,rfl⟩:=h;exact aX6 ht h1 h2 (fun r hr=>by simpa using gK.1 h3 r hr) hx
    ·cases h
   ·cases h
  ·cases h
 ·rename_i x i he
  simp only at he;subst he;unfold Ff at h;split at h
  ·rename_i xs hx
   obtain⟨d,h1,h2⟩:=map_some h;simp only[bY]at h2;obtain⟨rfl,rfl,rfl⟩:=h2;exact aN7 hx h1
  ·cases h
 ·rename_i t x f he
  simp only at he;subst he;unfold Fg at h;split at h
  ·rename_i xs hx
   split at h
   ·rename_i off k ft hf
    obtain⟨d,h1,h2⟩:=map_some h;simp only[bY]at h2;obtain⟨rfl,rfl,rfl⟩:=h2;exact aN8 hx hf h1
   ·cases h
  ·cases h
 ·rename_i t x f he
  simp only at he;subst he;unfold Fh at h;split at h
  ·rename_i id i o hx
   split at h
   ·rename_i off k ft hf
    split at h
    ·rename_i hk
     simp only[bB,bY]at h;obtain⟨rfl,rfl,rfl⟩:=h;exact aN9 hx hf hk
    ·cases h
   ·cases h
  ·rename_i rows i o hx
   split at h
   ·rename_i off k ft hf
    split at h
    ·rename_i hk
     simp only[bB,bY]at h;obtain⟨rfl,rfl,rfl⟩:=h;exact aO0 hx hf hk
    ·cases h
   ·cases h
  ·cases h
 ·rename_i t x he
  simp only at he;subst he;unfold MU at h;split at h
  ·rename_i p hx
   split at h
   ·rename_i row o yF hd
    obtain⟨d,h1,h2⟩:=map_some h;simp only[bY]at h2;obtain⟨rfl,rfl,rfl⟩:=h2;exact aO1 hx hd h1
   ·cases h
  ·cases h
 ·rename_i t x y he
  simp only at he;subst he;unfold MV at h;split at h
  ·rename_i id i o a' hx hy
   split at h
   ·rename_i e s rows ap hg
    split at h
    ·rename_i row k hr hk
     split at h
     ·rename_i hc
      simp only[bB,bY]at h;obtain⟨rfl,rfl,rfl⟩:=h;exact aO2 hx hg hr hy hk hc.1 hc.2.1 hc.2.2
     ·cases h
    ·cases h
   ·cases h
  ·cases h
 ·rename_i t x y he
  simp only at he;subst he;unfold MW at h;split at h
  ·rename_i id off len ik i hx hy
   split at h
   ·rename_i e k e' k' rows w ap ht hg
    split at h
    ·rename_i hc
     obtain⟨rfl,h0,h1⟩:=hc;simp only[bB,bY]at h;obtain⟨rfl,rfl,rfl⟩:=h;exact aP3 ht hx hy hg h0 h1
    ·cases h
   ·cases h
  ·rename_i rows ik i hx hy
   split at h
   ·rename_i e k row ht hr
    split at h
    ·rename_i hc
     simp only[bB,bY]at h;obtain⟨rfl,rfl,rfl⟩:=h;exact aP4 ht hx hy hc.1 hr hc.2
    ·cases h
   ·cases h
  ·rename_i id r o ik i hx hy
   split at h
   ·rename_i n e k ht
    split at h
    ·rename_i hc
     simp only[bB,bY]at h;obtain⟨rfl,rfl,rfl⟩:=h;exact aP5 ht hx hy hc.1 hc.2
    ·cases h
   ·cases h
  ·rename_i rows r o ik i hx hy
   split at h
   ·rename_i n e k ht
    split at h
    ·rename_i hc
     simp only[bB,bY]at h;obtain⟨rfl,rfl,rfl⟩:=h;exact aP6 ht hx hy hc.1 hc.2
    ·cases h
   ·cases h
  ·cases h
 ·rename_i t x y he
  simp only at he;subst he;unfold Fi at h;split at h
  ·rename_i xs ik i hx hy
   split at h
   ·rename_i n e k ht
    split at h
    ·rename_i hc
     obtain⟨d,h1,h2⟩:=map_some h;simp only[bY]at h2;obtain⟨rfl,rfl,rfl⟩:=h2;exact aP7 ht hx hy hc.1 hc.2 h1
    ·cases h
   ·cases h
  ·rename_i s ik i hx hy
   split at h
   ·rename_i hc
    obtain⟨d,h1,h2⟩:=map_some h;simp only[bY]at h2;obtain⟨rfl,rfl,rfl⟩:=h2;exact aP8 hc.1 hx hy hc.2 h1
   ·cases h
  ·cases h
 ·rename_i t x lo hi mx he
  simp only at he;subst he;unfold MY at h;split at h
  ·rename_i rows hx
   split at h
   ·rename_i e k l hh m ht hl rJ hm
    split at h
    ·rename_i hc
     simp only[bB,bY]at h;obtain⟨rfl,rfl,rfl⟩:=h;exact aS9 ht hx hl rJ hm hc.1 hc.2.1 hc.2.2.1 hc.2.2.2.1 hc.2.2.2.2
    ·cases h
   ·cases h
  ·rename_i id off len hx
   split at h
   ·rename_i e k e' k' rows w ap l hh m ht hg hl rJ hm
    split at h
    ·rename_i hc
     obtain⟨rfl,hc⟩:=hc;simp only[bB,bY]at h;obtain⟨rfl,rfl,rfl⟩:=h;exact aW3 ht hx hg hl rJ hm hc.1 hc.2.1 hc.2.2.1 hc.2.2.2
    ·cases h
   ·cases h
  ·cases h
 ·rename_i t x lo hi he
  simp only at he;subst he;unfold MX at h;split at h
  ·rename_i hx
   split at h
   ·rename_i q ht hl rJ
    simp only[bB,bY]at h;obtain⟨rfl,rfl,rfl⟩:=h;exact aX7 (e:=q.1) (k:=q.2) ht hx hl rJ
   ·cases h
  ·rename_i rows hx
   split at h
   ·rename_i e k l hh ht hl rJ
    split at h
    ·rename_i hc
     simp only[bB,bY]at h;obtain⟨rfl,rfl,rfl⟩:=h;exact aQ7 ht hx hl rJ hc.1 hc.2.1 hc.2.2.1 hc.2.2.2
    ·cases h
   ·cases h
  ·rename_i id off len hx
   split at h
   ·rename_i e k e' k' rows w ap l hh ht hg hl rJ
    split at h
    ·rename_i hc
     obtain⟨rfl,hc⟩:=hc;simp only[bB,bY]at h;obtain⟨rfl,rfl,rfl⟩:=h;exact aQ8 ht hx hg hl rJ hc.1 hc.2.1 hc.2.2
    ·cases h
   ·cases h
  ·rename_i id i o hx
   split at h
   ·rename_i n e e' k' rows w ap ht hg
    split at h
    ·rename_i row l hh bH hl rJ
     split at h
     ·rename_i hc
      simp only[bB,bY]at h;obtain⟨rfl,rfl,rfl⟩:=h;exact aV1 ht hx hg bH hc.1 hl rJ hc.2.1 hc.2.2.1 hc.2.2.2.1 hc.2.2.2.2
     ·cases h
    ·cases h
   ·cases h
  ·rename_i rows i o hx
   split at h
   ·rename_i n e row ht bH
    split at h
    ·rename_i l hh hl rJ
     split at h
     ·rename_i hc
      simp only[bB,bY]at h;obtain⟨rfl,rfl,rfl⟩:=h;exact aV4 ht hx bH hc.1 hl rJ hc.2.1 hc.2.2.1 hc.2.2.2.1 hc.2.2.2.2
     ·cases h
    ·cases h
   ·cases h
  ·cases h
 ·rename_i t he
  simp only at he;subst he;obtain⟨d,h1,h2⟩:=map_some h;simp only[bY]at h2;obtain⟨rfl,rfl,rfl⟩:=h2;exact aO6 h1
 ·rename_i t x he
  simp only at he;subst he;obtain⟨d,h1,h2⟩:=map_some h;simp only[bY]at h2;obtain⟨rfl,rfl,rfl⟩:=h2;exact aO7 h1
 ·rename_i t ps he
  simp only at he;subst he;split at h
  ·rename_i zs as hz hb hp
   obtain⟨d,h1,h2⟩:=map_some h;simp only[bY]at h2;obtain⟨rfl,rfl,rfl⟩:=h2;exact aO8 hz hb hp h1
  ·cases h
 ·rename_i t len ps he
  simp only at he;subst he;split at h
  ·rename_i e k as ht hp
   split at h
   ·rename_i zs hz
    split at h
    ·rename_i hc
     obtain⟨d,h1,h2⟩:=map_some h;simp only[bY]at h2;obtain⟨rfl,rfl,rfl⟩:=h2;exact aP2 ht hz hc.1 hc.2 hp h1
    ·cases h
   ·cases h
  ·cases h
 ·rename_i t l c he
  simp only at he;subst he;unfold Fj at h;split at h
  ·rename_i kl l' kc c' hx hy
   split at h
   ·rename_i e k ht
    split at h
    ·rename_i zs m6 hz oW
     split at h
     ·rename_i hc
      simp only[bB,bY]at h;obtain⟨rfl,rfl,rfl⟩:=h;exact aU6 ht hz hc.1 oW hx hy hc.2.1 hc.2.2.1 hc.2.2.2.1 hc.2.2.2.2
     ·cases h
    ·cases h
   ·cases h
  ·cases h
 ·rename_i t he
  simp only at he;subst he;simp only[bB,bY]at h;obtain⟨rfl,rfl,rfl⟩:=h;exact aT9
 ·rename_i t x he
  simp only at he;subst he;unfold N2 at h;split at h
  ·rename_i id hm
   split at h
   ·rename_i es p hg ht
    simp only[bB,bY]at h;obtain⟨rfl,rfl,rfl⟩:=h;obtain⟨kt,e,d⟩:=p;exact aU0 ht hm hg
   ·cases h
  ·cases h
 ·rename_i x he
  simp only at he;subst he;unfold N3 at h;split at h
  ·rename_i id hx
   split at h
   ·rename_i m n seen hg
    split at h
    ·rename_i i es hs hm
     split at h
     ·rename_i k a' CS
      split at h
      ·rename_i hc
       simp only[bB,bY]at h;obtain⟨rfl,rfl,rfl⟩:=h;obtain⟨d,hd⟩:=Ts hc.2
       obtain⟨s0,rfl⟩:∃s0,seen=s0++[i]:=by
        rw[List.getLast?_eq_some_iff]at hs;exact hs
       exact aU1 hx hg hm hc.1 CS hd
      ·cases h
     ·cases h
    ·cases h
   ·cases h
  ·cases h
 ·rename_i t m x ok he
  simp only at he;subst he;unfold MZ at h;split at h
  ·rename_i id xa hm hx
   split at h
   ·rename_i kv es kt e d JO hg ht
    split at h
    ·rename_i z hz
     split at h
     ·rename_i hc
      simp only[bB,bY]at h;obtain⟨rfl,rfl,rfl⟩:=h;exact aT4 ht hz hm hg hx JO hc.1 hc.2
     ·cases h
    ·cases h
   ·cases h
  ·cases h
 ·rename_i t m x y he
  simp only at he;subst he;unfold N1 at h;split at h
  ·rename_i id xa a' hm hx hy
   split at h
   ·rename_i kv es kt e d JO hg ht
    split at h
    ·rename_i hc
     simp only[bB,bY]at h;obtain⟨rfl,rfl,rfl⟩:=h;exact aT7 ht hm hg hx JO hy hc.1 hc.2
    ·cases h
   ·cases h
  ·cases h
 ·rename_i fn first captured he
  simp only at he;subst he;split at h
  ·rename_i fs cs hf hc
   simp only[bB,bY]at h;obtain⟨rfl,rfl,rfl⟩:=h;exact aU9 hf hc
  ·cases h
 ·rename_i t x he
  simp only at he;subst he;unfold Fk at h;split at h
  ·rename_i v ht hv
   simp only[bB,bY]at h;obtain⟨rfl,rfl,rfl⟩:=h;cases hx:g x with
   |none=>simp[hx]at hv
   |some a=>exact aW5 ht hx (by simpa[hx]using hv)
  ·cases h
 ·rename_i x xt t ok he
  simp only at he;subst he;unfold Fl at h;split at h
  ·rename_i t' v hx
   split at h
   ·rename_i ht
    split at h
    ·rename_i hte
     subst hte;obtain⟨d,h1,h2⟩:=map_some h;simp only[bY]at h2;obtain⟨rfl,rfl,rfl⟩:=h2;exact aW6 ht hx h1
    ·rename_i aM
     obtain⟨rfl,z,hz,h2⟩:=Tt h;simp only[bY]at h2;obtain⟨rfl,rfl,rfl⟩:=h2;exact aW7 ht hx aM hz
   ·cases h
  ·rename_i hx
   split at h
   ·rename_i ht
    obtain⟨rfl,z,hz,h2⟩:=Tt h;simp only[bY]at h2;obtain⟨rfl,rfl,rfl⟩:=h2;exact aW8 ht hx hz
   ·cases h
  ·cases h
 ·rename_i x he
  simp only at he;subst he;split at h
  ·rename_i id i o hx
   simp only[bB,bY]at h;obtain⟨rfl,rfl,rfl⟩:=h;exact aU7 hx
  ·rename_i rows i o hx
   simp only[bB,bY]at h;obtain⟨rfl,rfl,rfl⟩:=h;exact aU8 hx
  ·cases h
 ·rename_i b as ts he
  simp only at he;subst he;obtain⟨as⟩:=as;obtain⟨ts⟩:=ts;unfold XP at h;split at h
  ·rename_i a' t h1 h2
   simp only at h1 h2
   obtain⟨x,rfl,hx⟩:∃x,as=[x]/\g x=a':=by
    cases as with
    |nil=>simp at h1
    |cons x r=>cases r<;>simp_all
   subst h2;unfold N4 at h;split at h
   ·rename_i id
    split at h
    ·rename_i es q hg ht
     obtain⟨kt,e,d⟩:=q;simp only[bB,bY]at h;obtain⟨rfl,rfl,rfl⟩:=h;exact aT5 ht hx hg
    ·cases h
   ·rename_i s
    split at h
    ·rename_i hc
     simp only[bB,bY]at h;obtain⟨rfl,rfl,rfl⟩:=h;exact aQ4 hc hx
    ·cases h
   ·rename_i b' _
    split at h
    ·rename_i q n ht hn
     obtain⟨e,k⟩:=q;simp only[bB,bY]at h;obtain⟨rfl,rfl,rfl⟩:=h;exact aQ3 ht hx hn
    ·cases h
   ·cases h
  ·rename_i _ a' b' h1
   simp only at h1
   obtain⟨x,y,rfl,hx,hy⟩:∃x y,as=[x,y]/\g x=a'/\g y=b':=by
    cases as with
    |nil=>simp at h1
    |cons x r=>cases r with
     |nil=>simp at h1
     |cons y r=>cases r with
      |nil=>simp at h1;exact⟨x,y,rfl,h1.1,h1.2⟩
      |cons z r=>simp at h1
   unfold SB at h;split at h
   ·simp only[bB,bY]at h
    obtain⟨rfl,rfl,rfl⟩:=h;exact aQ5 hx hy
   ·cases h
  ·rename_i _ a' b' h1
   simp only at h1
   obtain⟨x,y,rfl,hx,hy⟩:∃x y,as=[x,y]/\g x=a'/\g y=b':=by
    cases as with
    |nil=>simp at h1
    |cons x r=>cases r with
     |nil=>simp at h1
     |cons y r=>cases r with
      |nil=>simp at h1;exact⟨x,y,rfl,h1.1,h1.2⟩
      |cons z r=>simp at h1
   unfold SB at h;split at h
   ·simp only[bB,bY]at h
    obtain⟨rfl,rfl,rfl⟩:=h;exact aQ6 hx hy
   ·cases h
  ·rename_i a' b' t t' h1 h2
   simp only at h1 h2
   obtain⟨x,y,rfl,hx,hy⟩:∃x y,as=[x,y]/\g x=a'/\g y=b':=by
    cases as with
    |nil=>simp at h1
    |cons x r=>cases r with
     |nil=>simp at h1
     |cons y r=>cases r with
      |nil=>simp at h1;exact⟨x,y,rfl,h1.1,h1.2⟩
      |cons z r=>simp at h1
   subst h2;split at h
   ·rename_i ht
    subst ht;unfold N5 at h;split at h
    ·rename_i id n b
     split at h
     ·rename_i e k rows w aZ yF e' k' hg hb ht
      split at h
      ·rename_i zs m6 hz oW
       split at h
       ·rename_i hc
        obtain⟨rfl,rfl,h3,h4,h5,h6,h7⟩:=hc;simp only[bB,bY]at h;obtain⟨rfl,rfl,rfl⟩:=h;exact aR7 ht hz h3 oW hx hg h4 hy hb h5 h6 h7
       ·cases h
      ·cases h
     ·cases h
    ·rename_i b
     split at h
     ·rename_i aZ yF e k hb ht
      split at h
      ·rename_i JQ
       simp only[bB,bY]at h;obtain⟨rfl,rfl,rfl⟩:=h;have:aZ=[]:=by simpa using JQ
       subst this;exact aU4 ht hx hy hb
      ·rename_i JQ
       split at h
       ·rename_i zs m6 hz oW
        split at h
        ·rename_i hc
         obtain⟨h3,h4,h5,h6⟩:=hc;simp only[bB,bY]at h;obtain⟨rfl,rfl,rfl⟩:=h;exact aU5 ht hz h3 oW hx hy hb (by simpa using JQ) h4 h5 h6
        ·cases h
       ·cases h
     ·cases h
    ·cases h
   ·unfold Fe at h
    split at h
    ·rename_i k n
     split at h
     ·rename_i e k' kn ht QP
      split at h
      ·rename_i zs m6 hz oW
       split at h
       ·rename_i hc
        obtain⟨h3,h4,h5,h6,h7⟩:=hc;simp only[bB,bY]at h;obtain⟨rfl,rfl,rfl⟩:=h;exact aX9 ht QP hz h3 h4 oW hx hy h5 h6 h7
       ·cases h
      ·cases h
     ·cases h
    ·cases h
  ·rename_i a' t h1 h2
   simp only at h1 h2
   obtain⟨x,rfl,hx⟩:∃x,as=[x]/\g x=a':=by
    cases as with
    |nil=>simp at h1
    |cons x r=>cases r<;>simp_all
   subst h2;unfold Fc at h;split at h
   ·split at h
    ·rename_i q ht
     simp only[bB,bY]at h;obtain⟨rfl,rfl,rfl⟩:=h;exact aX8 (e:=q.1) (k:=q.2) ht hx
    ·cases h
   ·cases h
  ·rename_i _ a' b' t t' h1 h2
   simp only at h1 h2
   obtain⟨x,y,rfl,hx,hy⟩:∃x y,as=[x,y]/\g x=a'/\g y=b':=by
    cases as with
    |nil=>simp at h1
    |cons x r=>cases r with
     |nil=>simp at h1
     |cons y r=>cases r with
      |nil=>simp at h1;exact⟨x,y,rfl,h1.1,h1.2⟩
      |cons z r=>simp at h1
   subst h2;unfold N6 at h;split at h
   ·rename_i id off len b
    split at h
    ·rename_i e k rows ap aZ yF e' k' hg hb ht
     split at h
     ·rename_i hc
      obtain⟨rfl,rfl,h3,h4⟩:=hc;simp only[bB,bY]at h;obtain⟨rfl,rfl,rfl⟩:=h;exact aV5 ht hx hg h3 hy hb h4
     ·cases h
    ·cases h
   ·rename_i id i o len b
    split at h
    ·rename_i e s rows ap aZ yF e' hg hb ht
     split at h
     ·rename_i row bH
      split at h
      ·rename_i hc
       simp only[bB,bY]at h;obtain⟨rfl,rfl,rfl⟩:=h;exact aV9 ht hx hg bH hc.1 hy hb hc.2
      ·cases h
     ·cases h
    ·cases h
   ·cases h
  ·cases h
 ·cases h
end
end Go.AL
