/- Target: a layer over the walks (La). No condition but those named. -/
import Derived.Test.YtpaomccedbjknaaGreatDoorL0
import Derived.Calls
import Derived.Orders
import Derived.Below
import Derived.WalkKit
import Derived.Deep.LoopGhost
import Derived.Laws.Rows
import Derived.Laws.AppendOwn
import Derived.Laws.MakeOwn
import Derived.Laws.StructEq
import Derived.MapKept
import Derived.ChangeKeysEq
import Derived.Maps.Own
import Derived.Laws.IdiomRangeMap
import Derived.Laws.IdiomCopy
import Derived.Lib.AppendZeros
import Derived.Laws.BytesString
set_option linter.all false
namespace Go.AL
open Go.RowKit
inductive AV where
 |c (x:Value)
 |agg (xs:List AV)
 |aK (xs:List AV)
 |snap (rows:List (List AV))
 |cH (rows:List (List AV)) (i o:Nat)
 |own (id off len:Nat)
 |sub (id i o len:Nat)
 |ptr (id i o:Nat)
 |fn (f:Fn) (first cap:List AV)
 |omap (id:Nat)
 |jT (id:Nat)
instance :Inhabited AV:=⟨.c undef⟩
def vW:Value->Bool
 | .agg _=>true
 |_=>false
def zF:Value->Option AV
 | .agg cs=>if cs.toList.all (fun v=> !vW v)then some (.agg (cs.toList.map AV.c))else none
 |v=>some (.c v)
def AV.cells:AV->List AV
 | .agg xs=>xs
 |a=> [a]
def AV.one:AV->Bool
 | .c x=>x.oneCell'
 | .agg _=>false
 | .aK _=>false
 |_=>true
structure Env where
 ι:Nat->Nat
 sz:Nat->Nat
 U:Nat->Prop
 L:Nat->Nat
inductive RV (E:Env) (W:World):AV->Value->Prop
 |c (x:Value) (hx:vW x=false):RV E W (.c x) x
 |agg (xs:List AV) (vs:Array Value) (hl:xs.length=vs.size) (h:∀(i:Nat) x v,xs[i]? =some x->vs[i]? =some v->RV E W x v):RV E W (.agg xs) (.agg vs)
 |aK (xs:List AV) (vs:Array Value) (hl:xs.length=vs.size) (h:∀(i:Nat) x v,xs[i]? =some x->vs[i]? =some v->RV E W x v):RV E W (.aK xs) (.tuple vs)
 |snap (rows:List (List AV)) (b off s n cap:Nat) (vs:Nat->Nat->Value) (hn:n=rows.length) (pH:n<=cap)
   (hs:∀(i:Nat) row,rows[i]? =some row->row.length=s) (hL:off+rows.length*s<=E.L b)
   (hc:∀(i j:Nat) row x,rows[i]? =some row->row[j]? =some x->W.cell? ⟨b,off+(i*s+j),none⟩=some (vs i j))
   (hr:∀(i j:Nat) row x,rows[i]? =some row->row[j]? =some x->RV E W x (vs i j)):RV E W (.snap rows) (.slice (some ⟨b,off,none⟩) n cap)
 |kP (a:Option Addr) (cap:Nat):RV E W (.snap []) (.slice a 0 cap)
 |cH (rows:List (List AV)) (i o:Nat) (b off s:Nat) (vs:Nat->Nat->Value)
   (hs:∀(i:Nat) row,rows[i]? =some row->row.length=s) (hL:off+rows.length*s<=E.L b)
   (hc:∀(i j:Nat) row x,rows[i]? =some row->row[j]? =some x->W.cell? ⟨b,off+(i*s+j),none⟩=some (vs i j))
   (hr:∀(i j:Nat) row x,rows[i]? =some row->row[j]? =some x->RV E W x (vs i j)):RV E W (.cH rows i o) (.pointer (some ⟨b,off+(i*s+o),none⟩))
 |own (id off len cap:Nat) (aC:E.U id) (eI:len<=cap) (dO:∃(cur:Array Value) (e:TypeId) (f:Nat×Nat),W.heap[E.ι id]? =some (Obj.cells cur e f)/\(off+cap)*E.sz id<=cur.size):
   RV E W (.own id off len) (.slice (some ⟨E.ι id,off*E.sz id,none⟩) len cap)
 |mB (id off:Nat) (a:Option Addr) (aC:E.U id):RV E W (.own id off 0) (.slice a 0 0)
 |sub (id i o len cap:Nat) (aC:E.U id) (eI:len<=cap) (dO:∃(cur:Array Value) (e:TypeId) (f:Nat×Nat),W.heap[E.ι id]? =some (Obj.cells cur e f)/\i*E.sz id+o+cap<=cur.size):
   RV E W (.sub id i o len) (.slice (some ⟨E.ι id,i*E.sz id+o,none⟩) len cap)
 |ptr (id i o:Nat) (aC:E.U id):RV E W (.ptr id i o) (.pointer (some ⟨E.ι id,i*E.sz id+o,none⟩))
 |fn (f:Fn) (first cap:List AV) (vf vc:Array Value) (hl:first.length=vf.size) (dG:cap.length=vc.size)
   (h:∀(i:Nat) x v,first[i]? =some x->vf[i]? =some v->RV E W x v) (h2:∀(i:Nat) x v,cap[i]? =some x->vc[i]? =some v->RV E W x v):RV E W (.fn f first cap) (.func f vf vc)
 |omap (id:Nat) (aC:E.U id):RV E W (.omap id) (.map (some (E.ι id)))
 |jT (id:Nat) (aC:E.U id):RV E W (.jT id) (.func (.yield (E.ι id)) #[] #[])
structure bE(E:Env)(W:World)(E':Env)(W':World):Prop where
 os:W'.os=W.os
 tape:W'.tape=W.tape
 output:W'.output=W.output
 size:W.heap.size<=W'.heap.size
 used:∀id,E.U id->E'.U id
 jK:∀id,E.U id->E'.ι id=E.ι id/\E'.sz id=E.sz id
 lim:∀b,E.L b<=E'.L b
 wV:∀b k,k<E.L b->W'.cell? ⟨b,k,none⟩=W.cell? ⟨b,k,none⟩
 rJ:∀b,b<W.heap.size->(∀id,E.U id->E.ι id≠b)->W'.heap[b]? =W.heap[b]?
 aR:∀(b:Nat) (cur:Array Value) (e:TypeId) (f:Nat×Nat),W.heap[b]? =some (Obj.cells cur e f)->∃(eS:Array Value) (f':Nat×Nat),W'.heap[b]? =some (Obj.cells eS e f')/\eS.size=cur.size
 still:∀b,b<W.heap.size->(∀id,E.U id->E.ι id≠b)->E'.L b=E.L b
 fresh:∀id,¬E.U id->E'.U id->W.heap.size<=E'.ι id\/∃sS,E.U sS/\E.ι sS=E'.ι id
 loops:∀(b:Nat) (r:Loop),W.heap[b]? =some (.loop r)->∃r',W'.heap[b]? =some (.loop r')/\r'.defers=r.defers
theorem bE.refl(E:Env)(W:World):bE E W E W:=
 ⟨rfl,rfl,rfl,cA _,fun _ h=>h,fun _ _=>⟨rfl,rfl⟩,fun _=>cA _,fun _ _ _=>rfl,fun _ _ _=>rfl,fun b cur e f h=>⟨cur,f,h,rfl⟩,fun _ _ _=>rfl,fun id h h'=>absurd h' h,fun b r h=>⟨r,h,rfl⟩⟩
theorem bE.trans{E E' wW:Env}{W W' G1:World}(h:bE E W E' W')(k:bE E' W' wW G1):bE E W wW G1 where
 os:=k.os.trans h.os
 tape:=k.tape.trans h.tape
 output:=k.output.trans h.output
 size:=tA h.size k.size
 used:=fun id aC=>k.used id (h.used id aC)
 jK:=fun id aC=>by
  have h1:=h.jK id aC;have h2:=k.jK id (h.used id aC);omega
 lim:=fun b=>tA (h.lim b) (k.lim b)
 wV:=fun b i hi=>(k.wV b i (tX hi (h.lim b))).trans (h.wV b i hi)
 rJ:=fun b hb hf=>by
  rw[<-h.rJ b hb hf];refine k.rJ b (tX hb h.size) fun id aC=> ?_
  by_cases bG:E.U id
  ·rw[(h.jK id bG).1];grind
  ·rcases h.fresh id bG aC with h1|⟨sS,h0,h1⟩
   ·omega
   grind
 aR:=fun b cur e f hb=>by
  obtain⟨eS,f',h1,h2⟩:=h.aR b cur e f hb;obtain⟨bZ7,f'',h3,h4⟩:=k.aR b eS e f' h1
  grind
 still:=fun b hb hf=>by
  rw[<-h.still b hb hf];refine k.still b (tX hb h.size) fun id aC=> ?_
  by_cases bG:E.U id
  ·rw[(h.jK id bG).1];grind
  ·rcases h.fresh id bG aC with h1|⟨sS,h0,h1⟩
   ·omega
   grind
 fresh:=fun id h1 h2=>by
  by_cases bG:E'.U id
  ·rw[(k.jK id bG).1];exact h.fresh id h1 bG
  ·rcases k.fresh id bG h2 with h3|⟨sS,h0,h3⟩
   ·exact .inl (tA h.size h3)
   ·by_cases mX:E.U sS
    ·exact .inr ⟨sS,mX,by rw[<-h3,(h.jK sS mX).1]⟩
    ·rw[<-h3];exact h.fresh sS mX h0
 loops:=fun b r hb=>by
  obtain⟨r',h1,h2⟩:=h.loops b r hb;obtain⟨r'',h3,h4⟩:=k.loops b r' h1
  grind
theorem y4{i n s j:Nat}(hi:i<n)(hj:j<s):i*s+j<n*s:=by
 have h:(i+1)*s<=n*s:=mO s hi
 grind
theorem RV.mono{E E':Env}{W W':World}(h:bE E W E' W'){a:AV}{v:Value}(r:RV E W a v):RV E' W' a v:=by
 induction r with
 |c x hx=>exact .c x hx
 |agg xs vs hl _ ih=>exact .agg xs vs hl ih
 |aK xs vs hl _ ih=>exact .aK xs vs hl ih
 |snap rows b off s n cap vs hn pH hs hL hc hr ih=>
  refine .snap rows b off s n cap vs hn pH hs (tA hL (h.lim b)) (fun i j row x h1 h2=> ?_) ih
  rw[h.wV]
  ·grind
  ·have hi:i<rows.length:=(fT.1 h1).1
   have hj:j<s:=by rw[<-hs i row h1];exact(fT.1 h2).1
   have:=y4 hi hj;omega
 |kP a cap=>exact .kP a cap
 |cH rows i o b off s vs hs hL hc hr ih=>
  refine .cH rows i o b off s vs hs (tA hL (h.lim b)) (fun i j row x h1 h2=> ?_) ih
  rw[h.wV]
  ·grind
  ·have hi:i<rows.length:=(fT.1 h1).1
   have hj:j<s:=by rw[<-hs i row h1];exact(fT.1 h2).1
   have:=y4 hi hj;omega
 |own id off len cap aC eI dO=>
  obtain⟨cur,e,f,h1,h2⟩:=dO;obtain⟨eS,f',h3,h4⟩:=h.aR _ _ _ _ h1;rw[<-(h.jK id aC).1,<-(h.jK id aC).2];refine .own id off len cap (h.used id aC) eI ⟨eS,e,f',?_,?_⟩
  ·rw[(h.jK id aC).1];exact h3
  ·rw[(h.jK id aC).2,h4];exact h2
 |mB id off a aC=>exact .mB id off a (h.used id aC)
 |sub id i o len cap aC eI dO=>
  obtain⟨cur,e,f,h1,h2⟩:=dO;obtain⟨eS,f',h3,h4⟩:=h.aR _ _ _ _ h1;rw[<-(h.jK id aC).1,<-(h.jK id aC).2];refine .sub id i o len cap (h.used id aC) eI ⟨eS,e,f',?_,?_⟩
  ·rw[(h.jK id aC).1];exact h3
  ·rw[(h.jK id aC).2,h4];exact h2
 |ptr id i o aC=>
  rw[<-(h.jK id aC).1,<-(h.jK id aC).2];exact .ptr id i o (h.used id aC)
 |fn f first cap vf vc hl dG _ _ E4 E5=>exact .fn f first cap vf vc hl dG E4 E5
 |omap id aC=>
  rw[<-(h.jK id aC).1];exact .omap id (h.used id aC)
 |jT id aC=>
  rw[<-(h.jK id aC).1];exact .jT id (h.used id aC)
theorem RV.zF{E:Env}{W:World}{v:Value}{a:AV}(h:zF v=some a):RV E W a v:=by
 cases v with
 |agg cs=>
  unfold AL.zF at h;split at h
  ·rename_i heq
   injection heq with heq
   subst heq;split at h
   ·rename_i lC
    injection h with h
    subst h;refine .agg _ _ (by simp) fun i x v hx hv=> ?_
    simp only[kJ,OU,hv,zQ,bM]at hx;subst hx;refine .c _ ?_
    grind
   ·cases h
  grind
 |_=>injection h with h;subst h;exact .c _ rfl
inductive aI where
 |cells (elem:TypeId) (s:Nat) (rows:List (List AV)) (w a:Bool)
 |map (es:List (Value×AV))
 |iter (m n:Nat) (seen:List Nat)
 |cJ (env:List (Nat×Bool×AV)) (nt:Nat) (ps:List Tmp) (assign body:Code) (st:LoopState) (IX:Option Code)
def lk:List (Nat×Bool×AV)->Nat->Option (Bool×AV)
 |[],_=>none
 |(i,a)::r,t=>if t=i then some a else lk r t
def aI.upto:aI->Nat
 | .cells _ s rows _ _=>rows.length*s
 | .map _=>0
 | .iter .. =>0
 | .cJ .. =>0
def aI.app:aI->Bool
 | .cells _ _ _ _ a=>a
 | .map _=>false
 | .iter .. =>false
 | .cJ .. =>false
structure Heap where
 next:Nat
 get:Nat->Option aI
def Dm(ms:Array MapEntry)(clock:Nat):Prop:=MapKept.Stamped ms clock/\clock=ms.size/\∀(i:Nat) e,ms[i]? =some e->e.born=i
def IY(E:Env)(W:World)(G:Nat->Option aI)(id:Nat):aI->Prop
 | .cells elem s rows w a=>E.sz id=s/\(∀(i:Nat) row,rows[i]? =some row->row.length=s)/\
     (∃cur:Array Value,W.heap[E.ι id]? =some (Obj.cells cur elem (0,0))/\rows.length*s<=cur.size/\
       ∀(i j:Nat) row x,rows[i]? =some row->row[j]? =some x->∃v,cur[i*s+j]? =some v/\RV E W x v)/\
     (w=true->E.L (E.ι id)=0/\∀aL b',aL≠id->G aL=some b'->E.ι aL≠E.ι id)/\
     (a=true->E.L (E.ι id)<=rows.length*s/\∀aL b',aL≠id->G aL=some b'->E.ι aL=E.ι id->b'.upto<=rows.length*s/\b'.app=false)
 | .map es=>(∃(ms:Array MapEntry) (clock:Nat),W.heap[E.ι id]? =some (Obj.map ms clock)/\Dm ms clock/\ms.size=es.length/\
      ∀(i:Nat) k x,es[i]? =some (k,x)->∃e,ms[i]? =some e/\e.key=k/\RV E W x e.val)/\
     E.L (E.ι id)=0/\∀aL b',aL≠id->G aL=some b'->E.ι aL≠E.ι id
 | .iter m n seen=>(W.heap[E.ι id]? =some (Obj.mapIter (some (E.ι m)) n seen.toArray n)/\E.U m)/\
     E.L (E.ι id)=0/\∀aL b',aL≠id->G aL=some b'->E.ι aL≠E.ι id
 | .cJ env nt ps assign body st IX=>(∃(fn:FuncId) (tmps:Array Value) (D:Nat),W.heap[E.ι id]? =some (.loop {state:=st,pending:=IX,fn,tmps,params:=ps.toArray,assign,body,defers:=D})/\tmps.size=nt/\
      ∀t c a,lk env t=some (c,a)->∃v,tmps[t]? =some v/\(c=true->RV E W a v)/\(c=false->v=undef))/\
     E.L (E.ι id)=0/\∀aL b',aL≠id->G aL=some b'->E.ι aL≠E.ι id
structure RC(E:Env)(W:World)(G:Nat->Option aI):Prop where
 lim:∀b,W.heap.size<=b->E.L b=0
 eJ:∀id,E.U id->E.ι id<W.heap.size
 ok:∀id b,G id=some b->E.U id/\IY E W G id b
structure RH(E:Env)(W:World)(H:Heap):Prop where
 next:∀id,E.U id->id<H.next
 core:RC E W H.get
end Go.AL
namespace Go.AL
open Go.RowKit
def bP(E:Env)(W:World)(xs:List AV)(vs:List Value):Prop:=
 xs.length=vs.length/\∀(i:Nat) x v,xs[i]? =some x->vs[i]? =some v->RV E W x v
section
variable {E : Env} {W : World}
theorem bP.nil:bP E W [] []:=⟨rfl,fun i x v h=>by simp at h⟩
theorem bP.get{xs:List AV}{vs:List Value}(h:bP E W xs vs){i:Nat}{x:AV}(hx:xs[i]? =some x):∃v,vs[i]? =some v/\RV E W x v:=by
 have hi:i<vs.length:=by rw[<-h.1];exact(fT.1 hx).1
 exact⟨vs[i],gY hi,h.2 i x _ hx (gY hi)⟩
theorem bP.cons{x:AV}{v:Value}{xs:List AV}{vs:List Value}(h:RV E W x v)(hs:bP E W xs vs):bP E W (x::xs) (v::vs):=by
 refine⟨by simp[hs.1],fun i y u hy hu=> ?_⟩
 cases i with
 |zero=>grind
 |succ i=>simp at hy hu;exact hs.2 i y u hy hu
theorem bP.append{xs ys:List AV}{vs us:List Value}(h:bP E W xs vs)(k:bP E W ys us):bP E W (xs++ys) (vs++us):=by
 refine⟨by simp[h.1,k.1],fun i x v hx hv=> ?_⟩
 by_cases hi:i<xs.length
 ·rw[rM hi]at hx
  rw[rM (by rw[<-h.1];exact hi)]at hv
  exact h.2 i x v hx hv
 ·rw[nI oM]at hx
  rw[nI (by rw[<-h.1];omega),<-h.1]at hv
  exact k.2 _ x v hx hv
theorem bP.take{xs:List AV}{vs:List Value}(h:bP E W xs vs)(n:Nat):bP E W (xs.take n) (vs.take n):=by
 refine⟨by simp[h.1],fun i x v hx hv=> ?_⟩
 rw[pK]at hx hv;split at hx
 ·rename_i hi;simp only[hi,if_true]at hv;exact h.2 i x v hx hv
 ·cases hx
theorem bP.drop{xs:List AV}{vs:List Value}(h:bP E W xs vs)(n:Nat):bP E W (xs.drop n) (vs.drop n):=by
 refine⟨by simp[h.1],fun i x v hx hv=> ?_⟩
 rw[vA]at hx hv;exact h.2 _ x v hx hv
theorem bP.aZ7{xs:List Value}(h:xs.all (fun v=> !vW v)=true):bP E W (xs.map AV.c) xs:=by
 refine⟨by simp,fun i x v hx hv=> ?_⟩
 simp only[kJ,hv,zQ,bM]at hx;subst hx;refine .c _ ?_
 grind
theorem RV.Dn{a:AV}{v:Value}(r:RV E W a v):bP E W a.cells v.cells.toList:=by
 cases r with
 |agg xs vs hl h=>exact⟨by grind [AV.cells,Value.cells],fun i x v hx hv=>h i x v hx (by grind [Value.cells])⟩
 |c x hx=>
  have:v.cells= #[v]:=by cases v<;>first|rfl|grind [vW]
  rw[this];exact .cons (.c v hx) .nil
 |aK xs vs hl h=>exact .cons (.aK xs vs hl h) .nil
 |snap rows b off s n cap vs hn pH hs hL hc hr=>exact .cons (.snap rows b off s n cap vs hn pH hs hL hc hr) .nil
 |kP a cap=>exact .cons (.kP a cap) .nil
 |cH rows i o b off s vs hs hL hc hr=>exact .cons (.cH rows i o b off s vs hs hL hc hr) .nil
 |own id off len cap aC eI dO=>exact .cons (.own id off len cap aC eI dO) .nil
 |mB id off a aC=>exact .cons (.mB id off a aC) .nil
 |sub id i o len cap aC eI dO=>exact .cons (.sub id i o len cap aC eI dO) .nil
 |ptr id i o aC=>exact .cons (.ptr id i o aC) .nil
 |fn f first cap vf vc hl dG h h2=>exact .cons (.fn f first cap vf vc hl dG h h2) .nil
 |omap id aC=>exact .cons (.omap id aC) .nil
 |jT id aC=>exact .cons (.jT id aC) .nil
theorem RV.oneOf{a:AV}{v:Value}(r:RV E W a v)(h:a.one=true):v.oneCell'=true:=by
 cases r<;>first|rfl|exact h|(simp[AV.one]at h)
theorem bP.aZ8{xs:List AV}{vs:List Value}(h:bP E W xs vs)(ho:xs.all AV.one=true):∀v∈vs,v.oneCell'=true:=by
 intro v hv;obtain⟨i,hi⟩:=Zr hv;have bG:i<xs.length:=by rw[h.1];exact(fT.1 hi).1
 exact(h.2 i xs[i] v (gY bG) hi).oneOf (iM.1 ho _ (EN bG))
end
def deref(G:Nat->Option aI):AV->Option (List AV×Nat×List Nat)
 | .ptr id i o=>match G id with
   |some (.cells _ _ rows _ _)=>match rows[i]? with
    |some row=>some (row,o,[id])
    |none=>none
   |_=>none
 | .cH rows i o=>match rows[i]? with
   |some row=>some (row,o,[])
   |none=>none
 |_=>none
def rowsOf(G:Nat->Option aI):AV->Option (List (List AV)×List Nat)
 | .c (.slice _ 0 _)=>some ([],[])
 | .snap rows=>some (rows,[])
 | .own id off len=>match G id with
   |some (.cells _ _ rows _ _)=>if off+len<=rows.length then some ((rows.drop off).take len,[id])else none
   |_=>none
 | .sub id i o len=>match G id with
   |some (.cells _ _ rows _ _)=>match rows[i]? with
    |some row=>if o+len<=row.length then some (((row.drop o).take len).map fun x=> [x],[id])else none
    |none=>none
   |_=>none
 |_=>none
theorem Te{E:Env}{W:World}{G:Nat->Option aI}(hG:RC E W G){a:AV}{v:Value}(r:RV E W a v){row:List AV}{o:Nat}{rd:List Nat}(h:deref G a=some (row,o,rd)):
  ∃b p,v= .pointer (some ⟨b,p+o,none⟩)/\∃vs:List Value,bP E W row vs/\∀(j:Nat) u,vs[j]? =some u->W.cell? ⟨b,p+j,none⟩=some u:=by
 unfold deref at h;split at h
 ·rename_i id i o'
  split at h
  ·rename_i e s rows w ap dQ
   split at h
   ·rename_i gN cS
    simp only[bM,cQ]at h;obtain⟨rfl,rfl,rfl⟩:=h;cases r with
    |ptr _ _ _ aC=>
    obtain⟨hU,dO,hlen,⟨cur,cV,hle,fO⟩,_,_⟩:=hG.ok id _ dQ;have hi:i<rows.length:=(fT.1 cS).1;have hl:=hlen i gN cS
    have Ae:i*s+s<=cur.size:=by
     have:(i+1)*s<=rows.length*s:=mO s hi;rw[BC]at this;omega
    refine⟨E.ι id,i*s,by rw[dO],(cur.toList.drop (i*s)).take s,⟨by grind,fun j x u hx hu=> ?_⟩,fun j u hu=> ?_⟩
    ·grind
    grind [cell_of_row]
   ·cases h
  ·cases h
 ·rename_i rows i o'
  split at h
  ·rename_i gN cS
   simp only[bM,cQ]at h;obtain⟨rfl,rfl,rfl⟩:=h;cases r with
   |cH _ _ _ b off s vs hs hL hc hr=>
   have hl:=hs i gN cS;refine⟨b,off+i*s,by grind,(List.range gN.length).map (fun j=>vs i j),⟨by simp,fun j x u hx hu=> ?_⟩,fun j u hu=> ?_⟩
   ·grind
   ·by_cases hj:j<gN.length
    ·simp_all [TC]
    grind
  ·cases h
 ·cases h
theorem M5{E:Env}{W:World}{G:Nat->Option aI}(hG:RC E W G){a:AV}{v:Value}(r:RV E W a v){rows:List (List AV)}{rd:List Nat}(h:rowsOf G a=some (rows,rd)):
  ∃base n cap,v= .slice base n cap/\n=rows.length/\n<=cap/\(rows≠[]->∃b p s,base=some ⟨b,p,none⟩/\(∀(i:Nat) row,rows[i]? =some row->row.length=s)/\
   (∀(i j:Nat) row x,rows[i]? =some row->row[j]? =some x->∃u,W.cell? ⟨b,p+(i*s+j),none⟩=some u/\RV E W x u)):=by
 unfold rowsOf at h;split at h
 ·simp only[bM,cQ]at h
  obtain⟨rfl,rfl⟩:=h;cases r
  grind
 ·rename_i dU
  simp only[bM,cQ]at h;obtain⟨rfl,rfl⟩:=h;cases r with
  |snap _ b off s n cap vs hn pH hs hL hc hr=>
   exact⟨_,n,cap,rfl,hn,pH,fun _=>⟨b,off,s,rfl,hs,fun i j row x h1 h2=>⟨_,hc i j row x h1 h2,hr i j row x h1 h2⟩⟩⟩
  |kP a cap=>grind
 ·rename_i id off len
  split at h
  ·rename_i e s dU w ap dQ
   split at h
   ·rename_i hle
    simp only[bM,cQ]at h;obtain⟨rfl,rfl⟩:=h;obtain⟨hU,dO,hlen,⟨cur,cV,Dp,fO⟩,_,_⟩:=hG.ok id _ dQ;cases r with
    |own _ _ _ cap aC eI aZ9=>
     refine⟨_,len,cap,rfl,by simp;omega,eI,fun _=>⟨_,_,s,rfl,fun i row cS=> ?_,fun i j row x cS hx=> ?_⟩⟩
     ·grind
     ·rw[pK]at cS
      split at cS
      ·rw[vA]at cS
       obtain⟨u,h1,h2⟩:=fO _ j row x cS hx;refine⟨u,?_,h2⟩;rw[cell_of_row W _ _ cur e (0,0) cV,dO,<-h1]
       grind
      grind
    |mB _ _ a aC=>grind
   ·cases h
  ·cases h
 ·rename_i id i o len
  split at h
  ·rename_i e s dU w ap dQ
   split at h
   ·rename_i row cS
    split at h
    ·rename_i hle
     simp only[bM,cQ]at h;obtain⟨rfl,rfl⟩:=h;obtain⟨hU,dO,hlen,⟨cur,cV,Dp,fO⟩,_,_⟩:=hG.ok id _ dQ;cases r with
     |sub _ _ _ _ cap aC eI aZ9=>
      have tU:∀(i':Nat) gN,(((row.drop o).take len).map fun x=> [x])[i']? =some gN->∃y,row[o+i']? =some y/\gN=[y]:=fun i' gN hr=>by
       grind
      refine⟨_,len,cap,rfl,by simp;omega,eI,fun _=>⟨_,_,1,rfl,fun i' gN hr=> ?_,fun i' j gN x hr hx=> ?_⟩⟩
      ·grind
      ·obtain⟨y,hy,rfl⟩:=tU i' gN hr
       obtain⟨rfl,rfl⟩:j=0/\y=x:=by
        grind
       grind [cell_of_row]
    ·cases h
   ·cases h
  ·cases h
 ·cases h
end Go.AL
namespace Go.AL
open Go.RowKit
def aY(G:Nat->Option aI):List (Nat×Option aI)->Nat->Option aI
 |[]=>G
 |(i,b)::r=>aY (fun k=>if k=i then b else G k) r
def pN(k:Nat):List (Nat×Option aI)->Option aI
 |[]=>none
 |(i,b)::r=>if k=i then b else pN k r
def bN(l:List (Nat×Option aI))(k:Nat):Option aI:=pN k l
theorem Jl(l:List (Nat×Option aI))(k:Nat):bN l k=pN k l:=rfl
def DV:List (Nat×Option aI)->Nat->Option aI->List (Nat×Option aI)
 |[],i,b=> [(i,b)]
 |(j,c)::r,i,b=>if i=j then(i,b)::r else(j,c)::DV r i b
theorem ba0(l:List (Nat×Option aI))(i:Nat)(b:Option aI):(fun k=>if k=i then b else bN l k)=bN (DV l i b):=by
 funext k
 induction l with
 |nil=>rfl
 |cons p r ih=>
  obtain⟨j,c⟩:=p;simp only[DV];by_cases kZ:i=j
  ·simp_all [bN,pN]
  ·simp only[kZ,if_false,bN,pN]
   simp only[bN]at ih
   grind
theorem ba1(G:Nat->Option aI):aY G []=G:=rfl
theorem ba2(l:List (Nat×Option aI))(i:Nat)(b:Option aI)(r:List (Nat×Option aI)):aY (bN l) ((i,b)::r)=aY (bN (DV l i b)) r:=by
 rw[<-ba0];rfl
theorem IY.mono{E E':Env}{W W':World}{G G':Nat->Option aI}{id:Nat}{b:aI}(h:IY E W G id b)(hv:bE E W E' W')(hU:E.U id)
  (hh:W'.heap[E.ι id]? =W.heap[E.ι id]?) (hL:E'.L (E.ι id)=E.L (E.ι id))
  (hG:∀aL b',aL≠id->G' aL=some b'->E'.ι aL=E.ι id->∃b0,G aL=some b0/\E.ι aL=E.ι id/\b'.upto=b0.upto/\(b0.app=false->b'.app=false)):IY E' W' G' id b:=by
 cases b with
 |map es=>
  obtain⟨⟨ms,clock,h1,h2,h3,h4⟩,h5,h6⟩:=h;have eV:=(hv.jK id hU).1;refine⟨⟨ms,clock,by grind,h2,h3,fun i k x hx=> ?_⟩,by grind,fun aL b' aT hg heq=> ?_⟩
  ·obtain⟨e,mJ,oZ,uQ⟩:=h4 i k x hx
   exact⟨e,mJ,oZ,uQ.mono hv⟩
  grind
 |iter m n seen=>
  obtain⟨⟨h1,h3⟩,h5,h6⟩:=h;have eV:=(hv.jK id hU).1;refine⟨⟨by rw[eV,hh,(hv.jK m h3).1];exact h1,hv.used m h3⟩,by grind,fun aL b' aT hg heq=> ?_⟩
  grind
 |cJ env nt ps assign body st IX=>
  obtain⟨⟨fn,tmps,D,h1,h2,h3⟩,h5,h6⟩:=h;have eV:=(hv.jK id hU).1;refine⟨⟨fn,tmps,D,by grind,h2,fun t c a ht=> ?_⟩,by grind,fun aL b' aT hg heq=> ?_⟩
  ·obtain⟨v,mJ,oZ,uQ⟩:=h3 t c a ht
   exact⟨v,mJ,fun hc=>(oZ hc).mono hv,uQ⟩
  grind
 |cells elem s rows w a=>
  obtain⟨h1,h2,⟨cur,h3,h4,h5⟩,h6,h7⟩:=h;have eV:=(hv.jK id hU).1;have hs:=(hv.jK id hU).2;refine⟨oM,h2,⟨cur,by grind,h4,fun i j row x hr hx=> ?_⟩,fun hw=> ?_,fun ha=> ?_⟩
  ·obtain⟨v,oD,fI⟩:=h5 i j row x hr hx
   exact⟨v,oD,fI.mono hv⟩
  ·grind
  grind
def Env.more(E:Env)(aF g s:Nat):Env where
 ι:=fun k=>if k=aF then g else E.ι k
 sz:=fun k=>if k=aF then s else E.sz k
 U:=fun k=>E.U k\/k=aF
 L:=E.L
section
variable {E : Env} {W : World} {G : Nat -> Option aI}
theorem bE.alloc(hG:RC E W G){aF:Nat}(hn:¬E.U aF)(o:Obj)(s:Nat):bE E W (E.more aF W.heap.size s) (W.alloc o)where
 os:=rfl
 tape:=rfl
 output:=rfl
 size:=by simp
 used:=fun id h=> .inl h
 jK:=fun id h=>by
  grind [Env.more]
 lim:=fun b=>cA _
 wV:=fun b k hk=>by
  refine World.cell?_alloc_old W o _ fun e=> ?_
  have:=hG.lim b (by grind)
  omega
 rJ:=fun b hb _=>Below.heap_alloc W o b hb
 aR:=fun b cur e f h=>⟨cur,f,by grind [Below.heap_alloc],rfl⟩
 still:=fun _ _ _=>rfl
 fresh:=fun id h1 h2=>by
  grind [Env.more]
 loops:=fun b r h=>⟨r,by grind [Below.heap_alloc],rfl⟩
theorem bE.drew(E:Env)(W:World):bE E W E W.drew:=
 ⟨rfl,rfl,rfl,cA _,fun _ h=>h,fun _ _=>⟨rfl,rfl⟩,fun _=>cA _,fun _ _ _=>rfl,fun _ _ _=>rfl,fun b cur e f h=>⟨cur,f,h,rfl⟩,fun _ _ _=>rfl,fun id h h'=>absurd h' h,fun b r h=>⟨r,h,rfl⟩⟩
theorem RC.IZ{W':World}(hG:RC E W G)(hv:bE E W E W')(hh:W'.heap=W.heap):RC E W' G where
 lim:=fun b hb=>hG.lim b (by grind)
 eJ:=fun id h=>by rw[hh];exact hG.eJ id h
 ok:=fun id b h=>by
  obtain⟨h1,h2⟩:=hG.ok id b h;exact⟨h1,h2.mono hv h1 (by rw[hh]) rfl fun aL b' _ hg he=>⟨b',hg,he,rfl,fun h=>h⟩⟩
theorem RC.drew(hG:RC E W G):RC E W.drew G:=hG.IZ (bE.drew E W) rfl
theorem RC.alloc(hG:RC E W G){aF:Nat}(hn:¬E.U aF)(elem:TypeId)(cur:Array Value)(s:Nat)(rows:List (List AV))(w a:Bool)
  (hs:∀(i:Nat) row,rows[i]? =some row->row.length=s) (hle:rows.length*s<=cur.size)
  (hc:∀(i j:Nat) row x,rows[i]? =some row->row[j]? =some x->∃v,cur[i*s+j]? =some v/\RV E W x v):
  RC (E.more aF W.heap.size s) (W.alloc (.cells cur elem)) (aY G [(aF,some (.cells elem s rows w a))])where
 lim:=fun b hb=>hG.lim b (by simp at hb;omega)
 eJ:=fun id h=>by
  rcases h with h|h
  ·have aT:id≠aF:=fun e=>hn (e▸h)
   have:=hG.eJ id h;simp[Env.more,aT];omega
  simp_all [Env.more]
 ok:=fun id b h=>by
  have hv:=bE.alloc hG hn (.cells cur elem) s;by_cases aC:id=aF
  ·subst aC
   simp only[aY,if_true,bM]at h;subst h;refine⟨.inr rfl,by simp[Env.more],hs,⟨cur,by simp only[Env.more,if_true];exact heap_alloc_new W _,hle,fun i j row x h1 h2=> ?_⟩,fun _=>⟨?_,fun aL b' aT hg=> ?_⟩,fun _=>⟨?_,fun aL b' aT hg he=> ?_⟩⟩
   ·obtain⟨v,h3,h4⟩:=hc i j row x h1 h2
    exact⟨v,h3,h4.mono hv⟩
   ·simp only[Env.more,if_true];exact hG.lim _ (cA _)
   ·simp only[aY,aT,if_false]at hg
    have:=hG.eJ aL (hG.ok aL b' hg).1;simp only[Env.more,aT,if_true,if_false];omega
   ·simp only[Env.more,if_true];rw[hG.lim _ (cA _)];omega
   ·simp only[aY,aT,if_false]at hg
    have:=hG.eJ aL (hG.ok aL b' hg).1;simp_all [Env.more]
  ·simp only[aY,aC,if_false]at h
   obtain⟨h1,h2⟩:=hG.ok id b h;have bG:=hG.eJ id h1;refine⟨.inl h1,h2.mono hv h1 (Below.heap_alloc W _ _ bG) rfl fun aL b' aT hg he=> ?_⟩
   by_cases M6:aL=aF
   ·simp_all [Env.more]
   simp_all [aY,Env.more]
theorem bE.setRow(hG:RC E W G){id:Nat}(hU:E.U id){cur eS:Array Value}{e:TypeId}(cV:W.heap[E.ι id]? =some (.cells cur e (0,0)))
  (dO:eS.size=cur.size) (hp:∀k,k<E.L (E.ι id)->eS[k]? =cur[k]?):bE E W E (W.setRow (E.ι id) eS)where
 os:=rfl
 tape:=rfl
 output:=rfl
 size:=by simp
 used:=fun _ h=>h
 jK:=fun _ _=>⟨rfl,rfl⟩
 lim:=fun _=>cA _
 wV:=fun b k hk=>by
  grind [cell_setRow_same,cell_of_row,cell_setRow_other]
 rJ:=fun b _ hf=>setRow_other W _ b eS fun h=>hf id hU h.symm
 aR:=fun b c e' f h=>by
  by_cases hb:b=E.ι id
  ·subst hb
   rw[cV]at h;injection h with h
   injection h with h1 h2 h3
   subst h1;subst h2;subst h3;exact⟨eS,(0,0),setRow_heap W _ cur eS e (0,0) cV,dO⟩
  simp_all [setRow_other]
 still:=fun _ _ _=>rfl
 fresh:=fun id h h'=>absurd h' h
 loops:=fun b r h=>by
  by_cases hb:b=E.ι id
  ·grind
  simp_all [setRow_other]
end
def uR(row:List AV)(o:Nat)(xs:List AV):List AV:=row.take o++xs++row.drop (o+xs.length)
theorem Tf{row xs:List AV}{o:Nat}(h:o+xs.length<=row.length):(uR row o xs).length=row.length:=by
 grind [uR]
theorem ba3{row xs:List AV}{o j:Nat}{x:AV}(h:o+xs.length<=row.length)(hx:(uR row o xs)[j]? =some x):
  (o<=j/\j<o+xs.length/\xs[j-o]? =some x)\/((j<o\/o+xs.length<=j)/\row[j]? =some x):=by
 unfold uR at hx;by_cases h1:j<o
 ·grind
 ·by_cases h2:j<o+xs.length
  ·grind
  ·rw[nI (by simp;omega),vA]at hx
   grind
theorem RC.write{E:Env}{W:World}{G:Nat->Option aI}(hG:RC E W G){id:Nat}{elem:TypeId}{s:Nat}{rows:List (List AV)}{a:Bool}(hg:G id=some (.cells elem s rows true a))
  {i o:Nat} {row:List AV} (cS:rows[i]? =some row) {xs:List AV} {vs:List Value} (hx:bP E W xs vs) (hle:o+xs.length<=row.length) (h1:∀v∈vs,v.oneCell'=true) {P:Program}:
  ∃eS,(storeCells ⟨E.ι id,i*s+o,none⟩ vs 0).run P W= .ok () (W.setRow (E.ι id) eS)/\bE E W E (W.setRow (E.ι id) eS)/\
   RC E (W.setRow (E.ι id) eS) (aY G [(id,some (.cells elem s (rows.set i (uR row o xs)) true a))]):=by
 obtain⟨hU,dO,hlen,⟨cur,cV,sU,fO⟩,hw,ha⟩:=hG.ok id _ hg;obtain⟨hL,hd⟩:=hw rfl;have hi:i<rows.length:=(fT.1 cS).1;have hl:=hlen i row cS
 have Ae:i*s+s<=cur.size:=by
  have:(i+1)*s<=rows.length*s:=mO s hi;rw[BC]at this;omega
 have Br:vs.length=xs.length:=hx.1.symm;have iR:=run_storeCells_at P (E.ι id) (i*s+o) elem vs 0 cur W cV oM h1
 simp only[KJ]at iR;refine⟨_,iR,?_⟩;generalize AR:(cur.toList.take (i*s+o)++vs++cur.toList.drop (i*s+o+vs.length)).toArray=eS at*;have E6:eS.size=cur.size:=by subst AR;simp;omega
 have hv:=bE.setRow hG hU cV E6 (fun k hk=>by omega)
 refine⟨hv,⟨fun b hb=>hG.lim b (by simp_all),fun aL h=>by simpa using hG.eJ aL h,fun aL b h=> ?_⟩⟩
 by_cases aC:aL=id
 ·subst aC
  simp only[aY,if_true,bM]at h;subst h;refine⟨hU,dO,fun i' gN hr=> ?_,⟨eS,setRow_heap W _ cur eS elem (0,0) cV,by simp;omega,fun i' j gN x hr nO=> ?_⟩,fun _=>⟨hL,fun eP eY aT dR=> ?_⟩,fun R7=> ?_⟩
  ·by_cases WD:i'=i
   ·grind [Tf]
   grind
  ·have ba4:∀k,k<cur.size->(k<i*s+o\/i*s+o+vs.length<=k)->eS[k]? =cur[k]? :=by
    intro k hk nT;subst AR;rw[CZ];rcases nT with nT|nT
    ·grind
    ·rw[nI (by simp;omega),vA];simp;grind
   have ba5:∀k,k<vs.length->eS[i*s+o+k]? =vs[k]? :=by
    intro k hk;subst AR;rw[CZ,nH,nI (by simp;omega),rM (by simp;omega)]
    congr 1;simp;omega
   by_cases WD:i'=i
   ·subst WD
    rw[List.getElem?_set_self hi]at hr;injection hr with hr
    subst hr;rcases ba3 hle nO with⟨h2,h3,h4⟩|⟨h2,h4⟩
    ·obtain⟨v,h5,h6⟩:=hx.get h4
     refine⟨v,?_,h6.mono hv⟩;rw[<-h5,<-ba5 (j-o) oM];congr 1;omega
    ·obtain⟨v,h5,h6⟩:=fO i' j row x cS h4
     refine⟨v,?_,h6.mono hv⟩
     grind
   ·rw[Ii (wD WD)]at hr
    obtain⟨v,h5,h6⟩:=fO i' j gN x hr nO;refine⟨v,?_,h6.mono hv⟩;rw[<-h5];have wX:=hlen i' gN hr;have hj:j<s:=by rw[<-wX];exact(fT.1 nO).1
    refine ba4 _ (k7.1 h5).1 ?_;rcases Nat.lt_or_gt_of_ne WD with h7|h7
    ·have:(i'+1)*s<=i*s:=mO s h7
     grind
    ·have:(i+1)*s<=i'*s:=mO s h7
     grind
  ·simp_all [aY]
  simp_all [aY]
 ·simp only[aY,aC,if_false]at h
  obtain⟨h2,h3⟩:=hG.ok aL b h;have eV:E.ι aL≠E.ι id:=hd aL b aC h;refine⟨h2,h3.mono hv h2 (setRow_other W _ _ eS eV) rfl fun eP eY aT dR he=> ?_⟩
  by_cases Tg:eP=id
  ·grind
  simp_all [aY]
end Go.AL
namespace Go.AL
open Go.RowKit
section types
variable (P : Program)
def cT(t:TypeId):Option Nat:=(P.info? t).map (·.size)
def oK(t:TypeId):Option Nat:=(P.info? t).map (·.bytes)
def fP(t:TypeId):Option Bool:=
 match P.underlying t with
 |some (.struct _)|some (.array _ _)=>some true
 |some _=>some false
 |none=>none
def cB(t:TypeId)(f:Nat):Option (Nat×Nat×TypeId):=
 match P.underlying t with
 |some (.struct fs)=>match fs[f]? with
  |some fd=>(cT P fd.type).map fun k=>(fd.offset,k,fd.type)
  |none=>none
 |_=>none
def fB(t:TypeId):Option (TypeId×Nat):=
 match P.underlying t with
 |some (.slice e)=>(cT P e).map fun k=>(e,k)
 |_=>none
def r4(t:TypeId):Option (Nat×TypeId×Nat):=
 match P.underlying t with
 |some (.array n e)=>(cT P e).map fun k=>(n,e,k)
 |_=>none
def wF(t:TypeId):Option IntKind:=
 match P.underlying t with
 |some (.int k)=>some k
 |_=>none
def eX(t:TypeId):Option (List AV):=
 match(P.info? t).bind (·.zero)with
 |some z=>if z.cells.toList.all (fun v=> !vW v)then some (z.cells.toList.map AV.c)else none
 |none=>none
def mP(t:TypeId)(d:TypeDesc->Bool):Bool:=((P.underlying t).map d).getD false
end types
def isString:TypeDesc->Bool| .string=>true|_=>false
def isBool:TypeDesc->Bool| .bool=>true|_=>false
def qL(P:Program)(t:TypeId)(xs:List AV)(off:Nat):Option AV:=
 match fP P t,cT P t with
 |some true,some k=>if off+k<=xs.length then some (.agg ((xs.drop off).take k))else none
 |some false,some _=>xs[off]?
 |_,_=>none
def WE(op:BinOp)(k:IntKind)(a b:Int):Option Value:=
 match op with
 | .add=>some (.int k (k.wrap (a+b)))
 | .sub=>some (.int k (k.wrap (a-b)))
 | .mul=>some (.int k (k.wrap (a*b)))
 | .quo=>if b=0 then none else some (.int k (k.wrap (a.tdiv b)))
 | .rem=>if b=0 then none else some (.int k (a.tmod b))
 | .eql=>some (.bool (a==b))
 | .neq=>some (.bool (a !=b))
 | .lss=>some (.bool (decide (a<b)))
 | .leq=>some (.bool (decide (a<=b)))
 | .gtr=>some (.bool (decide (b<a)))
 | .geq=>some (.bool (decide (b<=a)))
 | .and=>some (.int k (bits .and k a b))
 | .or=>some (.int k (bits .or k a b))
 | .xor=>some (.int k (bits .xor k a b))
 | .andNot=>some (.int k (bits .andNot k a b))
 |_=>none
def J0(left:Bool)(k:IntKind)(a b:Int):Option Value:=
 if b<0 then none else match left with
  |true=>some (.int k (k.wrap (a*2 ^ min b.toNat k.bits)))
  |false=>some (.int k (a.fdiv (2 ^ min b.toNat k.bits)))
def WG(op:BinOp)(k k':IntKind)(a b:Int):Option Value:=
 match op with
 | .shl=>J0 true k a b
 | .shr=>J0 false k a b
 |_=>if k=k' then WE op k a b else none
def isAny:TypeDesc->Bool
 | .interface ms=>ms.isEmpty
 |_=>false
def xE:TypeDesc->Bool
 | .interface _=>false
 |_=>true
theorem J1{P:Program}{t:TypeId}{d:TypeDesc->Bool}(h:mP P t d=true):∃x,P.underlying t=some x/\d x=true:=by
 unfold mP at h;cases hu:P.underlying t with
 |none=>grind
 |some x=>grind
def E7(op:BinOp)(r:Bool):Option Value:=
 match op with
 | .eql=>some (.bool r)
 | .neq=>some (.bool (!r))
 |_=>none
theorem Th{op:BinOp}{r:Bool}{v:Value}(h:E7 op r=some v):vW v=false:=by
 unfold E7 at h;split at h<;>simp only[bM,reduceCtorEq]at h<;>subst h<;>rfl
def J2(P:Program)(op:BinOp)(t:TypeId):Value->Value->Option Value
 | .int k a,.int k' b=>WG op k k' a b
 | .bool a,.bool b=>if mP P t isBool then(match op with| .eql=>some (.bool (a==b))| .neq=>some (.bool (!(a==b)))|_=>none)else none
 | .string a,.string b=>match op with
   | .eql=>some (.bool (a.toList==b.toList))
   | .neq=>some (.bool (!(a.toList==b.toList)))
   |_=>none
 | .iface _ _,.nilIface=>if mP P t isAny then E7 op false else none
 | .nilIface,.nilIface=>if mP P t isAny then E7 op true else none
 |_,_=>none
theorem run_typeInfo{P:Program}{t:TypeId}{i:TypeInfo}(h:P.info? t=some i)(w:World):(typeInfo t).run P w= .ok i w:=by simp[typeInfo,h]
theorem run_sizeOf{P:Program}{t:TypeId}{k:Nat}(h:cT P t=some k)(w:World):(sizeOf t).run P w= .ok k w:=by
 unfold cT at h;cases hi:P.info? t with
 |none=>grind
 |some i=>simp_all [sizeOf,run_typeInfo]
theorem R8{P:Program}{t:TypeId}{b:Bool}(h:fP P t=some b)(w:World):(isAgg t).run P w= .ok b w:=by
 unfold fP at h;cases hu:P.underlying t with
 |none=>grind
 |some d=>
  unfold isAgg;rw[Sem.run_bind,run_underlying hu w];cases d<;>simp_all
theorem ba6(d:Nat){P:Program}{t:TypeId}{ms:Array (String×TypeId)}(hu:P.underlying t=some (.interface ms))(t':TypeId)(v:Value)(w:World):
  (Op.equalIn (d+1) t (.iface t' v) .nilIface).run P w= .ok false w:=by
 simp[Op.equalIn,run_underlying hu]
theorem ba7(d:Nat){P:Program}{t:TypeId}{ms:Array (String×TypeId)}(hu:P.underlying t=some (.interface ms))(w:World):
  (Op.equalIn (d+1) t .nilIface .nilIface).run P w= .ok true w:=by
 simp[Op.equalIn,run_underlying hu]
theorem ba8(d:Nat){P:Program}{t:TypeId}{ms:Array (String×TypeId)}(hu:P.underlying t=some (.interface ms))(w:World):
  (Op.eqGuardIn (d+1) t .nilIface .nilIface).run P w= .ok (!ms.isEmpty) w:=by
 simp[Op.eqGuardIn,run_underlying hu]
theorem ba9{P:Program}{op:BinOp}{t:TypeId}{ms:Array (String×TypeId)}(hu:P.underlying t=some (.interface ms))(t':TypeId)(v':Value)(x y:Operand)(w:World){v:Value}(h:E7 op false=some v):
  (do eqGuard op t x y (.iface t' v') .nilIface;binOp op t (.iface t' v') .nilIface:Sem Value).run P w= .ok v w:=by
 have h1:=ba6 9999 hu t' v' w;have h2:(eqGuard op t x y (.iface t' v') .nilIface).run P w= .ok () w:=by cases op<;>rfl
 rw[Sem.run_bind,h2,Result.andThen_ok];cases op<;>simp only[E7,reduceCtorEq,bM]at h<;>subst h<;>simp only[binOp,Op.equal,Op.maxDepth,Sem.run_bind,h1,Result.andThen_ok,Sem.run_pure]
theorem bb0{P:Program}{op:BinOp}{t:TypeId}{ms:Array (String×TypeId)}(hu:P.underlying t=some (.interface ms))(y5:ms.isEmpty=true)(x y:Operand)(w:World){v:Value}(h:E7 op true=some v):
  (do eqGuard op t x y .nilIface .nilIface;binOp op t .nilIface .nilIface:Sem Value).run P w= .ok v w:=by
 have h1:=ba7 9999 hu w;have h0:=ba8 9999 hu w
 have h2:(eqGuard op t x y .nilIface .nilIface).run P w= .ok () w:=by
  cases op<;>first
   |rfl
   |simp_all [eqGuard,Op.maxDepth]
 rw[Sem.run_bind,h2,Result.andThen_ok];cases op<;>simp only[E7,reduceCtorEq,bM]at h<;>subst h<;>simp only[binOp,Op.equal,Op.maxDepth,Sem.run_bind,h1,Result.andThen_ok,Sem.run_pure]
theorem bb1{P:Program}{op:BinOp}{t:TypeId}{a b v:Value}(h:J2 P op t a b=some v)(x y:Operand)(w:World):
  (do eqGuard op t x y a b;binOp op t a b:Sem Value).run P w= .ok v w:=by
 unfold J2 at h;split at h
 ·rename_i k a k' b
  unfold WG at h;split at h
  ·unfold J0 at h
   split at h
   ·cases h
   ·rename_i hb
    simp only[bM]at h;subst h;rw[eqGuard_at_int];simp[binOp,Op.shift,hb]
  ·unfold J0 at h
   split at h
   ·cases h
   ·rename_i hb
    simp only[bM]at h;subst h;rw[eqGuard_at_int];simp[binOp,Op.shift,hb]
  ·rename_i FR AP
   split at h
   ·rename_i hk
    subst hk;rw[eqGuard_at_int];unfold WE at h;split at h<;>(try (split at h))<;>simp only[bM,reduceCtorEq]at h<;>(try subst h)<;>simp_all [binOp,Op.intArith,Op.intDiv,Op.intCmp,intBits_and,intBits_or,intBits_xor,intBits_andNot]
   ·cases h
 ·rename_i a b
  rw[eqGuard_at_bool];split at h
  ·rename_i hb
   have hu:P.underlying t=some .bool:=by
    unfold mP at hb;cases hu:P.underlying t with
    |none=>grind
    |some d=>grind [isBool]
   grind [run_eql_bool,run_neq_bool]
  ·cases h
 ·rename_i a b
  rw[eqGuard_at_string];split at h<;>simp only[bM,reduceCtorEq]at h<;>subst h<;>simp[binOp,Op.stringOp]
 ·rename_i t' v'
  split at h
  ·rename_i ht
   obtain⟨d,hu,hd⟩:=J1 ht;cases d<;>simp only[isAny,reduceCtorEq,qZ]at hd
   grind [ba9]
  ·cases h
 ·split at h
  ·rename_i ht
   obtain⟨d,hu,hd⟩:=J1 ht;cases d<;>simp only[isAny,reduceCtorEq,qZ]at hd
   grind [bb0]
  ·cases h
 ·cases h
theorem Ti{P:Program}{t:TypeId}{k:Nat}(ha:fP P t=some true)(hs:cT P t=some k)(w:World)(b p:Nat)(vs:List Value)(hl:vs.length=k)
  (h:∀(j:Nat) u,vs[j]? =some u->w.cell? ⟨b,p+j,none⟩=some u):(loadVar t ⟨b,p,none⟩).run P w= .ok (.agg vs.toArray) w:=by
 have hc:=run_loadCells_list (P:=P) w ⟨b,p,none⟩ vs (fun j u hu=>by grind [Addr.add_lit])
 simp_all [loadVar,R8,run_sizeOf]
theorem Tj{P:Program}{t:TypeId}(ha:fP P t=some false)(w:World)(a:Addr)(v:Value)(h:w.cell? a=some v):(loadVar t a).run P w= .ok v w:=by
 simp[loadVar,R8 ha,h]
theorem bb2{P:Program}{t:TypeId}{k:Nat}(hs:cT P t=some k)(w w':World)(a:Addr)(v:Value)(hl:v.cells.size=k)
  (h:(storeCells a v.cells.toList 0).run P w= .ok () w'):(storeVar t a v).run P w= .ok () w':=by
 simp_all [storeVar,run_sizeOf]
def eT(P:Program)(g:Operand->Option AV)(G:Nat->Option aI)(aF:Nat)(o:Oper)(a:AV)(G':Nat->Option aI):Prop:=
 ∀(E:Env) (W:World) (ρ:Operand->Value),RC E W G->¬E.U aF->(∀x b,g x=some b->RV E W b (ρ x))->
  ∃W' v E',((execOp ρ o).run P W= .ok (.value v) W'\/((execOp ρ o).run P W= .ok .skip W'/\v=undef))/\bE E W E' W'/\RC E' W' G'/\RV E' W' a v/\(∀id,E'.U id->E.U id\/(id=aF/\(G' aF).isSome=true))
theorem eT.still{P:Program}{g:Operand->Option AV}{G:Nat->Option aI}{aF:Nat}{o:Oper}{a:AV}
  (h:∀(E:Env) (W:World) (ρ:Operand->Value),RC E W G->(∀x b,g x=some b->RV E W b (ρ x))->∃v,(execOp ρ o).run P W= .ok (.value v) W/\RV E W a v):eT P g G aF o a G:=
 fun E W ρ hG _ b9=>let ⟨v,h1,h2⟩:=h E W ρ hG b9;⟨W,v,E,.inl h1,bE.refl E W,hG,h2,fun _ h=> .inl h⟩
section
variable {P : Program} {g : Operand -> Option AV} {G : Nat -> Option aI} {aF : Nat} {dst : Option Tmp} {ty : TypeId} {pos : String} {after : Array Edge} {guard : Option (Nat × Bool)}
theorem bb3{x:Operand}{a:AV}(hx:g x=some a):eT P g G aF ⟨dst,.move x,ty,pos,after,guard⟩ a G:=
 .still fun E W ρ hG b9=>⟨ρ x,rfl,b9 x a hx⟩
theorem bb4{x:Operand}{a:AV}(hx:g x=some a):eT P g G aF ⟨dst,.assign x,ty,pos,after,guard⟩ a G:=
 .still fun E W ρ hG b9=>⟨ρ x,rfl,b9 x a hx⟩
theorem Dq{c x y:Operand}{b:Bool}{a:AV}(hc:g c=some (.c (.bool b)))(hx:b=true->g x=some a)(hy:b=false->g y=some a):
  eT P g G aF ⟨dst,.pick c x y,ty,pos,after,guard⟩ a G:=
 .still fun E W ρ hG b9=>by
   have h1:=b9 c _ hc;generalize ca0:ρ c=vc at h1;cases h1;cases b
   ·simp_all [execOp,asBool]
   simp_all [execOp,asBool]
theorem bb5{c x y:Operand}{b p q:Bool}(hc:g c=some (.c (.bool b)))(hx:g x=some (.c (.bool p)))(hy:g y=some (.c (.bool q))):
  eT P g G aF ⟨dst,.pick c x y,ty,pos,after,guard⟩ (.c (.bool (cond b p q))) G:=by
 grind [Dq]
theorem bb6{op:BinOp}{t yt:TypeId}{x y:Operand}{a b v:Value}(hx:g x=some (.c a))(hy:g y=some (.c b))(h:J2 P op t a b=some v)(hv:vW v=false):
  eT P g G aF ⟨dst,.binOp op t x y yt,ty,pos,after,guard⟩ (.c v) G:=
 .still fun E W ρ hG b9=>by
   have h1:=b9 x _ hx;have h2:=b9 y _ hy;generalize cY:ρ x=vx at h1;generalize mK:ρ y=vy at h2;cases h1;cases h2;refine⟨v,?_,.c v hv⟩;have:=bb1 h x y W;simp only[execOp,cY,mK];rw[Sem.run_bind,this];rfl
theorem bb7{t:TypeId}{x:Operand}{b:Bool}(hx:g x=some (.c (.bool b))):eT P g G aF ⟨dst,.unOp .not t x,ty,pos,after,guard⟩ (.c (.bool (!b))) G:=
 .still fun E W ρ hG b9=>by
   have h1:=b9 x _ hx;generalize cY:ρ x=vx at h1;cases h1;exact⟨_,by simp[execOp,cY,Op.unary],.c _ rfl⟩
theorem bb8{t:TypeId}{x:Operand}{k:IntKind}{n:Int}(hx:g x=some (.c (.int k n))):eT P g G aF ⟨dst,.unOp .neg t x,ty,pos,after,guard⟩ (.c (.int k (k.wrap (0-n)))) G:=
 .still fun E W ρ hG b9=>by
   have h1:=b9 x _ hx;generalize cY:ρ x=vx at h1;cases h1;exact⟨_,by simp[execOp,cY,Op.unary,Op.intArith],.c _ rfl⟩
theorem bb9{t:TypeId}{x:Operand}{k:IntKind}{n:Int}(hx:g x=some (.c (.int k n))):eT P g G aF ⟨dst,.unOp .xor t x,ty,pos,after,guard⟩ (.c (.int k (bits .xor k (if k.signed then-1 else k.max) n))) G:=
 .still fun E W ρ hG b9=>by
   have h1:=b9 x _ hx;generalize cY:ρ x=vx at h1;cases h1;exact⟨_,by simp[execOp,cY,Op.unary,intBits_xor],.c _ rfl⟩
theorem Dr{t:TypeId}{k:IntKind}(h:wF P t=some k):P.underlying t=some (.int k):=by
 grind [wF]
theorem bc0{src t:TypeId}{x:Operand}{k kd:IntKind}{n:Int}(hx:g x=some (.c (.int k n)))(hs:(wF P src).isSome=true)(hd:wF P t=some kd):
  eT P g G aF ⟨dst,.convert src t x,ty,pos,after,guard⟩ (.c (.int kd (kd.wrap n))) G:=
 .still fun E W ρ hG b9=>by
   have h1:=b9 x _ hx;generalize cY:ρ x=vx at h1;cases h1;refine⟨_,?_,.c _ rfl⟩;obtain⟨ks,hks⟩:=YD.1 hs;simp_all [Dr,execOp,convert,run_underlying,Conv.intToInt]
theorem bc1{x:Operand}{xs:List AV}{i:Nat}{a:AV}(hx:g x=some (.aK xs))(hi:xs[i]? =some a):eT P g G aF ⟨dst,.extract x i,ty,pos,after,guard⟩ a G:=
 .still fun E W ρ hG b9=>by
   have h1:=b9 x _ hx;generalize cY:ρ x=vx at h1;cases h1 with
   |aK _ vs hl h=>
   have bG:i<vs.size:=by rw[<-hl];exact(fT.1 hi).1
   refine⟨vs[i],?_,h i a _ hi (by simp[bG])⟩
   simp_all [execOp,Instr.extract]
theorem M7{E:Env}{W:World}{t:TypeId}{xs:List AV}{vs:Array Value}(h:bP E W xs vs.toList){off:Nat}{a:AV}(hp:qL P t xs off=some a):
  ∃v,(part t vs off).run P W= .ok v W/\RV E W a v:=by
 unfold qL at hp;split at hp
 ·rename_i k ha hk
  split at hp
  ·rename_i hle
   injection hp with hp
   subst hp;refine⟨.agg (vs.extract off (off+k)),by simp[part,R8 ha,run_sizeOf hk],.agg _ _ ?_ fun i x v hx hv=> ?_⟩
   ·have:=h.1;grind
   ·have:=((h.drop off).take k).2 i x v hx
    grind
  ·cases hp
 ·rename_i k ha hk
  obtain⟨v,h1,h2⟩:=h.get hp;simp_all [part,R8]
 ·cases hp
theorem Tk{t:TypeId}{f off k:Nat}{ft:TypeId}(h:cB P t f=some (off,k,ft)):∃fs fd,P.underlying t=some (.struct fs)/\fs[f]? =some fd/\fd.offset=off/\cT P ft=some k/\fd.type=ft:=by
 unfold cB at h;split at h
 ·rename_i fs hu
  split at h
  ·rename_i fd G2
   cases hk:cT P fd.type with
   |none=>grind
   |some k'=>
    grind
  ·cases h
 ·cases h
theorem bc2{t:TypeId}{x:Operand}{f off k:Nat}{ft:TypeId}{xs:List AV}{a:AV}(hx:g x=some (.agg xs))(hf:cB P t f=some (off,k,ft))(hp:qL P ft xs off=some a):
  eT P g G aF ⟨dst,.field t x f,ty,pos,after,guard⟩ a G:=
 .still fun E W ρ hG b9=>by
   have h1:=b9 x _ hx;generalize cY:ρ x=vx at h1;cases h1 with
   |agg _ vs hl h=>
   obtain⟨fs,fd,hu,G2,ho,hk,qK⟩:=Tk hf;subst qK;subst ho;obtain⟨v,h2,h3⟩:=M7 (P:=P) (E:=E) (W:=W) (vs:=vs) ⟨oM,fun i x v hx hv=>h i x v hx (by grind)⟩ hp
   simp_all [execOp,Instr.field,run_underlying,asAgg]
theorem Tl{t:TypeId}{f off k:Nat}{ft:TypeId}(hf:cB P t f=some (off,k,ft))(z8:k≠0)(b p:Nat)(w:World):
  (Instr.fieldAt t (.pointer (some ⟨b,p,none⟩)) f).run P w= .ok (.pointer (some ⟨b,p+off,none⟩)) w:=by
 obtain⟨fs,fd,hu,G2,ho,hk,qK⟩:=Tk hf;simp_all [Instr.fieldAt,run_underlying,Instr.sureAddr,fieldPlace,run_sizeOf,Addr.add_lit]
theorem bc3{t:TypeId}{x:Operand}{f off k:Nat}{ft:TypeId}{id i o:Nat}(hx:g x=some (.ptr id i o))(hf:cB P t f=some (off,k,ft))(z8:k≠0):
  eT P g G aF ⟨dst,.fieldAddr t x f,ty,pos,after,guard⟩ (.ptr id i (o+off)) G:=
 .still fun E W ρ hG b9=>by
   have h1:=b9 x _ hx;generalize cY:ρ x=vx at h1;cases h1 with
   |ptr _ _ _ aC=>
   refine⟨_,by simp only[execOp,cY];rw[Sem.run_bind,Tl hf z8];rfl,?_⟩
   rw[TC];exact .ptr id i (o+off) aC
theorem bc4{t:TypeId}{x:Operand}{f off k:Nat}{ft:TypeId}{rows:List (List AV)}{i o:Nat}(hx:g x=some (.cH rows i o))(hf:cB P t f=some (off,k,ft))(z8:k≠0):
  eT P g G aF ⟨dst,.fieldAddr t x f,ty,pos,after,guard⟩ (.cH rows i (o+off)) G:=
 .still fun E W ρ hG b9=>by
   have h1:=b9 x _ hx;generalize cY:ρ x=vx at h1;cases h1 with
   |cH _ _ _ b p s vs hs hL hc hr=>
   refine⟨_,by simp only[execOp,cY];rw[Sem.run_bind,Tl hf z8];rfl,?_⟩
   have:=RV.cH (E:=E) (W:=W) rows i (o+off) b p s vs hs hL hc hr
   grind
theorem bc5{t:TypeId}{x:Operand}{p:AV}{row:List AV}{o:Nat}{rd:List Nat}{a:AV}(hx:g x=some p)(hd:deref G p=some (row,o,rd))(hp:qL P t row o=some a):
  eT P g G aF ⟨dst,.load t x,ty,pos,after,guard⟩ a G:=
 .still fun E W ρ hG b9=>by
   have h1:=b9 x _ hx;obtain⟨b,q,hv,vs,h2,h3⟩:=Te hG h1 hd;unfold qL at hp;split at hp
   ·rename_i k ha hk
    split at hp
    ·rename_i hle
     injection hp with hp
     subst hp;have hl:=h2.1;refine⟨.agg ((vs.drop o).take k).toArray,?_,.agg _ _ (by simp;omega) fun i x v hx hv=>((h2.drop o).take k).2 i x v hx (by grind)⟩
     simp only[execOp,hv,Instr.loadAt,Instr.sureAddr]
     have hr:=Ti ha hk W b (q+o) ((vs.drop o).take k) (by simp;omega) (fun j u hu=>by
      grind)
     simp[hr]
    ·cases hp
   ·rename_i k ha hk
    obtain⟨v,h4,h5⟩:=h2.get hp;simp_all [execOp,Instr.loadAt,Instr.sureAddr,Tj]
   ·cases hp
theorem bc6{t:TypeId}{x y:Operand}{id i o k:Nat}{e:TypeId}{s:Nat}{rows:List (List AV)}{ap:Bool}{row:List AV}{a:AV}(hx:g x=some (.ptr id i o))(hg:G id=some (.cells e s rows true ap))
  (cS:rows[i]? =some row) (hy:g y=some a) (hk:cT P t=some k) (hl:a.cells.length=k) (hle:o+k<=row.length) (h1:a.cells.all AV.one=true):
  eT P g G aF ⟨dst,.store t x y,ty,pos,after,guard⟩ (.c undef) (aY G [(id,some (.cells e s (rows.set i (uR row o a.cells)) true ap))]):=fun E W ρ hG hn b9=>by
 have gX:=b9 x _ hx;have mL:=b9 y _ hy;generalize cY:ρ x=vx at gX;have wL:=mL.Dn;obtain⟨eS,iR,hv,u6⟩:=hG.write hg cS wL (o:=o) oM (wL.aZ8 h1) (P:=P)
 have dO:E.sz id=s:=(hG.ok id _ hg).2.1;cases gX with
 |ptr _ _ _ aC=>
 rw[<-dO]at iR;refine⟨_,undef,E,.inr ⟨?_,rfl⟩,hv,u6,.c _ rfl,fun _ h=> .inl h⟩
 have hr:=bb2 (P:=P) hk W _ ⟨E.ι id,i*E.sz id+o,none⟩ (ρ y) (by have:=wL.1;grind) iR
 simp_all [execOp,Instr.storeAt,Instr.sureAddr]
end
end Go.AL
namespace Go.AL
open Go.RowKit
theorem Tm{E:Env}{W:World}{xs:List AV}{cur:Array Value}(h:bP E W xs cur.toList):
  (∀(i:Nat) row,[xs][i]? =some row->row.length=xs.length)/\[xs].length*xs.length<=cur.size/\
  (∀(i j:Nat) row x,[xs][i]? =some row->row[j]? =some x->∃v,cur[i*xs.length+j]? =some v/\RV E W x v):=by
 refine⟨fun i row hr=> ?_,?_,fun i j row x hr hx=> ?_⟩
 ·grind
 ·have:=h.1;grind
 ·cases i with
  |zero=>
   simp at hr;subst hr;obtain⟨v,h1,h2⟩:=h.get hx
   grind
  |succ i=>simp at hr
def chunk(s:Nat):Nat->List AV->List (List AV)
 |0,_=> []
 |n+1,l=>l.take s::chunk s n (l.drop s)
theorem Tn(s n:Nat)(l:List AV):(chunk s n l).length=n:=by
 induction n generalizing l with
 |zero=>rfl
 |succ n ih=>simp[chunk,ih]
theorem Dt(s:Nat):∀(n:Nat) (l:List AV) (i:Nat),i<n->(chunk s n l)[i]? =some ((l.drop (i*s)).take s)
 |0,l,i,h=>by omega
 |n+1,l,0,h=>by simp[chunk]
 |n+1,l,i+1,h=>by
  simp only[chunk,CX];rw[Dt s n _ i oM,Iu,BC,Nat.add_comm s]
theorem bc7{E:Env}{W:World}{xs:List AV}{cur:Array Value}(h:bP E W xs cur.toList){s n:Nat}(hl:xs.length=n*s):
  (∀(i:Nat) row,(chunk s n xs)[i]? =some row->row.length=s)/\(chunk s n xs).length*s<=cur.size/\
  (∀(i j:Nat) row x,(chunk s n xs)[i]? =some row->row[j]? =some x->∃v,cur[i*s+j]? =some v/\RV E W x v):=by
 have bG:∀(i:Nat) row,(chunk s n xs)[i]? =some row->i<n:=fun i row hr=>by
  grind [Tn]
 refine⟨fun i row hr=> ?_,?_,fun i j row x hr hx=> ?_⟩
 ·have hi:=bG i row hr
  rw[Dt s n xs i hi]at hr;injection hr with hr
  subst hr;have:(i+1)*s<=n*s:=mO s hi
  grind
 ·have:=h.1;grind [Tn]
 ·have hi:=bG i row hr
  rw[Dt s n xs i hi]at hr;injection hr with hr
  subst hr;rw[pK]at hx;split at hx
  ·rw[vA]at hx
   obtain⟨v,h1,h2⟩:=h.get hx
   grind
  ·cases hx
def E8(place:Nat->Option (Nat×Nat))(cells:List AV):List (Nat×AV)->Option (List AV)
 |[]=>some cells
 |(i,v)::rest=>
  match place i with
  |none=>none
  |some (off,size)=>if v.cells.length=size/\off+size<=cells.length then E8 place (uR cells off v.cells) rest else none
theorem To(off:Nat):∀(vs:List Value) (k:Nat) (cs:Array Value),off+k+vs.length<=cs.size->
  ((vs.zipIdx k).foldl (fun(cs:Array Value) (x:Value×Nat)=>cs.setIfInBounds (off+x.2) x.1) cs).toList=cs.toList.take (off+k)++vs++cs.toList.drop (off+k+vs.length)
 |[],k,cs,h=>by simp
 |v::vs,k,cs,h=>by
  simp only[List.zipIdx_cons,EP];rw[To off vs (k+1) _ (by grind)]
  have e:=list_seg_step cs.toList (off+k) v vs oM
  simpa[Array.toList_setIfInBounds,TC]using e
theorem Du{E:Env}{W:World}{place:Nat->Option (Nat×Nat)}:∀(ps:List (Nat×AV)) (qs:List (Nat×Value)) (xs ys:List AV) (cs:Array Value),
  ps.length=qs.length->(∀(i:Nat) p q,ps[i]? =some p->qs[i]? =some q->p.1=q.1/\RV E W p.2 q.2)->bP E W xs cs.toList->E8 place xs ps=some ys->
  ∃ds,Instr.fill place cs qs=some ds/\bP E W ys ds.toList/\ys.length=xs.length
 |[],[],xs,ys,cs,_,_,hx,hf=>by simp only[E8,bM]at hf;subst hf;exact⟨cs,rfl,hx,rfl⟩
 |[],_::_,_,_,_,hl,_,_,_=>by simp at hl
 |_::_,[],_,_,_,hl,_,_,_=>by simp at hl
 |(i,a)::ps,(k,v)::qs,xs,ys,cs,hl,h,hx,hf=>by
  obtain⟨iJ,Tp⟩:=h 0 _ _ rfl rfl;simp only at iJ Tp;subst iJ;unfold E8 at hf;unfold Instr.fill;cases hp:place i with
  |none=>grind
  |some q=>
   obtain⟨off,size⟩:=q;simp only[hp]at hf⊢;split at hf
   ·rename_i hc
    have wL:=Tp.Dn;have Br:v.cells.size=size:=by have:=wL.1;simp at this;omega
    have pY:=hx.1;simp at pY;have fM:¬(v.cells.size≠size\/off+v.cells.size>cs.size):=oM
    have Tq:(v.cells.size !=size||decide (off+v.cells.size>cs.size))=false:=by simp;omega
    simp only[bne_iff_ne,ne_eq,GN,decide_eq_true_eq]at Tq⊢;rw[if_neg (by simp;omega)]
    have bc8:=To off v.cells.toList 0 cs (by simp;omega)
    have heq:(v.cells.zipIdx.foldl (fun(cs:Array Value) (x:Value×Nat)=>cs.setIfInBounds (off+x.2) x.1) cs).toList=cs.toList.take off++v.cells.toList++cs.toList.drop (off+v.cells.size):=by
     rw[<-Array.foldl_toList,Array.toList_zipIdx];simpa using bc8
    have nU:bP E W (uR xs off a.cells) (v.cells.zipIdx.foldl (fun(cs:Array Value) (x:Value×Nat)=>cs.setIfInBounds (off+x.2) x.1) cs).toList:=by
     rw[heq];have h1:=wL.1;simp at h1;unfold uR;rw[h1];exact((hx.take off).append wL).append (hx.drop _)
    obtain⟨ds,h1,h2,h3⟩:=Du ps qs _ ys _ (by grind) (fun i p q hp hq=>h (i+1) p q (by grind) (by grind)) nU hf
    grind [Tf]
   ·cases hf
def zG(g:Operand->Option AV):List (Nat×Operand)->Option (List (Nat×AV))
 |[]=>some []
 |(i,x)::r=>match g x,zG g r with
  |some a,some l=>some ((i,a)::l)
  |_,_=>none
theorem Dv{E:Env}{W:World}{g:Operand->Option AV}{ρ:Operand->Value}(b9:∀x b,g x=some b->RV E W b (ρ x)):∀(ps:List (Nat×Operand)) (as:List (Nat×AV)),zG g ps=some as->
  as.length=(ps.map fun(i,x)=>(i,ρ x)).length/\∀(i:Nat) p q,as[i]? =some p->(ps.map fun(i,x)=>(i,ρ x))[i]? =some q->p.1=q.1/\RV E W p.2 q.2
 |[],as,h=>by simp_all [zG]
 |(i,x)::r,as,h=>by
  simp only[zG]at h;split at h
  ·rename_i a l ha hl
   injection h with h
   subst h;obtain⟨h1,h2⟩:=Dv b9 r l hl
   grind
  ·cases h
def dD(P:Program)(t:TypeId):Nat->Option (Nat×Nat):=
 match P.underlying t with
 |some (.struct fs)=>fun i=>(fs[i]?).bind fun f=>(cT P f.type).map fun k=>(f.offset,k)
 |some (.array _ e)=>match cT P e with
  |some k=>fun i=>some (i*k,k)
  |none=>fun _=>none
 |_=>fun _=>none
def k8(P:Program)(t:TypeId):Bool:=
 match P.underlying t with
 |some (.struct fs)=>fs.toList.all fun f=>(cT P f.type).isSome
 |some (.array _ e)=>(cT P e).isSome
 |_=>false
theorem J3{P:Program}{t:TypeId}{zs:List AV}(h:eX P t=some zs):∃i z,P.info? t=some i/\i.zero=some z/\(∀E W,bP E W zs z.cells.toList):=by
 unfold eX at h;cases hi:P.info? t with
 |none=>grind
 |some i=>
  cases hz:i.zero with
  |none=>grind
  |some z=>
   simp only[hi,Iv,hz]at h;split at h
   ·rename_i lC
    injection h with h
    subst h;simp_all [bP.aZ7]
   ·cases h
theorem Tr{P:Program}(w:World):∀(fs:List Field),(fs.all fun f=>(cT P f.type).isSome)=true->
  (fs.mapM (fun f=>do pure (f.offset,<-sizeOf f.type):Field->Sem (Nat×Nat))).run P w= .ok (fs.map fun f=>(f.offset,(cT P f.type).getD 0)) w
 |[],_=>rfl
 |f::fs,h=>by
  simp only[KI,jF]at h;obtain⟨k,hk⟩:=YD.1 h.1;have ih:=Tr w fs h.2;simp_all [run_sizeOf]
theorem bc9{P:Program}{t:TypeId}{i:TypeInfo}{z:Value}(hi:P.info? t=some i)(hz:i.zero=some z)(hb:k8 P t=true)(qs:Array (Nat×Value))(ds:Array Value)
  (hf:Instr.fill (dD P t) z.cells qs.toList=some ds) (w:World):(Instr.build t qs).run P w= .ok (.agg ds) w:=by
 unfold k8 at hb;have hzv:(zeroValue t).run P w= .ok z w:=by simp[zeroValue,run_typeInfo hi,hz]
 split at hb
 ·rename_i fs hu
  have hm:=Tr (P:=P) w fs.toList hb
  have tI:(fs.mapM (fun f=>do pure (f.offset,<-sizeOf f.type):Field->Sem (Nat×Nat))).run P w= .ok (fs.toList.map fun f=>(f.offset,(cT P f.type).getD 0)).toArray w:=by
   rw[bI0,Sem.run_map,hm];rfl
  have hp:dD P t=fun i=>(fs.toList.map fun f=>(f.offset,(cT P f.type).getD 0)).toArray[i]? :=by
   funext k
   simp only[dD,hu,CZ,kJ,OU];cases hk:fs[k]? with
   |none=>rfl
   |some f=>
    grind [Option.isSome_iff_exists]
  simp_all [Instr.build,run_underlying]
 ·rename_i n e hu
  obtain⟨s,hs⟩:=YD.1 hb;simp_all [dD,Instr.build,run_underlying,run_sizeOf]
 ·cases hb
section
variable {P : Program} {g : Operand -> Option AV} {G : Nat -> Option aI} {aF : Nat} {dst : Option Tmp} {ty : TypeId} {pos : String} {after : Array Edge} {guard : Option (Nat × Bool)}
theorem bd1{t:TypeId}{zs:List AV}(hz:eX P t=some zs):
  eT P g G aF ⟨dst,.alloc t,ty,pos,after,guard⟩ (.ptr aF 0 0) (aY G [(aF,some (.cells t zs.length [zs] true false))]):=fun E W ρ hG hn b9=>by
 obtain⟨i,z,hi,wY,hr⟩:=J3 hz;obtain⟨h1,h2,h3⟩:=Tm (hr E W);refine⟨_,.pointer (some ⟨W.heap.size,0,none⟩),_,.inl ?_,bE.alloc hG hn (.cells z.cells t) zs.length,hG.alloc hn t z.cells zs.length [zs] true false h1 h2 h3,?_,fun id h=>h.imp (fun h=>h) (fun e=>⟨e,by simp[aY]⟩)⟩
 ·simp[execOp,Instr.alloc,zeroValue,run_typeInfo hi,wY,newVar,newRow]
 ·have:=RV.ptr (E:=E.more aF W.heap.size zs.length) (W:=W.alloc (.cells z.cells t)) aF 0 0 (.inr rfl)
  grind [Env.more]
theorem bd2{t:TypeId}{x:Operand}{a:AV}(hx:g x=some a):
  eT P g G aF ⟨dst,.box t x,ty,pos,after,guard⟩ (.ptr aF 0 0) (aY G [(aF,some (.cells t a.cells.length [a.cells] true false))]):=fun E W ρ hG hn b9=>by
 obtain⟨h1,h2,h3⟩:=Tm (b9 x a hx).Dn;refine⟨_,.pointer (some ⟨W.heap.size,0,none⟩),_,.inl ?_,bE.alloc hG hn (.cells (ρ x).cells t) a.cells.length,hG.alloc hn t (ρ x).cells a.cells.length [a.cells] true false h1 h2 h3,?_,fun id h=>h.imp (fun h=>h) (fun e=>⟨e,by simp[aY]⟩)⟩
 ·rfl
 ·have:=RV.ptr (E:=E.more aF W.heap.size a.cells.length) (W:=W.alloc (.cells (ρ x).cells t)) aF 0 0 (.inr rfl)
  grind [Env.more]
theorem bd3{t:TypeId}{parts:Array (Nat×Operand)}{zs:List AV}{ps:List (Nat×AV)}{ys:List AV}(hz:eX P t=some zs)(hb:k8 P t=true)(hp:zG g parts.toList=some ps)
  (hf:E8 (dD P t) zs ps=some ys):eT P g G aF ⟨dst,.build t parts,ty,pos,after,guard⟩ (.agg ys) G:=
 .still fun E W ρ hG b9=>by
   obtain⟨i,z,hi,wY,hr⟩:=J3 hz;obtain⟨h1,h2⟩:=Dv b9 parts.toList ps hp;obtain⟨ds,h3,h4,_⟩:=Du ps _ zs ys z.cells h1 h2 (hr E W) hf;refine⟨.agg ds,?_,.agg _ _ (by simpa using h4.1) fun i x v hx hv=>h4.2 i x v hx (by grind)⟩
   simp_all [execOp,bc9]
theorem vX{t e:TypeId}{k:Nat}(h:fB P t=some (e,k)):P.underlying t=some (.slice e)/\cT P e=some k:=by
 unfold fB at h;split at h
 ·rename_i e' hu
  cases hk:cT P e' with
  |none=>grind
  |some k'=>grind
 ·cases h
theorem R9{t e:TypeId}{n k:Nat}(h:r4 P t=some (n,e,k)):P.underlying t=some (.array n e)/\cT P e=some k:=by
 unfold r4 at h;split at h
 ·rename_i n' e' hu
  cases hk:cT P e' with
  |none=>grind
  |some k'=>grind
 ·cases h
theorem bd4{zs:List AV}{vs:Array Value}{E:Env}{W:World}(h:bP E W zs vs.toList)(len:Nat):
  bP E W (List.replicate len zs).flatten ((Array.range (len*vs.size)).map (fun i=>vs[i % vs.size]!)).toList:=by
 have hl:=h.1;simp at hl
 have key:∀len,((Array.range (len*vs.size)).map (fun i=>vs[i % vs.size]!)).toList=(List.replicate len vs.toList).flatten:=by
  intro len;apply ET;intro i
  have lK:∀len,(List.replicate len vs.toList).flatten.length=len*vs.size:=by
   intro len;simp
  by_cases hi:i<len*vs.size
  ·have hs:0<vs.size:=by rcases Ir vs.size with h0|h0<;>simp_all
   have:∀(len i:Nat),i<len*vs.size->(List.replicate len vs.toList).flatten[i]? =vs[i % vs.size]? :=by
    intro len
    induction len with
    |zero=>omega
    |succ len ih=>
     grind [Nat.mod_eq_of_lt,List.getElem?_append_right,Nat.mod_eq_sub_mod]
   grind
  ·grind
 rw[key]
 induction len with
 |zero=>exact .nil
 |succ len ih=>simp only[Ia,YB];exact h.append ih
theorem bd5{t e:TypeId}{k len:Nat}{parts:Array (Nat×Operand)}{zs:List AV}{ps:List (Nat×AV)}{ys:List AV}(ht:fB P t=some (e,k))(hz:eX P e=some zs)(J4:zs.length=k)
  (ca2:len*k<=16777216) (hp:zG g parts.toList=some ps) (hf:E8 (fun i=>some (i*k,k)) (List.replicate len zs).flatten ps=some ys):
  eT P g G aF ⟨dst,.buildSlice t len parts,ty,pos,after,guard⟩ (.own aF 0 len) (aY G [(aF,some (.cells e k (chunk k len ys) true true))]):=fun E W ρ hG hn b9=>by
 obtain⟨hu,hk⟩:=vX ht;obtain⟨i,z,hi,wY,hr⟩:=J3 hz;obtain⟨h1,h2⟩:=Dv b9 parts.toList ps hp;have QF:z.cells.size=k:=by have:=(hr E W).1;simp at this;omega
 have Ts:=bd4 (hr E W) len;rw[QF]at Ts;obtain⟨ds,h3,h4,h5⟩:=Du ps _ _ ys _ h1 h2 Ts hf;have Dw:ys.length=len*k:=by rw[h5];simp[J4]
 obtain⟨h6,h7,h8⟩:=bc7 h4 Dw;have hds:ds.size=len*k:=by have:=h4.1;simp at this;omega
 refine⟨_,.slice (some ⟨W.heap.size,0,none⟩) len len,_,.inl ?_,bE.alloc hG hn (.cells ds e) k,hG.alloc hn e ds k _ true true h6 h7 h8,?_,fun id h=>h.imp (fun h=>h) (fun e=>⟨e,by simp[aY]⟩)⟩
 ·have hgt:¬(len*k>2 ^ 24):=oM
  simp only[execOp,Instr.buildSlice,Sem.run_bind,run_underlying hu,run_sizeOf hk,Result.andThen_ok,hgt,if_false,Sem.run_ite]
  have Dx:∀c:Array Value,(Array.range (len*k)).map (fun i=>c[i % c.size]!)=(Array.range (len*k)).map (fun i=>z.cells[i % k]!)->Instr.fill (fun i=>some (i*k,k)) ((Array.range (len*k)).map (fun i=>c[i % c.size]!)) (parts.map fun(i,x)=>(i,ρ x)).toList=some ds:=by
   intro c hc;rw[hc];simpa using h3
  by_cases h0:len*k=0
  ·simp only[h0,if_true,Sem.run_pure,Result.andThen_ok]
   have:=Dx #[] (by grind)
   rw[h0]at this;simp only[Iw]at this;simp only[Iw,this,newRow,Sem.run_bind,run_newObj_alloc,Result.andThen_ok,Sem.run_pure,Sem.run_map]
  ·simp only[h0,if_false,zeroValue,Sem.run_bind,run_typeInfo hi,Result.andThen_ok,wY,Sem.run_pure]
   have:=Dx z.cells (by rw[QF])
   simp only[Iw]at this;simp only[Iw,this,newRow,Sem.run_bind,run_newObj_alloc,Result.andThen_ok,Sem.run_pure,Sem.run_map]
 ·have:=RV.own (E:=E.more aF W.heap.size k) (W:=W.alloc (.cells ds e)) aF 0 len len (.inr rfl) (cA _) ⟨ds,e,(0,0),by simp only[Env.more,if_true];exact heap_alloc_new W _,by grind [Env.more]⟩
  grind [Env.more]
end
end Go.AL
namespace Go.AL
open Go.RowKit
section
variable {P : Program} {g : Operand -> Option AV} {G : Nat -> Option aI} {aF : Nat} {dst : Option Tmp} {ty : TypeId} {pos : String} {after : Array Edge} {guard : Option (Nat × Bool)}
theorem Tt{t e:TypeId}{k:Nat}(ht:fB P t=some (e,k))(b p len cap:Nat)(ik:IntKind)(i:Int)(h0:0<=i)(h1:i<len)(w:World):
  (Instr.indexAt t (.slice (some ⟨b,p,none⟩) len cap) (.int ik i)).run P w= .ok (.pointer (some ⟨b,p+i.toNat*k,none⟩)) w:=by
 obtain⟨hu,hk⟩:=vX ht;simp[Instr.indexAt,run_underlying hu,asIntOf,h0,h1,run_sizeOf hk,Addr.add_lit]
theorem Tu{t e:TypeId}{n k:Nat}(ht:r4 P t=some (n,e,k))(b p:Nat)(ik:IntKind)(i:Int)(h0:0<=i)(h1:i<n)(w:World):
  (Instr.indexAt t (.pointer (some ⟨b,p,none⟩)) (.int ik i)).run P w= .ok (.pointer (some ⟨b,p+i.toNat*k,none⟩)) w:=by
 obtain⟨hu,hk⟩:=R9 ht;simp[Instr.indexAt,run_underlying hu,asIntOf,h0,h1,run_sizeOf hk,Addr.add_lit,Instr.sureAddr]
theorem bd7{t e:TypeId}{k:Nat}{x y:Operand}{id off len:Nat}{ik:IntKind}{i:Int}{e':TypeId}{rows:List (List AV)}{w ap:Bool}(ht:fB P t=some (e,k))(hx:g x=some (.own id off len))(hy:g y=some (.c (.int ik i)))
  (hg:G id=some (.cells e' k rows w ap)) (h0:0<=i) (h1:i<len):
  eT P g G aF ⟨dst,.indexAddr t x y,ty,pos,after,guard⟩ (.ptr id (off+i.toNat) 0) G:=
 .still fun E W ρ hG b9=>by
   have h2:=b9 x _ hx;have h3:=b9 y _ hy;generalize cY:ρ x=vx at h2;generalize mK:ρ y=vy at h3;cases h3;have dO:E.sz id=k:=(hG.ok id _ hg).2.1;cases h2 with
   |own _ _ _ cap aC eI hs=>
    refine⟨_,by simp only[execOp,cY,mK];rw[Sem.run_bind,Tt ht _ _ _ _ _ _ h0 h1];rfl,?_⟩
    have:=RV.ptr (E:=E) (W:=W) id (off+i.toNat) 0 aC
    grind
   |mB _ _ a aC=>omega
theorem bd8{t e:TypeId}{k:Nat}{x y:Operand}{rows:List (List AV)}{ik:IntKind}{i:Int}{row:List AV}(ht:fB P t=some (e,k))(hx:g x=some (.snap rows))(hy:g y=some (.c (.int ik i)))
  (h0:0<=i) (hr:rows[i.toNat]? =some row) (hk:row.length=k):
  eT P g G aF ⟨dst,.indexAddr t x y,ty,pos,after,guard⟩ (.cH rows i.toNat 0) G:=
 .still fun E W ρ hG b9=>by
   have h2:=b9 x _ hx;have h3:=b9 y _ hy;generalize cY:ρ x=vx at h2;generalize mK:ρ y=vy at h3;cases h3;have bG:i.toNat<rows.length:=(fT.1 hr).1;cases h2 with
   |snap _ b off s n cap vs hn pH hs hL hc Tv=>
    have uP:s=k:=by rw[<-hk];exact(hs _ _ hr).symm
    subst uP;refine⟨_,by simp only[execOp,cY,mK];rw[Sem.run_bind,Tt ht _ _ _ _ _ _ h0 oM];rfl,?_⟩
    have:=RV.cH (E:=E) (W:=W) rows i.toNat 0 b off s vs hs hL hc Tv;omega
   |kP a cap=>simp at bG
theorem bd9{t e:TypeId}{n k:Nat}{x y:Operand}{id r o:Nat}{ik:IntKind}{i:Int}(ht:r4 P t=some (n,e,k))(hx:g x=some (.ptr id r o))(hy:g y=some (.c (.int ik i)))(h0:0<=i)(h1:i<n):
  eT P g G aF ⟨dst,.indexAddr t x y,ty,pos,after,guard⟩ (.ptr id r (o+i.toNat*k)) G:=
 .still fun E W ρ hG b9=>by
   have h2:=b9 x _ hx;have h3:=b9 y _ hy;generalize cY:ρ x=vx at h2;generalize mK:ρ y=vy at h3;cases h3;cases h2 with
   |ptr _ _ _ aC=>
   refine⟨_,by simp only[execOp,cY,mK];rw[Sem.run_bind,Tu ht _ _ _ _ h0 h1];rfl,?_⟩
   rw[TC];exact .ptr id r _ aC
theorem be0{t e:TypeId}{n k:Nat}{x y:Operand}{rows:List (List AV)}{r o:Nat}{ik:IntKind}{i:Int}(ht:r4 P t=some (n,e,k))(hx:g x=some (.cH rows r o))(hy:g y=some (.c (.int ik i)))(h0:0<=i)(h1:i<n):
  eT P g G aF ⟨dst,.indexAddr t x y,ty,pos,after,guard⟩ (.cH rows r (o+i.toNat*k)) G:=
 .still fun E W ρ hG b9=>by
   have h2:=b9 x _ hx;have h3:=b9 y _ hy;generalize cY:ρ x=vx at h2;generalize mK:ρ y=vy at h3;cases h3;cases h2 with
   |cH _ _ _ b p s vs hs hL hc hr=>
   refine⟨_,by simp only[execOp,cY,mK];rw[Sem.run_bind,Tu ht _ _ _ _ h0 h1];rfl,?_⟩
   have:=RV.cH (E:=E) (W:=W) rows r (o+i.toNat*k) b p s vs hs hL hc hr
   grind
theorem be1{t e:TypeId}{n k:Nat}{x y:Operand}{xs:List AV}{ik:IntKind}{i:Int}{a:AV}(ht:r4 P t=some (n,e,k))(hx:g x=some (.agg xs))(hy:g y=some (.c (.int ik i)))(h0:0<=i)(h1:i<n)
  (hp:qL P e xs (i.toNat*k)=some a):eT P g G aF ⟨dst,.index t x y,ty,pos,after,guard⟩ a G:=
 .still fun E W ρ hG b9=>by
   have h2:=b9 x _ hx;have h3:=b9 y _ hy;generalize cY:ρ x=vx at h2;generalize mK:ρ y=vy at h3;cases h3;cases h2 with
   |agg _ vs hl h=>
   obtain⟨hu,hk⟩:=R9 ht;obtain⟨v,h4,h5⟩:=M7 (P:=P) (E:=E) (W:=W) (vs:=vs) ⟨oM,fun i x v hx hv=>h i x v hx (by grind)⟩ hp
   simp_all [execOp,Instr.index,run_underlying,asIntOf,run_sizeOf]
theorem be2{t:TypeId}{x y:Operand}{s:ByteArray}{ik:IntKind}{i:Int}{b:UInt8}(ht:mP P t isString=true)(hx:g x=some (.c (.string s)))(hy:g y=some (.c (.int ik i)))(h0:0<=i)(hb:s[i.toNat]? =some b):
  eT P g G aF ⟨dst,.index t x y,ty,pos,after,guard⟩ (.c (.int .u8 b.toNat)) G:=
 .still fun E W ρ hG b9=>by
   have h2:=b9 x _ hx;have h3:=b9 y _ hy;generalize cY:ρ x=vx at h2;generalize mK:ρ y=vy at h3;cases h3;cases h2
   have hu:P.underlying t=some .string:=by
    unfold mP at ht;cases hu:P.underlying t with
    |none=>grind
    |some d=>grind [isString]
   exact⟨_,by simp_all [execOp,Instr.index,run_underlying,asIntOf],.c _ rfl⟩
theorem be3{t e:TypeId}{k:Nat}(ht:fB P t=some (e,k))(ty:TypeId)(base:Option Addr)(n c:Nat)(w:World):(Builtin.len_ #[t] ty #[.slice base n c]).run P w= .ok (.int .i64 n) w:=by
 simp[Builtin.len_,run_underlying (vX ht).1,goInt]
theorem zH{ρ:Operand->Value}(b:Builtin)(as:Array Operand)(ts:Array TypeId):execOp ρ ⟨dst,.call ⟨.builtin b,as,ts⟩,ty,pos,after,guard⟩=builtin b ts ty (as.map fun| .const _=>true|_=>false) (as.map ρ):=rfl
def RD:AV->Option Nat
 | .c (.slice _ 0 _)=>some 0
 | .snap rows=>some rows.length
 | .own _ _ len=>some len
 | .sub _ _ _ len=>some len
 |_=>none
theorem be4{E:Env}{W:World}{a:AV}{v:Value}(r:RV E W a v){n:Nat}(h:RD a=some n):∃base cap,v= .slice base n cap/\n<=cap:=by
 unfold RD at h;split at h<;>simp only[bM,reduceCtorEq]at h
 ·subst h;cases r;grind
 ·subst h
  cases r with
  |snap _ b off s n cap vs hn pH=>subst hn;grind
  |kP a cap=>simp_all
 ·subst h
  cases r with
  |own _ _ _ cap aC eI hs=>grind
  |mB _ _ a aC=>grind
 ·subst h
  cases r with
  |sub _ _ _ _ cap aC eI hs=>grind
theorem be5{t e:TypeId}{k n:Nat}{x:Operand}{a:AV}(ht:fB P t=some (e,k))(hx:g x=some a)(hn:RD a=some n):
  eT P g G aF ⟨dst,.call ⟨.builtin .len,#[x],#[t]⟩,ty,pos,after,guard⟩ (.c (.int .i64 n)) G:=
 .still fun E W ρ hG b9=>by
   obtain⟨base,cap,hv,_⟩:=be4 (b9 x a hx) hn;refine⟨_,?_,.c _ rfl⟩;rw[zH];simp only[builtin,T9,qE,GU,hv];rw[Sem.run_bind,be3 ht];rfl
theorem be6{t:TypeId}{x:Operand}{s:ByteArray}(ht:mP P t isString=true)(hx:g x=some (.c (.string s))):
  eT P g G aF ⟨dst,.call ⟨.builtin .len,#[x],#[t]⟩,ty,pos,after,guard⟩ (.c (.int .i64 s.size)) G:=
 .still fun E W ρ hG b9=>by
   have h2:=b9 x _ hx;generalize cY:ρ x=vx at h2;cases h2
   have hu:P.underlying t=some .string:=by
    unfold mP at ht;cases hu:P.underlying t with
    |none=>grind
    |some d=>grind [isString]
   refine⟨_,?_,.c _ rfl⟩;simp_all [zH,builtin,Builtin.len_,run_underlying,goInt]
theorem be7{ts:Array TypeId}{x y:Operand}{k k':IntKind}{a b:Int}(hx:g x=some (.c (.int k a)))(hy:g y=some (.c (.int k' b))):
  eT P g G aF ⟨dst,.call ⟨.builtin .max,#[x,y],ts⟩,ty,pos,after,guard⟩ (.c (.int k (if b>a then b else a))) G:=
 .still fun E W ρ hG b9=>by
   have h2:=b9 x _ hx;have h3:=b9 y _ hy;generalize cY:ρ x=vx at h2;generalize mK:ρ y=vy at h3;cases h2;cases h3;refine⟨_,?_,.c _ rfl⟩;simp_all [zH,builtin,run_max_int2]
theorem be8{ts:Array TypeId}{x y:Operand}{k k':IntKind}{a b:Int}(hx:g x=some (.c (.int k a)))(hy:g y=some (.c (.int k' b))):
  eT P g G aF ⟨dst,.call ⟨.builtin .min,#[x,y],ts⟩,ty,pos,after,guard⟩ (.c (.int k (if b<a then b else a))) G:=
 .still fun E W ρ hG b9=>by
   have h2:=b9 x _ hx;have h3:=b9 y _ hy;generalize cY:ρ x=vx at h2;generalize mK:ρ y=vy at h3;cases h2;cases h3;refine⟨_,?_,.c _ rfl⟩;simp_all [zH,builtin,run_min_int2]
def iG(g:Operand->Option AV)(d:Int):Option Operand->Option Int
 |none=>some d
 |some x=>match g x with
  |some (.c (.int _ n))=>some n
  |_=>none
theorem J5{E:Env}{W:World}{ρ:Operand->Value}(b9:∀x b,g x=some b->RV E W b (ρ x)){d n:Int}{lo:Option Operand}(h:iG g d lo=some n):
  (lo=none/\n=d)\/∃k,lo.map ρ=some (.int k n):=by
 unfold iG at h;split at h
 ·grind
 ·rename_i x
  split at h
  ·rename_i k n' hx
   injection h with h
   subst h;have:=b9 x _ hx;generalize cY:ρ x=vx at this;cases this
   grind
  ·cases h
theorem RE{ρ:Operand->Value}{E:Env}{W:World}(b9:∀x b,g x=some b->RV E W b (ρ x)){t e:TypeId}{k:Nat}(ht:fB P t=some (e,k))(base:Option Addr)(len cap:Nat){lo hi:Option Operand}{l h:Int}
  (hl:iG g 0 lo=some l) (hh:iG g len hi=some h) (h0:0<=l) (h1:l<=h) (h2:h<=cap):
  (Instr.sliceAt t (.slice base len cap) (lo.map ρ) (hi.map ρ) none).run P W= .ok (.slice (if(cap:Int)=l then base else base.map (·.add (l.toNat*k))) (h-l).toNat (cap-l.toNat)) W:=by
 obtain⟨hu,hk⟩:=vX ht;have hb:(cap=l.toNat)↔((cap:Int)=l):=oM
 have e1:h.toNat-l.toNat=(h-l).toNat:=oM
 rcases J5 b9 hl with⟨rfl,rfl⟩|⟨kl,tG⟩<;>rcases J5 b9 hh with⟨rfl,rfl⟩|⟨kh,E9⟩
 ·simp[Instr.sliceAt,run_underlying hu,Instr.slice,Instr.sliceBounds,run_sizeOf hk]
  try (by_cases hc:cap=0<;>simp[hc])
 ·simp[Instr.sliceAt,run_underlying hu,Instr.slice,Instr.sliceBounds,run_sizeOf hk,E9,Instr.sliceBound,asIntOf,h1,h2]
  try (by_cases hc:cap=0<;>simp[hc])
 ·simp[Instr.sliceAt,run_underlying hu,Instr.slice,Instr.sliceBounds,run_sizeOf hk,tG,Instr.sliceBound,asIntOf,h0,h1]
  grind
 ·have h3:0<=h:=oM
  have h4:l<=max h 0:=oM
  simp[Instr.sliceAt,run_underlying hu,Instr.slice,Instr.sliceBounds,run_sizeOf hk,tG,E9,Instr.sliceBound,asIntOf,h0,h1,h2,h3,h4]
  grind
theorem be9{t e:TypeId}{k:Nat}{x:Operand}{rows:List (List AV)}{lo hi:Option Operand}{l h:Int}(ht:fB P t=some (e,k))(hx:g x=some (.snap rows))(hl:iG g 0 lo=some l)(hh:iG g rows.length hi=some h)
  (h0:0<=l) (h1:l<=h) (h2:h<=rows.length) (hw:rows.all (fun r=>r.length==k)=true):
  eT P g G aF ⟨dst,.slice t x lo hi none,ty,pos,after,guard⟩ (.snap ((rows.drop l.toNat).take (h-l).toNat)) G:=
 .still fun E W ρ hG b9=>by
   have h3:=b9 x _ hx;generalize cY:ρ x=vx at h3;cases h3 with
   |kP a cap=>
    simp at h2;refine⟨_,by simp only[execOp,cY,KN];rw[Sem.run_bind,RE b9 ht a 0 cap hl (show iG g ((0:Nat):Int) hi=some h from hh) h0 h1 oM];rfl,?_⟩
    have:(h-l).toNat=0:=oM
    rw[this];simp;exact .kP _ _
   |snap _ b off s n cap vs hn pH hs hL hc hr=>
    subst hn;refine⟨_,by simp only[execOp,cY,KN];rw[Sem.run_bind,RE b9 ht _ rows.length cap hl hh h0 h1 oM];rfl,?_⟩
    by_cases hz:h=l
    ·have:(h-l).toNat=0:=oM
     rw[this];simp;exact .kP _ _
    ·have aT:¬((cap:Int)=l):=oM
     rw[if_neg aT];have bG:l.toNat<rows.length:=oM
     have uP:s=k:=by
      have h4:=hs l.toNat _ (gY bG);have h5:=iM.1 hw _ (EN bG);simp at h5;omega
     subst uP
     have hmul:l.toNat*s+(h-l).toNat*s<=rows.length*s:=by
      rw[<-wE];exact mO s oM
     have hlen:((rows.drop l.toNat).take (h-l).toNat).length=(h-l).toNat:=by simp;omega
     have dQ:∀(i:Nat) row,((rows.drop l.toNat).take (h-l).toNat)[i]? =some row->rows[l.toNat+i]? =some row:=fun i row hr=>by
      grind
     have:=RV.snap (E:=E) (W:=W) ((rows.drop l.toNat).take (h-l).toNat) b (off+l.toNat*s) s (h-l).toNat (cap-l.toNat) (fun i j=>vs (l.toNat+i) j) hlen.symm oM (fun i row hr=>hs _ row (dQ i row hr)) (by grind)
      (fun i j row x h4 h5=>by grind) (fun i j row x h4 h5=>hr _ j row x (dQ i row h4) h5)
     grind [Addr.add_lit]
theorem bf0{t e:TypeId}{k:Nat}{x:Operand}{id off len:Nat}{e':TypeId}{rows:List (List AV)}{w ap:Bool}{lo hi:Option Operand}{l h:Int}(ht:fB P t=some (e,k))(hx:g x=some (.own id off len))(hg:G id=some (.cells e' k rows w ap))
  (hl:iG g 0 lo=some l) (hh:iG g len hi=some h) (h0:0<=l) (h1:l<=h) (h2:h<=len):
  eT P g G aF ⟨dst,.slice t x lo hi none,ty,pos,after,guard⟩ (.own id (off+l.toNat) (h-l).toNat) G:=
 .still fun E W ρ hG b9=>by
   have h3:=b9 x _ hx;generalize cY:ρ x=vx at h3;have dO:E.sz id=k:=(hG.ok id _ hg).2.1;cases h3 with
   |own _ _ _ cap aC eI hs=>
    refine⟨_,by simp only[execOp,cY,KN];rw[Sem.run_bind,RE b9 ht _ len cap hl hh h0 h1 oM];rfl,?_⟩
    by_cases hc:(cap:Int)=l
    ·rw[if_pos hc]
     have e1:(h-l).toNat=0:=oM
     have e2:cap-l.toNat=0:=oM
     rw[e1,e2];exact .mB _ _ _ aC
    ·rw[if_neg hc]
     obtain⟨cur,e2,f,h4,h5⟩:=hs;have:=RV.own (E:=E) (W:=W) id (off+l.toNat) (h-l).toNat (cap-l.toNat) aC oM ⟨cur,e2,f,h4,by grind⟩
     grind [Addr.add_lit]
   |mB _ _ a aC=>
    refine⟨_,by simp only[execOp,cY,KN];rw[Sem.run_bind,RE b9 ht _ 0 0 hl (show iG g ((0:Nat):Int) hi=some h from hh) h0 h1 oM];rfl,?_⟩
    grind
end
end Go.AL
namespace Go.AL
open Go.RowKit
def aI.le:aI->aI->Prop
 | .cells e s rows w a,.cells e' s' dU w' a'=>e=e'/\s=s'/\rows=dU/\(w=true->w'=true)/\(a=true->a'=true)
 | .map es,.map es'=>es=es'
 | .iter m n s,.iter m' n' s'=>m=m'/\n=n'/\s=s'
 | .cJ a b c d e f g,.cJ a' b' c' d' e' f' g'=>(∀t x,lk a t=some x->lk a' t=some x)/\b=b'/\c=c'/\d=d'/\e=e'/\f=f'/\g=g'
 |_,_=>False
theorem aI.le_refl(b:aI):b.le b:=by
 cases b with
 |map es=>exact rfl
 |iter=>exact⟨rfl,rfl,rfl⟩
 |cJ=>exact⟨fun _ _ h=>h,rfl,rfl,rfl,rfl,rfl,rfl⟩
 |cells e s rows w a=>exact⟨rfl,rfl,rfl,fun h=>h,fun h=>h⟩
theorem RC.M8{E:Env}{W:World}{G G':Nat->Option aI}(hG:RC E W G)(h:∀id b',G' id=some b'->∃b,G id=some b/\b'.le b):RC E W G' where
 lim:=hG.lim
 eJ:=hG.eJ
 ok:=fun id b' hb=>by
  obtain⟨b,h1,h2⟩:=h id b' hb;obtain⟨hU,eC⟩:=hG.ok id b h1;refine⟨hU,?_⟩;cases b' with
  |map es=>
   cases b with
   |cells=>exact h2.elim
   |cJ=>exact h2.elim
   |iter=>exact h2.elim
   |map es0=>
   obtain rfl:es=es0:=h2;obtain⟨h3,h4,h5⟩:=eC;refine⟨h3,h4,fun aL eY aT hg=> ?_⟩
   grind
  |iter=>
   cases b with
   |cells=>exact h2.elim
   |cJ=>exact h2.elim
   |map=>exact h2.elim
   |iter=>
   obtain⟨rfl,rfl,rfl⟩:=h2;obtain⟨h3,h4,h5⟩:=eC;refine⟨h3,h4,fun aL eY aT hg=> ?_⟩
   grind
  |cJ=>
   cases b with
   |cells=>exact h2.elim
   |map=>exact h2.elim
   |iter=>exact h2.elim
   |cJ=>
   obtain⟨hle,rfl,rfl,rfl,rfl,rfl,rfl⟩:=h2;obtain⟨⟨fn,tmps,D,Ca,h32,h33⟩,h4,h5⟩:=eC;refine⟨⟨fn,tmps,D,Ca,h32,fun t c a ha=>h33 t c a (hle _ _ ha)⟩,h4,fun aL eY aT hg=> ?_⟩
   grind
  |cells e s rows w a=>
  cases b with
  |map es=>exact h2.elim
  |cJ=>exact h2.elim
  |iter=>exact h2.elim
  |cells e' s' dU w' a'=>
  obtain⟨rfl,rfl,rfl,hw,ha⟩:=h2;obtain⟨h3,h4,h5,h6,h7⟩:=eC;refine⟨h3,h4,h5,fun Dy=> ?_,fun haa=> ?_⟩
  ·grind
  ·obtain⟨h8,h9⟩:=h7 (ha haa)
   refine⟨h8,fun aL eY aT hg he=> ?_⟩
   obtain⟨b0,fG,mR⟩:=h aL eY hg;obtain⟨u2,D6⟩:=h9 aL b0 aT fG he;cases eY with
   |map es=>exact⟨qV _,rfl⟩
   |cJ=>exact⟨qV _,rfl⟩
   |iter=>exact⟨qV _,rfl⟩
   |cells e1 s1 r1 w1 a1=>
   cases b0 with
   |map es=>exact mR.elim
   |cJ=>exact mR.elim
   |iter=>exact mR.elim
   |cells e2 s2 r2 w2 a2=>
   obtain⟨rfl,rfl,rfl,_,R7⟩:=mR;refine⟨u2,?_⟩
   grind [aI.app]
theorem bE.share{E:Env}{W:World}{id aF:Nat}(hU:E.U id)(hn:¬E.U aF)(s:Nat):bE E W (E.more aF (E.ι id) s) W where
 os:=rfl
 tape:=rfl
 output:=rfl
 size:=cA _
 used:=fun id h=> .inl h
 jK:=fun id h=>by
  grind [Env.more]
 lim:=fun b=>cA _
 wV:=fun b k hk=>rfl
 rJ:=fun b hb _=>rfl
 aR:=fun b cur e f h=>⟨cur,f,h,rfl⟩
 still:=fun _ _ _=>rfl
 fresh:=fun aL h1 h2=>by
  grind [Env.more]
 loops:=fun b r h=>⟨r,h,rfl⟩
def zI(e:TypeId)(k:Nat)(rows:List (List AV))(w:Bool):Option aI:=if w then none else some (.cells e k rows false false)
theorem RC.share{E:Env}{W:World}{G:Nat->Option aI}(hG:RC E W G){id aF:Nat}(hn:¬E.U aF){e:TypeId}{k:Nat}{rows G3:List (List AV)}{w:Bool}(hg:G id=some (.cells e k rows w true))
  {cur eS:Array Value} (cV:W.heap[E.ι id]? =some (Obj.cells cur e (0,0))) (dO:eS.size=cur.size) (hp:∀q,q<rows.length*k->eS[q]? =cur[q]?)
  (hs:∀(i:Nat) row,G3[i]? =some row->row.length=k) (hle:rows.length<=G3.length) (Ae:G3.length*k<=cur.size)
  (hc:∀(i j:Nat) row x,G3[i]? =some row->row[j]? =some x->∃v,eS[i*k+j]? =some v/\RV E W x v):
  bE E W (E.more aF (E.ι id) k) (W.setRow (E.ι id) eS)/\RC (E.more aF (E.ι id) k) (W.setRow (E.ι id) eS) (aY G [(id,zI e k rows w),(aF,some (.cells e k G3 w true))]):=by
 obtain⟨hU,mZ,hlen,⟨AT,jZ,sU,fO⟩,hw,ha⟩:=hG.ok id _ hg;rw[cV]at jZ;injection jZ with jZ
 injection jZ with jZ
 subst jZ;obtain⟨hL,M9⟩:=ha rfl;have U3:id≠aF:=fun h=>hn (h▸hU)
 have oD:=bE.setRow hG hU cV dO (fun q hq=>hp q oM)
 have hv:=oD.trans (bE.share (W:=W.setRow (E.ι id) eS) hU hn k);have hmul:rows.length*k<=G3.length*k:=mO k hle;have Dz:∀aL,E.U aL->(E.more aF (E.ι id) k).ι aL=E.ι aL:=fun aL h=>(hv.jK aL h).1
 refine⟨hv,fun b hb=>hG.lim b (by simp_all),fun aL h=> ?_,fun aL b' hb=> ?_⟩
 ·rcases h with h|h
  ·rw[Dz aL h];simpa using hG.eJ aL h
  ·subst h;simp only[Env.more,if_true];simpa using hG.eJ id hU
 ·have u6:∀eP eY,aY G [(id,zI e k rows w),(aF,some (.cells e k G3 w true))] eP=some eY->
    (eP=aF/\eY= .cells e k G3 w true)\/(eP≠aF/\eP=id/\w=false/\eY= .cells e k rows false false)\/(eP≠aF/\eP≠id/\G eP=some eY):=by
   intro eP eY h;simp only[aY]at h;split at h
   ·grind
   ·grind [zI]
  rcases u6 aL b' hb with⟨rfl,rfl⟩|⟨h1,rfl,hwf,rfl⟩|⟨h1,h2,h3⟩
  ·refine⟨.inr rfl,by simp[Env.more],hs,⟨eS,by simp only[Env.more,if_true];grind [setRow_heap],oM,fun i j row x hr hx=> ?_⟩,fun Dy=>⟨?_,fun eP eY aT Ea=> ?_⟩,fun _=>⟨?_,fun eP eY aT Ea he=> ?_⟩⟩
   ·obtain⟨v,h1,h2⟩:=hc i j row x hr hx
    exact⟨v,h1,h2.mono hv⟩
   ·simp_all [Env.more]
   ·rcases u6 eP eY Ea with⟨h4,_⟩|⟨_,_,h4,_⟩|⟨h4,h5,h6⟩
    ·omega
    ·grind
    simp_all [Env.more]
   ·simp only[Env.more,if_true];omega
   ·rcases u6 eP eY Ea with⟨h4,_⟩|⟨_,h4,_,h5⟩|⟨h4,h5,h6⟩
    ·omega
    ·subst h5;exact⟨hmul,rfl⟩
    ·rw[Dz eP (hG.ok eP eY h6).1]at he
     simp only[Env.more,if_true]at he
     grind
  ·refine⟨.inl hU,by rw[(hv.jK _ hU).2];omega,hlen,⟨eS,by grind [setRow_heap],oM,fun i j row x hr hx=> ?_⟩,fun h=>(by cases h),fun h=>(by cases h)⟩
   obtain⟨v,h4,h5⟩:=fO i j row x hr hx;refine⟨v,?_,h5.mono hv⟩
   grind [y4]
  ·obtain⟨h4,h5⟩:=hG.ok aL b' h3
   refine⟨.inl h4,?_⟩;by_cases eV:E.ι aL=E.ι id
   ·obtain⟨h6,h7⟩:=M9 aL b' h2 h3 eV
    cases b' with
    |map es=>exact absurd eV.symm (h5.2.2 id _ (wD h2) hg)
    |cJ=>exact absurd eV.symm (h5.2.2 id _ (wD h2) hg)
    |iter=>exact absurd eV.symm (h5.2.2 id _ (wD h2) hg)
    |cells e2 s2 r2 w2 a2=>
    obtain⟨h8,h9,⟨EA,fG,mR,u2⟩,D6,H8⟩:=h5;rw[eV,cV]at fG;injection fG with fG
    injection fG with fG Bx
    subst fG;subst Bx;simp only[aI.app]at h7;subst h7;simp only[aI.upto]at h6;refine⟨by rw[(hv.jK _ h4).2];exact h8,h9,⟨eS,by grind [setRow_heap],oM,fun i j row x hr hx=> ?_⟩,fun Dy=>absurd eV.symm ((D6 Dy).2 id _ (wD h2) hg),fun h=>(by cases h)⟩
    obtain⟨v,By,Bz⟩:=u2 i j row x hr hx;refine⟨v,?_,Bz.mono hv⟩;rw[hp,By];have hl:=h9 i row hr;have:=y4 (fT.1 hr).1 (show j<s2 by grind)
    omega
   ·refine h5.mono hv h4 (setRow_other W _ _ eS eV) rfl fun eP eY aT dR he=> ?_
    rcases u6 eP eY dR with⟨rfl,_⟩|⟨_,rfl,_,_⟩|⟨h6,h7,h8⟩
    ·simp_all [Env.more]
    ·grind
    ·rw[Dz _ (hG.ok eP eY h8).1]at he
     grind
theorem LH{E:Env}{W:World}{G:Nat->Option aI}(hG:RC E W G){a:AV}{v:Value}(r:RV E W a v){rows:List (List AV)}{rd:List Nat}(h:rowsOf G a=some (rows,rd))(aT:rows≠[]){k:Nat}
  (hk:rows.all (fun r=>r.length==k&&r.all AV.one)=true):
  ∃b p cap,v= .slice (some ⟨b,p,none⟩) rows.length cap/\∃news:List Value,news.length=rows.length*k/\(∀(j:Nat) u,news[j]? =some u->W.cell? ⟨b,p+j,none⟩=some u)/\(∀u∈news,u.oneCell'=true)/\
   (∀(i j:Nat) row x,rows[i]? =some row->row[j]? =some x->∃u,news[i*k+j]? =some u/\RV E W x u):=by
 obtain⟨base,n,cap,hv,hn,pH,hr⟩:=M5 hG r h;obtain⟨b,p,s,hb,hs,hc⟩:=hr aT;subst hn;subst hb
 have uP:s=k:=by
  cases rows with
  |nil=>grind
  |cons r0 rs=>
   have h1:=hs 0 r0 rfl
   grind
 subst uP
 have I1:∀q,q<rows.length*s->∃u,W.cell? ⟨b,p+q,none⟩=some u/\u.oneCell'=true/\∀(i j:Nat) row x,i*s+j=q->j<s->rows[i]? =some row->row[j]? =some x->RV E W x u:=by
  intro q hq
  have DK:0<s:=by
   rcases Ir s with h0|h0
   ·grind
   ·exact h0
  have hi:q/s<rows.length:=Nat.div_lt_of_lt_mul (by grind)
  have hj:q % s<s:=Ij _ DK;have cS:=gY hi;have hlen:=hs _ _ cS;have DF:q % s<(rows[q/s]).length:=oM
  have hx:=gY DF;have hqq:q/s*s+q % s=q:=by rw[Nat.mul_comm];exact Nat.div_add_mod q s
  obtain⟨u,h1,h2⟩:=hc _ _ _ _ cS hx;rw[hqq]at h1;refine⟨u,h1,?_,fun i j row x he J6 cG nO=> ?_⟩
  ·have h3:=iM.1 hk _ (EN hi)
   simp only[jF]at h3;exact h2.oneOf (iM.1 h3.2 _ (EN DF))
  ·grind
 let f:Nat->Value:=fun q=>(W.cell? ⟨b,p+q,none⟩).getD undef
 have hf:∀q,q<rows.length*s->W.cell? ⟨b,p+q,none⟩=some (f q):=fun q hq=>by
  grind
 refine⟨b,p,cap,hv,(List.range (rows.length*s)).map f,by simp,fun j u hu=> ?_,fun u hu=> ?_,fun i j row x cG nO=> ?_⟩
 ·grind
 ·grind
 ·have J6:j<s:=by rw[<-hs i row cG];exact(fT.1 nO).1
  have hq:=y4 (fT.1 cG).1 J6
  grind
section
variable {P : Program} {g : Operand -> Option AV} {G : Nat -> Option aI} {aF : Nat} {dst : Option Tmp} {ty : TypeId} {pos : String} {after : Array Edge} {guard : Option (Nat × Bool)}
theorem Eb{t e:TypeId}{k:Nat}(ht:fB P t=some (e,k))(ty:TypeId)(base b2:Option Addr)(n c c2:Nat)(BW:n<=c)(w:World):
  (Builtin.append_ #[t,t] ty #[.slice base n c,.slice b2 0 c2]).run P w= .ok (.slice base n c) w:=by
 obtain⟨hu,hk⟩:=vX ht
 have hf:(Builtin.firstCells k 0 (.slice b2 0 c2)).run P w= .ok #[] w:=by
  cases b2<;>simp[Builtin.firstCells,loadCells,loadCellsFrom]
 cases base<;>simp[Builtin.append_,run_underlying hu,run_sizeOf hk,Builtin.lenOf,BW,hf,storeCells]
theorem WH{e:TypeId}{i:TypeInfo}{k:Nat}(hi:P.info? e=some i)(hk:cT P e=some k):i.size=k:=by grind [cT]
theorem bf7{J7 news:List Value}{rest:Array Value}{n m k:Nat}(ho:J7.length=n*k)(hn:news.length=m*k):
  (∀q,q<n*k->(J7.toArray++news.toArray++rest)[q]? =J7[q]?)/\(∀q,q<m*k->(J7.toArray++news.toArray++rest)[n*k+q]? =news[q]?):=by
 grind
theorem Tw{E:Env}{W:World}{rows bB:List (List AV)}{k:Nat}{J7 news:List Value}{cur:Array Value}(hl:∀(i:Nat) row,rows[i]? =some row->row.length=k)(dG:∀(i:Nat) row,bB[i]? =some row->row.length=k)
  (ho:∀(i j:Nat) row x,rows[i]? =some row->row[j]? =some x->∃v,J7[i*k+j]? =some v/\RV E W x v) (hn:∀(i j:Nat) row x,bB[i]? =some row->row[j]? =some x->∃v,news[i*k+j]? =some v/\RV E W x v)
  (h1:∀q,q<rows.length*k->cur[q]? =J7[q]?) (h2:∀q,q<bB.length*k->cur[rows.length*k+q]? =news[q]?):
  (∀(i:Nat) row,(rows++bB)[i]? =some row->row.length=k)/\∀(i j:Nat) row x,(rows++bB)[i]? =some row->row[j]? =some x->∃v,cur[i*k+j]? =some v/\RV E W x v:=by
 refine⟨fun i row hr=> ?_,fun i j row x hr hx=> ?_⟩
 ·grind
 ·by_cases hi:i<rows.length
  ·grind [y4]
  ·rw[nI oM]at hr
   obtain⟨v,h3,h4⟩:=hn _ j row x hr hx;refine⟨v,?_,h4⟩;have bG:i-rows.length<bB.length:=(fT.1 hr).1;have:=h2 ((i-rows.length)*k+j) (y4 bG (by grind))
   rw[h3]at this;rw[<-this];congr 1;have:i*k=rows.length*k+(i-rows.length)*k:=by rw[<-wE];congr 1;omega
   omega
theorem WI{rows:List (List AV)}{k:Nat}(hk:rows.all (fun r=>r.length==k&&r.all AV.one)=true):∀(i:Nat) row,rows[i]? =some row->row.length=k:=fun i row hr=>by
 grind
theorem uJ{E:Env}{W:World}{id off len:Nat}{v:Value}(r:RV E W (.own id off len) v):E.U id/\
  ((∃cap,v= .slice (some ⟨E.ι id,off*E.sz id,none⟩) len cap/\len<=cap/\∃(cur:Array Value) (e:TypeId) (f:Nat×Nat),W.heap[E.ι id]? =some (Obj.cells cur e f)/\(off+cap)*E.sz id<=cur.size)\/(len=0/\∃a,v= .slice a 0 0)):=by
 cases r with
 |own _ _ _ cap aC eI hs=>simp_all
 |mB _ _ a aC=>grind
set_option maxHeartbeats 1000000 in
theorem bf8{t e:TypeId}{k lU:Nat}{zs:List AV}{x y:Operand}{id n:Nat}{rows bB:List (List AV)}{w:Bool}{b:AV}{rd:List Nat}(ht:fB P t=some (e,k))(hz:eX P e=some zs)(J4:zs.length=k)(qB:oK P e=some lU)
  (hx:g x=some (.own id 0 n)) (hg:G id=some (.cells e k rows w true)) (hn:n=rows.length) (hy:g y=some b) (hb:rowsOf G b=some (bB,rd)) (h1:bB.all (fun r=>r.length==k&&r.all AV.one)=true)
  (RF:n+bB.length<=9223372036854775807) (LB:(n+bB.length)*lU<=140737488355328):
  eT P g G aF ⟨dst,.call ⟨.builtin .append,#[x,y],#[t,t]⟩,ty,pos,after,guard⟩ (.own aF 0 (n+bB.length)) (aY G [(id,zI e k rows w),(aF,some (.cells e k (rows++bB) w true))]):=fun E W ρ hG gT b9=>by
 have gX:=b9 x _ hx;have mL:=b9 y _ hy;generalize cY:ρ x=vx at gX;generalize mK:ρ y=vy at mL;obtain⟨hu,hk⟩:=vX ht;obtain⟨i,z,hi,wY,AU⟩:=J3 hz;have iJ:=WH hi hk;have WJ:i.bytes=lU:=by simp[oK,hi]at qB;exact qB
 have lS:=hG;obtain⟨hU,mZ,hlen,⟨cur,cV,sU,fO⟩,hw,ha⟩:=hG.ok id _ hg;subst hn
 have eQ:∀(r:Result Value),(Builtin.append_ #[t,t] ty #[vx,vy]).run P W=r->(execOp ρ ⟨dst,.call ⟨.builtin .append,#[x,y],#[t,t]⟩,ty,pos,after,guard⟩).run P W=r.andThen fun v w'=> .ok (.value v) w':=by
  intro r hr;rw[zH];simp only[builtin,T9,qE,GU,cY,mK];rw[Sem.run_bind,hr];rfl
 have h8:z.cells.size=k:=by have:=(AU E W).1;simp at this;omega
 have dG:=WI h1
 have Tx:∀(i j:Nat) row x,rows[i]? =some row->row[j]? =some x->∃v,(cur.toList.take (rows.length*k))[i*k+j]? =some v/\RV E W x v:=fun i j row x hr hx=>by
  obtain⟨v,h3,h4⟩:=fO i j row x hr hx;refine⟨v,?_,h4⟩;have:=y4 (fT.1 hr).1 (show j<k by grind)
  grind
 --a new array
 have grow:∀(v2:Value),(∃FE rest,v2= .slice (some ⟨W.heap.size,0,none⟩) (rows.length+bB.length) FE/\rows.length+bB.length<=FE/\∃news:List Value,news.length=bB.length*k/\
   (∀(i j:Nat) row x,bB[i]? =some row->row[j]? =some x->∃u,news[i*k+j]? =some u/\RV E W x u)/\rest.size=(FE-(rows.length+bB.length))*k/\
   (Builtin.append_ #[t,t] ty #[vx,vy]).run P W= .ok v2 (W.drew.alloc (.cells ((cur.toList.take (rows.length*k)).toArray++news.toArray++rest) e)))->
   ∃W' v E',((execOp ρ ⟨dst,.call ⟨.builtin .append,#[x,y],#[t,t]⟩,ty,pos,after,guard⟩).run P W= .ok (.value v) W'\/((execOp ρ ⟨dst,.call ⟨.builtin .append,#[x,y],#[t,t]⟩,ty,pos,after,guard⟩).run P W= .ok .skip W'/\v=undef))/\bE E W E' W'/\
    RC E' W' (aY G [(id,zI e k rows w),(aF,some (.cells e k (rows++bB) w true))])/\RV E' W' (.own aF 0 (rows.length+bB.length)) v/\(∀q,E'.U q->E.U q\/(q=aF/\(aY G [(id,zI e k rows w),(aF,some (.cells e k (rows++bB) w true))] aF).isSome=true)):=by
  rintro v2 ⟨FE,rest,rfl,bf9,news,y6,BW,hrest,hr⟩;have rA:(cur.toList.take (rows.length*k)).length=rows.length*k:=by simp;omega
  obtain⟨g1,g2⟩:=bf7 (rest:=rest) rA y6;obtain⟨g3,g4⟩:=Tw hlen dG Tx BW g1 g2
  have G4:RC E W.drew (aY G [(id,zI e k rows w)]):=hG.drew.M8 fun aL b' cE=>by
   simp only[aY]at cE;split at cE
   ·rename_i h2;subst h2
    unfold zI at cE;split at cE
    ·cases cE
    ·injection cE with cE;subst cE;exact⟨_,hg,rfl,rfl,rfl,(fun h=>by cases h),(fun h=>by cases h)⟩
   grind [aI.le_refl]
  have RG:((cur.toList.take (rows.length*k)).toArray++news.toArray++rest).size=FE*k:=by
   simp only[Io,OS,rA,y6,hrest,<-wE];congr 1;omega
  have ca5:(rows++bB).length*k<=FE*k:=mO k (by grind)
  have CF:=G4.alloc gT e ((cur.toList.take (rows.length*k)).toArray++news.toArray++rest) k (rows++bB) w true g3 oM (fun i j row x h5 h6=>by
   obtain⟨v,h7,h8⟩:=g4 i j row x h5 h6
   exact⟨v,h7,h8.mono (bE.drew E W)⟩)
  have hv:=(bE.drew E W).trans (bE.alloc G4 gT (.cells ((cur.toList.take (rows.length*k)).toArray++news.toArray++rest) e) k);refine⟨_,_,_,.inl (by rw[eQ _ hr];rfl),hv,CF,?_,fun id h=>h.imp (fun h=>h) (fun e=>⟨e,by simp[aY]⟩)⟩
  have:=RV.own (E:=E.more aF W.drew.heap.size k) (W:=W.drew.alloc (.cells ((cur.toList.take (rows.length*k)).toArray++news.toArray++rest) e)) aF 0 (rows.length+bB.length) FE (.inr rfl) bf9
   ⟨_,e,(0,0),by simp only[Env.more,if_true];exact heap_alloc_new W.drew _,by simp only[Env.more,if_true];grind⟩
  simpa[Env.more]using this
 --J8 same array
 have IZ:∀(cap:Nat) (base:Option Addr) (eS:Array Value),RV (E.more aF (E.ι id) k) (W.setRow (E.ι id) eS) (.own aF 0 (rows.length+bB.length)) (.slice base (rows.length+bB.length) cap)->
   eS.size=cur.size->(∀q,q<rows.length*k->eS[q]? =cur[q]?)->(rows++bB).length*k<=cur.size->(∀(i j:Nat) row x,(rows++bB)[i]? =some row->row[j]? =some x->∃v,eS[i*k+j]? =some v/\RV E W x v)->
   (Builtin.append_ #[t,t] ty #[vx,vy]).run P W= .ok (.slice base (rows.length+bB.length) cap) (W.setRow (E.ι id) eS)->
   ∃W' v E',((execOp ρ ⟨dst,.call ⟨.builtin .append,#[x,y],#[t,t]⟩,ty,pos,after,guard⟩).run P W= .ok (.value v) W'\/((execOp ρ ⟨dst,.call ⟨.builtin .append,#[x,y],#[t,t]⟩,ty,pos,after,guard⟩).run P W= .ok .skip W'/\v=undef))/\bE E W E' W'/\
    RC E' W' (aY G [(id,zI e k rows w),(aF,some (.cells e k (rows++bB) w true))])/\RV E' W' (.own aF 0 (rows.length+bB.length)) v/\(∀q,E'.U q->E.U q\/(q=aF/\(aY G [(id,zI e k rows w),(aF,some (.cells e k (rows++bB) w true))] aF).isSome=true)):=by
  intro cap base eS iP E6 hp' Dp AR hr
  obtain⟨h2,h3⟩:=hG.share gT hg cV E6 hp' (fun i row hr=>by
   grind) (by simp) Dp AR
  exact⟨_,_,_,.inl (by rw[eQ _ hr];rfl),h2,h3,iP,fun id h=>h.imp (fun h=>h) (fun e=>⟨e,by simp[aY]⟩)⟩
 by_cases aT:bB=[]
 ·subst aT
  obtain⟨RI,n2,z6,fI,qT,_,_⟩:=M5 hG mL hb;simp at qT;subst qT;subst fI;simp only[kT,KJ,v7]at grow IZ⊢;rcases(uJ gX).2 with⟨cap,rfl,eI,EA,e2,f2,h4,h5⟩|⟨mX,a,rfl⟩
  ·
   rw[cV]at h4;injection h4 with h4
   injection h4 with h4 h6 h7
   subst h4;subst h6;subst h7;refine IZ cap _ cur ?_ rfl (fun _ _=>rfl) sU fO (by rw[Eb ht ty _ _ _ _ _ eI,setRow_self W _ cur _ _ cV])
   rw[setRow_self W _ cur _ _ cV];have:=RV.own (E:=E.more aF (E.ι id) k) (W:=W) aF 0 rows.length cap (.inr rfl) eI ⟨cur,_,_,by simp only[Env.more,if_true];exact cV,by simp only[Env.more,if_true];grind⟩
   grind [Env.more]
  ·have h0:rows=[]:=Ic.1 mX
   subst h0;refine IZ 0 a cur ?_ rfl (fun _ _=>rfl) sU fO (by rw[setRow_self W _ cur _ _ cV];exact Eb ht ty _ _ _ _ _ (cA _) _)
   exact .mB _ _ _ (.inr rfl)
 ·obtain⟨b2,p2,z6,fI,news,y6,BW,uF,CG⟩:=LH hG mL hb aT h1
  subst fI;have H7:0<bB.length:=T7.2 aT;have BY:∀(j:Nat) u,news[j]? =some u->W.cell? ((⟨b2,p2,none⟩:Addr).add j)=some u:=fun j u hu=>by grind [Addr.add_lit]
  have WK:news.length=bB.length*i.size:=by rw[iJ];exact y6
  rcases(uJ gX).2 with⟨cap,rfl,eI,EA,e2,f2,h4,h5⟩|⟨mX,a,rfl⟩
  ·
   rw[cV]at h4;injection h4 with h4
   injection h4 with h4 h6 h7
   subst h4;subst h6;subst h7;rw[mZ]at h5;simp only[vB,zR]at h5 grow IZ⊢;by_cases AE:rows.length+bB.length<=cap
   ·have hmul:(rows.length+bB.length)*k<=cap*k:=mO k AE
    rw[wE]at hmul;have hr:=run_append_room (P:=P) W t ty e i hu hi (E.ι id) rows.length cap cur cV ⟨b2,p2,none⟩ bB.length z6 news WK BY uF AE (by grind)
    rw[iJ]at hr;refine IZ cap _ _ ?_ ?_ ?_ ?_ ?_ hr
    ·have:=RV.own (E:=E.more aF (E.ι id) k) (W:=W.setRow (E.ι id) (cur.toList.take (rows.length*k)++news++cur.toList.drop (rows.length*k+news.length)).toArray) aF 0 (rows.length+bB.length) cap (.inr rfl) AE
      ⟨_,e,(0,0),by simp only[Env.more,if_true];exact setRow_heap W _ cur _ e (0,0) cV,by simp only[Env.more,if_true];grind⟩
     grind [Env.more]
    ·simp;omega
    ·grind
    ·simp[wE];omega
    ·have rA:(cur.toList.take (rows.length*k)).length=rows.length*k:=by simp;omega
     refine(Tw hlen dG Tx CG (fun q hq=> ?_) (fun q hq=> ?_)).2
     ·grind
     ·rw[CZ,nH,nI oM,rM oM]
      grind
   ·have rA:(cur.toList.take (rows.length*k)).length=rows.length*i.size:=by rw[iJ];simp;omega
    have hr:=run_append_grow (P:=P) W t ty e i z hu hi wY ⟨E.ι id,0,none⟩ rows.length cap (cur.toList.take (rows.length*k)) rA (fun j u hu=>by
      rw[Addr.add_lit,vB,cell_of_row W _ j cur e (0,0) cV]
      grind) ⟨b2,p2,none⟩ bB.length z6 news WK BY oM oM (growslice_fits oM (by grind))
    refine grow _ ⟨_,_,rfl,grownCap_ge W _ _ e,news,y6,CG,?_,hr⟩
    grind [size_zeroCells]
  ·have h0:rows=[]:=Ic.1 mX
   subst h0;simp only[kT,vB,zR,ER]at grow⊢;cases a with
   |none=>
    have hr:=run_append_nil (P:=P) W t ty e i z hu hi wY ⟨b2,p2,none⟩ bB.length z6 news WK BY H7 oM (by grind)
    refine grow _ ⟨grownCap W bB.length 0 e,Builtin.zeroCells z.cells (grownCap W bB.length 0 e-bB.length),rfl,grownCap_ge W bB.length 0 e,news,y6,CG,by rw[size_zeroCells,h8],?_⟩
    grind
   |some a=>
   have hr:=run_append_grow (P:=P) W t ty e i z hu hi wY a 0 0 [] (by simp) (fun j u hu=>by simp at hu) ⟨b2,p2,none⟩ bB.length z6 news WK BY oM oM (growslice_fits oM (by grind))
   refine grow _ ⟨grownCap W bB.length 0 e,Builtin.zeroCells z.cells (grownCap W bB.length 0 e-bB.length),rfl,grownCap_ge W bB.length 0 e,news,y6,CG,by rw[size_zeroCells,h8],?_⟩
   grind
end
end Go.AL
namespace Go.AL
open Go.RowKit
section
variable (P : Program)
def DZ(f:TypeId->AV->AV->Option Bool)(xs ys:List AV):List Field->Option Bool
 |[]=>some true
 |fd::r=>if fd.name= "_" then none else match qL P fd.type xs fd.offset,qL P fd.type ys fd.offset with
  |some a,some b=>match f fd.type a b,DZ f xs ys r with
   |some p,some q=>some (p&&q)
   |_,_=>none
  |_,_=>none
def HO(f:TypeId->AV->AV->Option Bool)(e:TypeId)(k:Nat)(xs ys:List AV):List Nat->Option Bool
 |[]=>some true
 |i::r=>match qL P e xs (i*k),qL P e ys (i*k)with
  |some a,some b=>match f e a b,HO f e k xs ys r with
   |some p,some q=>some (p&&q)
   |_,_=>none
  |_,_=>none
def pA:Nat->TypeId->AV->AV->Option Bool
 |0,_,_,_=>none
 |d+1,t,x,y=>match P.underlying t,x,y with
  |some (.int _),.c (.int k a),.c (.int k' b)=>if k=k' then some (a==b)else none
  |some .bool,.c (.bool a),.c (.bool b)=>some (a==b)
  |some .string,.c (.string a),.c (.string b)=>some (a.toList==b.toList)
  |some (.struct fs),.agg xs,.agg ys=>if P.stoodInHeld t=true then none else DZ P (pA d) xs ys fs.toList
  |some (.array n e),.agg xs,.agg ys=>match cT P e with
   |some k=>HO P (pA d) e k xs ys (List.range n)
   |none=>none
  |_,_,_=>none
def vJ(t:TypeId)(x y:AV):Option Bool:=if P.eqGuardType P.depth t=true then none else pA P 10000 t x y
end
section
variable {P : Program} {E : Env} {W : World}
theorem Ty{d:Nat}{xs ys:List AV}{vs us:Array Value}(hx:bP E W xs vs.toList)(hy:bP E W ys us.toList)
  (ih:∀t x y v u r,RV E W x v->RV E W y u->pA P d t x y=some r->(Op.equalIn d t v u).run P W= .ok r W):
  ∀(fs:List Field) (r:Bool),DZ P (pA P d) xs ys fs=some r->(Op.eqFields d vs us fs).run P W= .ok r W
 |[],r,h=>by simp_all [DZ,Op.eqFields]
 |fd::fs,r,h=>by
  simp only[DZ]at h;split at h
  ·cases h
  ·rename_i hn
   split at h
   ·rename_i a b ha hb
    split at h
    ·rename_i p q hp hq
     simp only[bM]at h;subst h;obtain⟨v,h1,h2⟩:=M7 (P:=P) hx ha;obtain⟨u,h3,h4⟩:=M7 (P:=P) hy hb;have h5:=ih _ _ _ _ _ _ h2 h4 hp;have h6:=Ty hx hy ih fs q hq;simp only[Op.eqFields,ne_eq,hn,not_false_eq_true,if_true,Sem.run_bind,Array.toArray_toList,h1,h3,h5,Result.andThen_ok]at*;cases p<;>simp[h1,h3,h5,h6]
    ·cases h
   ·cases h
theorem Tz{d:Nat}{e:TypeId}{k:Nat}{xs ys:List AV}{vs us:Array Value}(hx:bP E W xs vs.toList)(hy:bP E W ys us.toList)
  (ih:∀t x y v u r,RV E W x v->RV E W y u->pA P d t x y=some r->(Op.equalIn d t v u).run P W= .ok r W):
  ∀(is:List Nat) (r:Bool),HO P (pA P d) e k xs ys is=some r->(Op.eqItems d e k vs us is).run P W= .ok r W
 |[],r,h=>by simp_all [HO,Op.eqItems]
 |i::is,r,h=>by
  simp only[HO]at h;split at h
  ·rename_i a b ha hb
   split at h
   ·rename_i p q hp hq
    simp only[bM]at h;subst h;obtain⟨v,h1,h2⟩:=M7 (P:=P) hx ha;obtain⟨u,h3,h4⟩:=M7 (P:=P) hy hb;have h5:=ih _ _ _ _ _ _ h2 h4 hp;have h6:=Tz hx hy ih is q hq;simp only[Op.eqItems,Sem.run_bind,Array.toArray_toList,h1,h3,h5,Result.andThen_ok]at*;cases p<;>simp[h1,h3,h5,h6]
   ·cases h
  ·cases h
theorem WL:∀(d:Nat) (t:TypeId) (x y:AV) (v u:Value) (r:Bool),RV E W x v->RV E W y u->pA P d t x y=some r->(Op.equalIn d t v u).run P W= .ok r W
 |0,t,x,y,v,u,r,hx,hy,h=>by simp[pA]at h
 |d+1,t,x,y,v,u,r,hx,hy,h=>by
  simp only[pA]at h;split at h
  ·rename_i k0 k a k' b hu
   split at h
   ·rename_i hk
    subst hk;simp only[bM]at h;subst h;cases hx;cases hy
    grind [run_equalIn_int]
   ·cases h
  ·rename_i a b hu
   simp only[bM]at h;subst h;cases hx;cases hy
   grind [run_equalIn_bool']
  ·rename_i a b hu
   simp only[bM]at h;subst h;cases hx;cases hy
   grind [run_equalIn_string]
  ·rename_i fs xs ys hu
   split at h
   ·cases h
   ·rename_i hp
    cases hx with
    |agg _ vs AG hx=>
    cases hy with
    |agg _ us dG hy=>
    have Q5:P.fieldsOf t=fs:=by simp[Program.fieldsOf,hu]
    rw[run_equalIn_struct W d t vs us (by grind) (by grind),Q5]
    exact Ty ⟨oM,fun i x v h1 h2=>hx i x v h1 (by grind)⟩ ⟨oM,fun i x v h1 h2=>hy i x v h1 (by grind)⟩ (WL d) _ _ h
  ·rename_i n e xs ys hu
   split at h
   ·rename_i k hk
    cases hx with
    |agg _ vs AG hx=>
    cases hy with
    |agg _ us dG hy=>
    cases hi:P.info? e with
    |none=>grind [cT]
    |some i=>
     have hc:P.cellsOf e=k:=by simp[cT,hi]at hk;simp[Program.cellsOf,hi,hk]
     rw[run_equalIn_array W d vs us hu hi,hc];exact Tz ⟨oM,fun i x v h1 h2=>hx i x v h1 (by grind)⟩ ⟨oM,fun i x v h1 h2=>hy i x v h1 (by grind)⟩ (WL d) _ _ h
   ·cases h
  ·cases h
end
section
variable {P : Program} {g : Operand -> Option AV} {G : Nat -> Option aI} {aF : Nat} {dst : Option Tmp} {ty : TypeId} {pos : String} {after : Array Edge} {guard : Option (Nat × Bool)}
def CH(op:BinOp)(r:Bool):Option Value:=
 match op with
 | .eql=>some (.bool r)
 | .neq=>some (.bool (!r))
 |_=>none
theorem bg1{op:BinOp}{t yt:TypeId}{x y:Operand}{xs ys:List AV}{r:Bool}{v:Value}(hx:g x=some (.agg xs))(hy:g y=some (.agg ys))(h:vJ P t (.agg xs) (.agg ys)=some r)(hv:CH op r=some v):
  eT P g G aF ⟨dst,.binOp op t x y yt,ty,pos,after,guard⟩ (.c v) G:=
 .still fun E W ρ hG b9=>by
   have h1:=b9 x _ hx;have h2:=b9 y _ hy;generalize cY:ρ x=vx at h1;generalize mK:ρ y=vy at h2;unfold vJ at h;split at h
   ·cases h
   ·rename_i Aq
    have heq:=WL 10000 t _ _ _ _ r h1 h2 h;cases h1 with
    |agg _ vs AG h1=>
    cases h2 with
    |agg _ us dG h2=>
    refine⟨v,?_,.c v ?_⟩
    ·simp only[execOp,cY,mK,Sem.run_bind,run_eqGuard_agg W op t x y vs us (by simpa using Aq),Result.andThen_ok]
     cases op<;>simp only[CH,reduceCtorEq,bM]at hv
     ·simp_all [run_eql_struct]
     simp_all [run_neq_struct]
    ·cases op<;>simp only[CH,reduceCtorEq,bM]at hv<;>subst hv<;>rfl
def RJ(a:AV):Option Bool:=
 match a with
 | .c (.slice a _ _)=>some a.isNone
 | .snap rows=>if rows.isEmpty=true then none else some false
 | .own _ _ n=>if n=0 then none else some false
 |_=>none
theorem bg2{E:Env}{W:World}{a:AV}{v:Value}{r:Bool}(hr:RV E W a v)(h:RJ a=some r):∃p n c,v= .slice p n c/\p.isNone=r:=by
 unfold RJ at h;split at h
 ·simp only[bM]at h;subst h;cases hr;grind
 ·rename_i rows
  split at h
  ·cases h
  ·rename_i aT
   simp only[bM]at h;subst h;cases hr with
   |snap=>grind
   |kP=>grind
 ·split at h
  ·cases h
  ·rename_i aT
   simp only[bM]at h;subst h;cases hr with
   |own=>grind
   |mB=>omega
 ·cases h
theorem bg3(d:Nat){t e:TypeId}(hu:P.underlying t=some (.slice e))(p:Option Addr)(n c:Nat)(w:World):
  (Op.equalIn (d+1) t (.slice p n c) (.slice none 0 0)).run P w= .ok p.isNone w:=by
 cases p<;>simp[Op.equalIn,run_underlying hu]
theorem bg4{op:BinOp}{t e:TypeId}(hu:P.underlying t=some (.slice e))(p:Option Addr)(n c:Nat)(w:World){v:Value}(hv:CH op p.isNone=some v):
  (binOp op t (.slice p n c) (.slice none 0 0)).run P w= .ok v w:=by
 have h:=bg3 (P:=P) 9999 hu p n c w;cases op<;>simp only[CH,reduceCtorEq,bM]at hv<;>subst hv<;>simp only[binOp,Op.equal,Op.maxDepth,Sem.run_bind,h,Result.andThen_ok,Sem.run_pure]
theorem bg5{op:BinOp}{t e yt:TypeId}{k:Nat}{x y:Operand}{a:AV}{r:Bool}{v:Value}(ht:fB P t=some (e,k))(hx:g x=some a)(hy:g y=some (.c (.slice none 0 0)))(h:RJ a=some r)(hv:CH op r=some v):
  eT P g G aF ⟨dst,.binOp op t x y yt,ty,pos,after,guard⟩ (.c v) G:=
 .still fun E W ρ hG b9=>by
   obtain⟨p,n,c,h1,h2⟩:=bg2 (b9 x _ hx) h;have h3:=b9 y _ hy;generalize mK:ρ y=vy at h3;cases h3;obtain⟨hu,_⟩:=vX ht;refine⟨v,?_,.c v ?_⟩
   ·simp_all [execOp,eqGuard,bg4]
   ·cases op<;>simp only[CH,reduceCtorEq,bM]at hv<;>subst hv<;>rfl
theorem WM{ρ:Operand->Value}{E:Env}{W:World}(b9:∀x b,g x=some b->RV E W b (ρ x)){t e:TypeId}{k:Nat}(ht:fB P t=some (e,k))(base:Option Addr)(len cap:Nat){lo:Option Operand}{hi mx:Operand}{l h m:Int}
  (hl:iG g 0 lo=some l) (hh:iG g len (some hi)=some h) (hm:iG g len (some mx)=some m) (h0:0<=l) (h1:l<=h) (h2:h<=m) (h3:m<=cap):
  (Instr.sliceAt t (.slice base len cap) (lo.map ρ) (some (ρ hi)) (some (ρ mx))).run P W= .ok (.slice (if m=l then base else base.map (·.add (l.toNat*k))) (h-l).toNat (m-l).toNat) W:=by
 obtain⟨hu,hk⟩:=vX ht;have hb:(m.toNat=l.toNat)↔(m=l):=oM
 have e1:h.toNat-l.toNat=(h-l).toNat:=oM
 have e2:m.toNat-l.toNat=(m-l).toNat:=oM
 rcases J5 b9 hh with⟨hc,_⟩|⟨kh,E9⟩
 ·cases hc
 rcases J5 b9 hm with⟨hc,_⟩|⟨km,J9⟩
 ·cases hc
 simp only[zQ,bM]at E9 J9;have h5:0<=h:=oM
 have h6:0<=m:=oM
 have h7:h<=max m 0:=oM
 have h8:l<=max h 0:=oM
 rcases J5 b9 hl with⟨rfl,rfl⟩|⟨kl,tG⟩
 ·simp[Instr.sliceAt,run_underlying hu,Instr.slice,Instr.sliceBounds,run_sizeOf hk,E9,J9,Instr.sliceBound,asIntOf,h5,h6,h7,h3]
  grind
 ·simp[Instr.sliceAt,run_underlying hu,Instr.slice,Instr.sliceBounds,run_sizeOf hk,tG,E9,J9,Instr.sliceBound,asIntOf,h0,h5,h6,h7,h8,h3]
  grind
theorem bg6{t e:TypeId}{k:Nat}{x:Operand}{rows:List (List AV)}{lo:Option Operand}{hi mx:Operand}{l h m:Int}(ht:fB P t=some (e,k))(hx:g x=some (.snap rows))(hl:iG g 0 lo=some l)(hh:iG g rows.length (some hi)=some h)
  (hm:iG g rows.length (some mx)=some m) (h0:0<=l) (h1:l<=h) (h2:h<=m) (h3:m<=rows.length) (hw:rows.all (fun r=>r.length==k)=true):
  eT P g G aF ⟨dst,.slice t x lo (some hi) (some mx),ty,pos,after,guard⟩ (.snap ((rows.drop l.toNat).take (h-l).toNat)) G:=
 .still fun E W ρ hG b9=>by
   have h4:=b9 x _ hx;generalize cY:ρ x=vx at h4;cases h4 with
   |kP a cap=>
    simp at h3;refine⟨_,by simp only[execOp,cY,zQ];rw[Sem.run_bind,WM b9 ht a 0 cap hl (show iG g ((0:Nat):Int) (some hi)=some h from hh) (show iG g ((0:Nat):Int) (some mx)=some m from hm) h0 h1 h2 oM];rfl,?_⟩
    have:(h-l).toNat=0:=oM
    rw[this];simp;exact .kP _ _
   |snap _ b off s n cap vs hn pH hs hL hc hr=>
    subst hn;refine⟨_,by simp only[execOp,cY,zQ];rw[Sem.run_bind,WM b9 ht _ rows.length cap hl hh hm h0 h1 h2 oM];rfl,?_⟩
    by_cases hz:h=l
    ·have:(h-l).toNat=0:=oM
     rw[this];simp;exact .kP _ _
    ·have aT:¬(m=l):=oM
     rw[if_neg aT];have bG:l.toNat<rows.length:=oM
     have uP:s=k:=by
      have h4:=hs l.toNat _ (gY bG);have h5:=iM.1 hw _ (EN bG);simp at h5;omega
     subst uP
     have hmul:l.toNat*s+(h-l).toNat*s<=rows.length*s:=by
      rw[<-wE];exact mO s oM
     have hlen:((rows.drop l.toNat).take (h-l).toNat).length=(h-l).toNat:=by simp;omega
     have dQ:∀(i:Nat) row,((rows.drop l.toNat).take (h-l).toNat)[i]? =some row->rows[l.toNat+i]? =some row:=fun i row hr=>by
      grind
     have:=RV.snap (E:=E) (W:=W) ((rows.drop l.toNat).take (h-l).toNat) b (off+l.toNat*s) s (h-l).toNat (m-l).toNat (fun i j=>vs (l.toNat+i) j) hlen.symm oM (fun i row hr=>hs _ row (dQ i row hr)) (by grind)
      (fun i j row x h4 h5=>by grind) (fun i j row x h4 h5=>hr _ j row x (dQ i row h4) h5)
     grind [Addr.add_lit]
end
end Go.AL
namespace Go.AL
open Go.RowKit
def y7(P:Program):List Field->Nat->Option Nat
 |[],i=>some i
 |f::r,i=>match P.underlying f.type,cT P f.type with
  |some (.int .i64),some 1=>if f.name= "_" \/f.offset≠i then none else y7 P r (i+1)
  |_,_=>none
def vR(P:Program)(kt:TypeId):Option TypeDesc:=
 match P.underlying kt with
 |some (.struct fs)=>if P.stoodInHeld kt=true then none else(y7 P fs.toList 0).map fun n=> .array n 0
 |some (.array _ _)=>none
 |d=>d
def zU(P:Program)(t:TypeId):Option (TypeId×TypeId×TypeDesc):=
 match P.underlying t with
 |some (.map k e)=>(vR P k).map fun d=>(k,e,d)
 |_=>none
theorem WN{P:Program}{t k e:TypeId}{d:TypeDesc}(h:zU P t=some (k,e,d)):P.underlying t=some (.map k e)/\vR P k=some d:=by
 unfold zU at h;split at h
 ·rename_i k' e' hu
  cases hk:vR P k' with
  |none=>grind
  |some d'=>
   grind
 ·cases h
def D4(P:Program)(e:TypeId):Option AV:=
 match(P.info? e).bind (·.zero)with
 |some z=>zF z
 |none=>none
theorem Ec{P:Program}{e:TypeId}{a:AV}(h:D4 P e=some a):∃z,(∀W,(zeroValue e).run P W= .ok z W)/\∀E W,RV E W a z:=by
 unfold D4 at h;split at h
 ·rename_i z hz
  cases hi:P.info? e with
  |none=>grind
  |some i=>
   simp_all [zeroValue,run_typeInfo,RV.zF]
 ·cases h
def iV(a:Int):Value:= .int .i64 a
def wZ:TypeDesc->Value->Prop
 | .array n _,.agg cs=>∃l:List Int,l.length=n/\cs=(l.map iV).toArray
 |d,v=>MapKept.IsKey d v
def WO:Value->Bool
 | .int k _=>k== .i64
 |_=>false
def sN:TypeDesc->Value->Bool
 | .bool,.bool _=>true
 | .int k,.int k' _=>k'==k
 | .string,.string _=>true
 | .array n _,.agg cs=>cs.toList.length==n&&cs.toList.all WO
 |_,_=>false
theorem Ua:∀(l:List Value),l.all WO=true->∃as:List Int,l=as.map iV
 |[],_=>⟨[],rfl⟩
 |v::r,h=>by
  simp only[KI,jF]at h;obtain⟨as,h2⟩:=Ua r h.2;cases v with
  |int k n=>
   obtain rfl:=eq_of_beq (show(k==IntKind.i64)=true from h.1)
   exact⟨n::as,by rw[h2];rfl⟩
  |_=>grind [WO]
theorem MA{d:TypeDesc}{k:Value}(h:sN d k=true):wZ d k:=by
 unfold sN at h;split at h
 ·trivial
 ·exact eq_of_beq h
 ·trivial
 ·rename_i n e cs
  simp only[jF,beq_iff_eq]at h;obtain⟨as,h2⟩:=Ua _ h.2;refine⟨as,?_,?_⟩
  ·grind
  grind
 ·cases h
def yY(d:TypeDesc)(es:List (Value×AV)):Bool:=es.all fun p=>sN d p.1
def G5:List Value->List Value->Bool
 |[],[]=>true
 | .int k a::r,.int k' b::s=>k==k'&&a==b&&G5 r s
 |_,_=>false
def rY:Value->Value->Bool
 | .int k a,.int k' b=>k==k'&&a==b
 | .bool a,.bool b=>a==b
 | .string a,.string b=>a==b
 | .agg a,.agg b=>G5 a.toList b.toList
 |_,_=>false
theorem WQ:∀(a b:List Int),G5 (a.map iV) (b.map iV)=true↔a=b
 |[],[]=>by simp[G5]
 |[],_::_=>by simp[G5]
 |_::_,[]=>by simp[G5]
 |x::a,y::b=>by
  simp only[qE,iV,G5,jF,beq_iff_eq,true_and,TB,beq_self_eq_true];exact and_congr_right fun _=>WQ a b
theorem Ub{a b:List Int}(h:(a.map iV)=(b.map iV)):a=b:=(WQ a b).1 (h▸(WQ a a).2 rfl)
theorem MB{d:TypeDesc}{v:Value}(hd:∀n e,d≠ .array n e)(h:wZ d v):MapKept.IsKey d v:=by
 cases d<;>first|exact h|grind
theorem JA{n:Nat}{e:TypeId}{v:Value}(h:wZ (.array n e) v):∃l:List Int,l.length=n/\v= .agg (l.map iV).toArray:=by
 cases v<;>simp only[wZ,MapKept.IsKey]at h
 grind
theorem Ed{d:TypeDesc}{a b:Value}(ha:wZ d a)(hb:wZ d b):rY a b=true↔a=b:=by
 by_cases hd:∃n e,d= .array n e
 ·obtain⟨n,e,rfl⟩:=hd
  obtain⟨l,_,rfl⟩:=JA ha;obtain⟨m,_,rfl⟩:=JA hb;simp only[rY,WQ];constructor
  ·grind
  ·intro h
   simp only[Value.agg.injEq]at h;exact Ub (by grind)
 ·have Ee:∀n e,d≠ .array n e:=fun n e h=>hd ⟨n,e,h⟩
  have ha:=MB Ee ha;have hb:=MB Ee hb;cases d<;>cases a<;>cases b<;>simp_all [MapKept.IsKey,rY,MapKept.bytes_beq]
theorem I5{α β:Type}{x:Option α}{f:α->β}{b:β}(h:x.map f=some b):∃a,x=some a/\f a=b:=by
 simp_all
section
variable {P : Program}
theorem Bj{d:Nat}{t:TypeId}{fs:Array Field}{xs ys:List AV}(hu:P.underlying t=some (.struct fs)):pA P (d+1) t (.agg xs) (.agg ys)=if P.stoodInHeld t=true then none else DZ P (pA P d) xs ys fs.toList:=by
 simp only[pA,hu]
theorem VD{d:Nat}:∀(fs:List Field) (i n:Nat) (as bs:List Int),y7 P fs i=some n->as.length=n->bs.length=n->
  DZ P (pA P (d+1)) ((as.map iV).map AV.c) ((bs.map iV).map AV.c) fs=some (decide (as.drop i=bs.drop i))
 |[],i,n,as,bs,h,h1,h2=>by
  simp only[y7,bM]at h;subst h;rw[TA oM,TA oM]
  rfl
 |f::fs,i,n,as,bs,h,h1,h2=>by
  simp only[y7]at h;split at h
  ·rename_i hu hs
   split at h
   ·cases h
   ·rename_i hn
    simp only[not_or,ne_eq,Decidable.not_not]at hn
    have rW:∀(fs:List Field) (i n:Nat),y7 P fs i=some n->i<=n:=by
     intro fs
     induction fs with
     |nil=>grind [y7]
     |cons f fs ih=>
      grind [y7]
    have hi:=rW _ _ _ h;have ih:=VD (d:=d) fs (i+1) n as bs h h1 h2;have FQ:fP P f.type=some false:=by unfold fP;rw[hu]
    have p1:∀l:List Int,l.length=n->qL P f.type ((l.map iV).map AV.c) f.offset=some (.c (iV (l.getD i 0))):=fun l hl=>by
     grind [qL]
    have e1:∀x y:Int,pA P (d+1) f.type (.c (iV x)) (.c (iV y))=some (x==y):=fun x y=>by
     simp only[pA,hu,iV,if_true]
    rw[DZ,if_neg hn.1,p1 as h1,p1 bs h2];simp only[e1,ih]
    have hd:∀l:List Int,l.length=n->l.drop i=l.getD i 0::l.drop (i+1):=fun l hl=>by
     grind [List.drop_eq_getElem_cons]
    rw[hd as h1,hd bs h2];rw[show(as.getD i 0==bs.getD i 0)=decide (as.getD i 0=bs.getD i 0)from rfl]
    simp_all
  ·cases h
theorem Eg(E:Env)(W:World)(l:List Int):RV E W (.agg ((l.map iV).map AV.c)) (.agg (l.map iV).toArray):=
 .agg _ _ (by simp) fun i x v h1 h2=>by
   rw[kJ]at h1;rw[CZ]at h2;rw[h2]at h1;simp only[zQ,bM]at h1;subst h1;rw[kJ]at h2;obtain⟨y,_,rfl⟩:=Option.map_eq_some_iff.1 h2;exact .c _ rfl
theorem bg7{kt:TypeId}{n:Nat}{W:World}(hk:vR P kt=some (.array n 0))(as bs:List Int)(h1:as.length=n)(h2:bs.length=n):
  (Op.equal kt (.agg (as.map iV).toArray) (.agg (bs.map iV).toArray)).run P W= .ok (decide (as=bs)) W:=by
 have E0:Env:=⟨fun _=>0,fun _=>0,fun _=>False,fun _=>0⟩
 refine WL 10000 kt _ _ _ _ _ (Eg E0 W as) (Eg E0 W bs) ?_;unfold vR at hk;split at hk
 ·rename_i fs hu
  split at hk
  ·cases hk
  ·rename_i hp
   obtain⟨m,hm,he⟩:=I5 hk;simp only[TypeDesc.array.injEq,and_true]at he;subst he;have:=VD (P:=P) (d:=9998) fs.toList 0 m as bs hm h1 h2;simp only[sZ]at this
   show pA P (9999+1) kt (.agg ((as.map iV).map AV.c)) (.agg ((bs.map iV).map AV.c))=_
   simp_all [Bj]
 ·cases hk
 grind
theorem Uc{kt:TypeId}{n:Nat}{W:World}(hk:vR P kt=some (.array n 0)){k:Value}(r8:wZ (.array n 0) k):∀(l:List MapEntry) (i:Nat),(∀x∈l,wZ (.array n 0) x.key)->
  ((Instr.findAsking kt k l i).run P W= .ok none W/\∀x∈l,x.key≠k)\/∃j e,(Instr.findAsking kt k l i).run P W= .ok (some (i+j,e.val)) W/\l[j]? =some e/\e.key=k
 |[],i,_=> .inl ⟨by rfl,by simp⟩
 |e::es,i,h=>by
  obtain⟨as,h1,rfl⟩:=JA r8;obtain⟨bs,h2,h3⟩:=JA (h e (.head _));have hr:=bg7 (W:=W) hk as bs h1 h2;rw[<-h3]at hr;by_cases AK:as=bs
  ·rw[decide_eq_true AK]at hr
   exact .inr ⟨0,e,by simp[Instr.findAsking,hr],rfl,by grind⟩
  ·rw[decide_eq_false AK]at hr
   have aT:e.key≠ .agg (as.map iV).toArray:=fun q=>AK (by
    rw[h3]at q;simp only[Value.agg.injEq]at q
    exact(Ub (by grind)).symm)
   rcases Uc (W:=W) hk r8 es (i+1) (fun x hx=>h x (.tail _ hx))with⟨h1,h2⟩|⟨j,e',h1,h2,h3⟩
   ·simp_all [Instr.findAsking]
   ·exact .inr ⟨j+1,e',by simp[Instr.findAsking,hr,h1,TC,Nat.add_comm 1 j],by grind,h3⟩
theorem bg8{kt:TypeId}{d:TypeDesc}{W:World}(hk:vR P kt=some d){k:Value}(r8:wZ d k)(l:List MapEntry)(h:∀x∈l,wZ d x.key):
  ((Instr.findKey kt k l).run P W= .ok none W/\∀x∈l,x.key≠k)\/∃j e,(Instr.findKey kt k l).run P W= .ok (some (j,e.val)) W/\l[j]? =some e/\e.key=k:=by
 have z8:=hk;unfold vR at hk;split at hk
 ·rename_i fs hu
  split at hk
  ·cases hk
  ·obtain⟨m,hm,he⟩:=I5 hk
   subst he;rcases Uc (W:=W) z8 r8 l 0 h with⟨h1,h2⟩|⟨j,e,h1,h2,h3⟩
   ·refine .inl ⟨?_,h2⟩
    cases l with
    |nil=>simp[Instr.findKey,run_underlying hu,Result.andThen,Instr.findNow]
    |cons e es=>
     simp_all [Instr.findNow,Instr.sameNow,Instr.findKey,run_underlying]
   ·refine .inr ⟨j,e,?_,h2,h3⟩
    cases l with
    |nil=>simp at h2
    |cons e0 es=>
     simp_all [Instr.findNow,Instr.sameNow,Instr.findKey,run_underlying]
 ·cases hk
 ·rename_i d0 Bk DQ
  have Ee:∀n e,d≠ .array n e:=fun n e q=>by simp_all
  grind [MapKept.findNow_spec,MB,MapKept.run_findKey]
theorem Ud{m n:Nat}{W:World}{em:Bool}(l:List Int):∀(fs:List Field) (i:Nat),y7 P fs i=some n->l.length=n->
  (forIn fs PUnit.unit fun f _=>do
    if f.name≠ "_" then Instr.checkKey em (m+1) f.type (<-part f.type (l.map iV).toArray f.offset)
    pure (ForInStep.yield PUnit.unit):Sem PUnit).run P W= .ok PUnit.unit W
 |[],i,h,hl=>by simp
 |f::fs,i,h,hl=>by
  simp only[y7]at h;split at h
  ·rename_i hu hs
   split at h
   ·cases h
   ·rename_i hn
    simp only[not_or,ne_eq,Decidable.not_not]at hn;have ih:=Ud (m:=m) (W:=W) (em:=em) l fs (i+1) h hl
    have rW:∀(fs:List Field) (i n:Nat),y7 P fs i=some n->i<=n:=by
     intro fs
     induction fs with
     |nil=>grind [y7]
     |cons f fs ih=>
      grind [y7]
    have hi:=rW _ _ _ h;have MC:i<l.length:=oM
    have FQ:fP P f.type=some false:=by unfold fP;rw[hu]
    have hp:(part f.type (l.map iV).toArray f.offset).run P W= .ok (iV l[i]) W:=by
     simp[part,R8 FQ,hn.2,MC]
    have hc:(Instr.checkKey em (m+1) f.type (iV l[i])).run P W= .ok () W:=MapKept.run_checkKey hu (show MapKept.IsKey (.int .i64) (.int .i64 l[i])from rfl) em m
    simp_all
  ·cases h
theorem Ue{kt:TypeId}{d:TypeDesc}{W:World}(hk:vR P kt=some d){k:Value}(r8:wZ d k)(em:Bool):(Instr.checkKey em 10000 kt k).run P W= .ok () W:=by
 unfold vR at hk;split at hk
 ·rename_i fs hu
  split at hk
  ·cases hk
  ·obtain⟨m,hm,he⟩:=I5 hk
   subst he;obtain⟨l,h1,rfl⟩:=JA r8;rw[show(10000:Nat)=9998+1+1 from rfl,Instr.checkKey]
   simp only[Sem.run_bind,run_underlying hu,Result.andThen_ok];rw[<-Array.forIn_toList];have:=Ud (m:=9998) (W:=W) (em:=em) l fs.toList 0 hm h1;simp_all
 ·cases hk
 simp_all [MapKept.run_checkKey,MB]
theorem bg9{d:TypeDesc}{W:World}{k:Value}(r8:wZ d k):(Instr.keyThatStays k k).run P W= .ok k W:=by
 by_cases hd:∃n e,d= .array n e
 ·obtain⟨n,e,rfl⟩:=hd
  obtain⟨l,_,rfl⟩:=JA r8
  have hs:Instr.sameBits 10000 (.agg (l.map iV).toArray) (.agg (l.map iV).toArray)=true:=by
   show Instr.sameBits (9999+1) (.agg (l.map iV).toArray) (.agg (l.map iV).toArray)=true
   simp only[Instr.sameBits,beq_self_eq_true,Ix,iM];intro p hp;obtain⟨i,hi,e⟩:=List.getElem_of_mem hp;rw[List.getElem_zip]at e;rw[<-e];simp[iV,Instr.sameBits]
  simp[Instr.keyThatStays,hs]
 ·exact MapKept.run_keyThatStays (MB (fun n e h=>hd ⟨n,e,h⟩) r8)
end
def sM(k:Value):List (Value×AV)->Option AV
 |[]=>none
 |(k',x)::r=>if rY k' k=true then some x else sM k r
def uH(k:Value)(x:AV):List (Value×AV)->List (Value×AV)
 |[]=> [(k,x)]
 |(k',y)::r=>if rY k' k=true then(k',x)::r else(k',y)::uH k x r
theorem Ag{k:Value}:∀{es:List (Value×AV)},(∀p∈es,rY p.1 k=false)->sM k es=none
 |[],_=>rfl
 |(k',x)::r,h=>by
  simp only[sM,h _ (.head _),qZ,if_false];exact Ag fun p hp=>h p (.tail _ hp)
theorem Ah{k:Value}{x:AV}:∀{es:List (Value×AV)},(∀p∈es,rY p.1 k=false)->uH k x es=es++[(k,x)]
 |[],_=>rfl
 |(k',y)::r,h=>by
  simp only[uH,h _ (.head _),qZ,if_false,BB];rw[Ah fun p hp=>h p (.tail _ hp)]
theorem Uf{k:Value}{x:AV}{k':Value}:∀{es:List (Value×AV)} {j:Nat},es[j]? =some (k',x)->rY k' k=true->(∀i,i<j->∀p,es[i]? =some p->rY p.1 k=false)->sM k es=some x
 |[],j,h,_,_=>by simp at h
 |(k0,y)::r,0,h,hs,_=>by
  simp_all [sM]
 |(k0,y)::r,j+1,h,hs,hn=>by
  have h0:=hn 0 oM (k0,y) rfl
  simp only[sM,h0,qZ,if_false];exact Uf (by simpa using h) hs fun i hi p hp=>hn (i+1) oM p (by grind)
theorem Ug{k:Value}{x y:AV}{k':Value}:∀{es:List (Value×AV)} {j:Nat},es[j]? =some (k',x)->rY k' k=true->(∀i,i<j->∀p,es[i]? =some p->rY p.1 k=false)->uH k y es=es.set j (k',y)
 |[],j,h,_,_=>by simp at h
 |(k0,z)::r,0,h,hs,_=>by
  simp_all [uH]
 |(k0,z)::r,j+1,h,hs,hn=>by
  have h0:=hn 0 oM (k0,z) rfl
  simp only[uH,h0,qZ,if_false,Yx];rw[Ug (by simpa using h) hs fun i hi p hp=>hn (i+1) oM p (by grind)]
section
variable {P : Program} {g : Operand -> Option AV} {G : Nat -> Option aI} {aF : Nat} {dst : Option Tmp} {ty : TypeId} {pos : String} {after : Array Edge} {guard : Option (Nat × Bool)}
theorem Uh{E:Env}{W:World}{es:List (Value×AV)}{ms:Array MapEntry}{clock:Nat}{kt:TypeId}{d:TypeDesc}{k:Value}(hkd:vR P kt=some d)(hs:MapKept.Stamped ms clock)(hl:ms.size=es.length)
  (hc:∀(i:Nat) k x,es[i]? =some (k,x)->∃e,ms[i]? =some e/\e.key=k/\RV E W x e.val) (hk:sN d k=true) (CI:yY d es=true):
  (∀x∈ms.toList,wZ d x.key)/\
  (((Instr.findKey kt k ms.toList).run P W= .ok none W/\(∀x∈ms.toList,x.key≠k)/\sM k es=none/\∀x,uH k x es=es++[(k,x)])\/
  ∃j e x,(Instr.findKey kt k ms.toList).run P W= .ok (some (j,e.val)) W/\ms[j]? =some e/\e.key=k/\es[j]? =some (k,x)/\RV E W x e.val/\sM k es=some x/\∀y,uH k y es=es.set j (k,y)):=by
 have MD:=MA hk
 have dQ:∀(i:Nat) e,ms[i]? =some e->∃x,es[i]? =some (e.key,x)/\RV E W x e.val:=fun i e he=>by
  have hi:i<es.length:=by rw[<-hl];exact(k7.1 he).1
  obtain⟨e',h1,h2,h3⟩:=hc i es[i].1 es[i].2 (by grind)
  grind
 have lC:∀x∈ms.toList,wZ d x.key:=fun x hx=>by
  obtain⟨i,hi⟩:=CT.1 hx;rw[OU]at hi;obtain⟨y,hy,_⟩:=dQ i x hi;exact MA (iM.1 CI _ (fJ hy))
 refine⟨lC,?_⟩;rcases bg8 (W:=W) hkd MD ms.toList lC with⟨h1,h2⟩|⟨j,e,h1,h2,h3⟩
 ·grind [List.mem_iff_getElem?,Ed,Ag,Ah]
 ·rw[OU]at h2
  obtain⟨x,hx,hr⟩:=dQ j e h2;rw[h3]at hx;have uP:rY k k=true:=(Ed MD MD).2 rfl
  have bG:∀i,i<j->∀p,es[i]? =some p->rY p.1 k=false:=fun i kZ p hp=>by
   obtain⟨e',mJ,oZ,_⟩:=hc i p.1 p.2 hp;have hm:e'∈ms.toList:=by rw[Zs];exact Iy mJ
   cases uP:rY p.1 k with
   |false=>rfl
   |true=>
    have heq:=(Ed (oZ▸lC e' hm) MD).1 uP;have uG:=hs.2.2;have g1:(ms.toList.map (·.key))[i]? =some k:=by rw[kJ,OU,mJ,zQ,oZ,heq]
    have g2:(ms.toList.map (·.key))[j]? =some k:=by rw[kJ,OU,h2,zQ,h3]
    grind [List.getElem?_inj]
  grind [Uf,Ug]
def ME:List AV->Option (List Value)
 |[]=>some []
 | .c v::r=>if vW v=true then none else(ME r).map (v:: ·)
 |_=>none
def EB:AV->Option Value
 | .c v=>some v
 | .agg xs=>(ME xs).map fun vs=> .agg vs.toArray
 |_=>none
theorem Ui{E:Env}{W:World}:∀(xs:List AV) (vs us:List Value),ME xs=some vs->xs.length=us.length->(∀(i:Nat) x v,xs[i]? =some x->us[i]? =some v->RV E W x v)->us=vs
 |[],vs,us,h,hl,_=>by
  grind [ME]
 |x::xs,vs,us,h,hl,hr=>by
  cases us with
  |nil=>simp at hl
  |cons u us=>
   cases x<;>simp only[ME,reduceCtorEq]at h
   rename_i v;split at h
   ·cases h
   ·obtain⟨ws,h1,h2⟩:=I5 h
    subst h2;have h3:=hr 0 _ u rfl rfl;cases h3;rw[Ui xs ws us h1 (by grind) fun i x v g1 g2=>hr (i+1) x v (by grind) (by grind)]
theorem Eh{E:Env}{W:World}{a:AV}{k v:Value}(h:EB a=some k)(r:RV E W a v):v=k:=by
 cases a<;>simp only[EB,reduceCtorEq]at h
 ·injection h with h;subst h;cases r;rfl
 ·obtain⟨vs,h1,h2⟩:=I5 h
  subst h2;cases r with
  |agg _ us hl hc=>
  have:=Ui _ _ us.toList h1 oM fun i x v g1 g2=>hc i x v g1 (by grind)
  rw[<-this]
theorem bh1{t kt e:TypeId}{d:TypeDesc}{m x:Operand}{ok:Bool}{id:Nat}{es:List (Value×AV)}{kv:Value}{z:AV}(ht:zU P t=some (kt,e,d))(hz:D4 P e=some z)(hm:g m=some (.omap id))(hg:G id=some (.map es))
  {xa:AV} (hx:g x=some xa) (MF:EB xa=some kv) (hk:sN d kv=true) (CI:yY d es=true):
  eT P g G aF ⟨dst,.lookup t m x ok,ty,pos,after,guard⟩ (if ok=true then .aK [(sM kv es).getD z,.c (.bool (sM kv es).isSome)]else(sM kv es).getD z) G:=
 .still fun E W ρ hG b9=>by
   have r6:=b9 m _ hm;have gX:=b9 x _ hx;generalize JB:ρ m=vm at r6;generalize cY:ρ x=vx at gX;obtain rfl:=(Eh MF gX).symm;cases r6;obtain⟨hu,JC⟩:=WN ht;obtain⟨zv,AU,hzv⟩:=Ec hz;obtain⟨⟨ms,clock,h1,h2,h3,h4⟩,_,_⟩:=(hG.ok id _ hg).2;obtain⟨lC,hf⟩:=Uh JC h2.1 h3 h4 hk CI;have e1:=MapKept.run_getObj_map (P:=P) h1;have e3:=Ue (P:=P) (W:=W) JC (MA hk) ms.isEmpty
   rcases hf with⟨f1,f2,f3,_⟩|⟨j,e',y,f1,f2,f3,f4,f5,f6,_⟩
   ·have e4:=f1
    have hr:(Instr.lookup t (.map (some (E.ι id))) kv ok).run P W= .ok (if ok=true then .tuple #[zv,.bool false]else zv) W:=by
     simp[Instr.lookup,Sem.run_bind,run_underlying hu,Result.andThen,e1,e3,e4,AU]
    refine⟨_,by simp only[execOp,JB,cY];rw[Sem.run_bind,hr];rfl,?_⟩
    rw[f3];cases ok with
    |false=>grind
    |true=>
     refine .aK _ _ rfl fun i a v ha hv=> ?_
     rcases i with _|_|i
     ·grind
     ·simp at ha hv;subst ha;subst hv;exact .c _ rfl
     grind
   ·have e4:=f1
    have hr:(Instr.lookup t (.map (some (E.ι id))) kv ok).run P W= .ok (if ok=true then .tuple #[e'.val,.bool true]else e'.val) W:=by
     simp[Instr.lookup,Sem.run_bind,run_underlying hu,Result.andThen,e1,e3,e4]
    refine⟨_,by simp only[execOp,JB,cY];rw[Sem.run_bind,hr];rfl,?_⟩
    rw[f6];cases ok with
    |false=>exact f5
    |true=>
     refine .aK _ _ rfl fun i a v ha hv=> ?_
     rcases i with _|_|i
     ·grind
     ·simp at ha hv;subst ha;subst hv;exact .c _ rfl
     grind
theorem bh2{t kt e:TypeId}{d:TypeDesc}{m:Operand}{id:Nat}{es:List (Value×AV)}(ht:zU P t=some (kt,e,d))(hm:g m=some (.omap id))(hg:G id=some (.map es)):
  eT P g G aF ⟨dst,.call ⟨.builtin .len,#[m],#[t]⟩,ty,pos,after,guard⟩ (.c (.int .i64 es.length)) G:=
 .still fun E W ρ hG b9=>by
   have r6:=b9 m _ hm;generalize JB:ρ m=vm at r6;cases r6;obtain⟨hu,JC⟩:=WN ht;obtain⟨⟨ms,clock,h1,h2,h3,h4⟩,_,_⟩:=(hG.ok id _ hg).2;refine⟨.int .i64 es.length,?_,.c _ rfl⟩;rw[zH];simp[builtin,JB,Builtin.len_,run_underlying hu,MapKept.run_getObj_map h1,goInt,Result.andThen,h3,Sem.run_bind]
theorem bE.bh3{E:Env}{W:World}{G:Nat->Option aI}{id:Nat}(hU:E.U id){ms:Array MapEntry}{clock:Nat}(hb:W.heap[E.ι id]? =some (.map ms clock))(hL:E.L (E.ι id)=0)(AX:Array MapEntry)(EC:Nat):
  bE E W E {W with heap:=W.heap.setIfInBounds (E.ι id) (.map AX EC)}where
 os:=rfl
 tape:=rfl
 output:=rfl
 size:=by simp
 used:=fun _ h=>h
 jK:=fun _ _=>⟨rfl,rfl⟩
 lim:=fun _=>cA _
 wV:=fun b k hk=>by
  grind [World.cell?]
 rJ:=fun b _ hf=>(MapKept.heap_set (w:=W) (o':= .map AX EC) hb).2 b fun e=>hf id hU e.symm
 aR:=fun b c e f h=>by
  grind
 still:=fun _ _ _=>rfl
 fresh:=fun id h h'=>absurd h' h
 loops:=fun b r h=>by
  grind
theorem bh4{t kt e:TypeId}{d:TypeDesc}{m x y:Operand}{id:Nat}{es:List (Value×AV)}{kv:Value}{a:AV}(ht:zU P t=some (kt,e,d))(hm:g m=some (.omap id))(hg:G id=some (.map es))
  {xa:AV} (hx:g x=some xa) (MF:EB xa=some kv) (hy:g y=some a) (hk:sN d kv=true) (CI:yY d es=true):
  eT P g G aF ⟨dst,.mapUpdate t m x y,ty,pos,after,guard⟩ (.c undef) (aY G [(id,some (.map (uH kv a es)))]):=fun E W ρ hG gT b9=>by
 have r6:=b9 m _ hm;have gX:=b9 x _ hx;have mL:=b9 y _ hy;generalize JB:ρ m=vm at r6;generalize cY:ρ x=vx at gX;generalize mK:ρ y=vy at mL;obtain rfl:=(Eh MF gX).symm;cases r6;obtain⟨hu,JC⟩:=WN ht;obtain⟨hU,⟨ms,clock,h1,h2,h3,h4⟩,hL,dM⟩:=hG.ok id _ hg;obtain⟨lC,hf⟩:=Uh JC h2.1 h3 h4 hk CI;have e1:=MapKept.run_getObj_map (P:=P) h1;have e3:=Ue (P:=P) (W:=W) JC (MA hk) false
 have fin:∀(AX:Array MapEntry) (EC:Nat),(Instr.mapUpdate t (.map (some (E.ι id))) kv vy).run P W= .ok () {W with heap:=W.heap.setIfInBounds (E.ι id) (.map AX EC)}->
   Dm AX EC->AX.size=(uH kv a es).length->(∀(i:Nat) k x,(uH kv a es)[i]? =some (k,x)->∃e,AX[i]? =some e/\e.key=k/\RV E W x e.val)->
   ∃W' v E',((execOp ρ ⟨dst,.mapUpdate t m x y,ty,pos,after,guard⟩).run P W= .ok (.value v) W'\/((execOp ρ ⟨dst,.mapUpdate t m x y,ty,pos,after,guard⟩).run P W= .ok .skip W'/\v=undef))/\bE E W E' W'/\
    RC E' W' (aY G [(id,some (.map (uH kv a es)))])/\RV E' W' (.c undef) v/\(∀q,E'.U q->E.U q\/(q=aF/\(aY G [(id,some (.map (uH kv a es)))] aF).isSome=true)):=by
  intro AX EC hr E6 wX AR;have hv:=bE.bh3 (G:=G) hU h1 hL AX EC;obtain⟨FR,AP⟩:=MapKept.heap_set (w:=W) (o':= .map AX EC) h1;refine⟨_,undef,E,.inr ⟨?_,rfl⟩,hv,⟨fun b hb=>hG.lim b (by grind),fun aL h=>by simpa using hG.eJ aL h,fun aL b h=> ?_⟩,.c _ rfl,fun _ h=> .inl h⟩
  ·simp_all [execOp]
  ·by_cases aC:aL=id
   ·subst aC
    simp only[aY,if_true,bM]at h;subst h;refine⟨hU,⟨AX,EC,FR,E6,wX,fun i k x hx=> ?_⟩,hL,fun eP eY aT dR=> ?_⟩
    ·obtain⟨e,mJ,oZ,uQ⟩:=AR i k x hx
     exact⟨e,mJ,oZ,uQ.mono hv⟩
    simp_all [aY]
   ·simp only[aY,aC,if_false]at h
    obtain⟨g2,g3⟩:=hG.ok aL b h;have eV:E.ι aL≠E.ι id:=dM aL b aC h;refine⟨g2,g3.mono hv g2 (AP _ eV) rfl fun eP eY aT dR he=> ?_⟩
    by_cases Tg:eP=id
    ·grind
    simp_all [aY]
 rcases hf with⟨f1,f2,f3,f4⟩|⟨j,e',y',f1,f2,f3,f4,f5,f6,f7⟩
 ·have e4:=f1
  refine fin (ms.push ⟨kv,vy,clock⟩) (clock+1) ?_ ⟨MapKept.stamped_push h2.1 f2,by rw[h2.2.1];simp,fun i e he=>by
   rw[Array.getElem?_push]at he;split at he
   ·rename_i q;injection he with he;subst he;rw[q,h2.2.1]
   ·exact h2.2.2 i e he⟩ (by grind) fun i k x hx=> ?_
  ·have e2:=MapKept.run_setObj_map (P:=P) (w:=W) (.map (ms.push ⟨kv,vy,clock⟩) (clock+1)) h1
   simp only[Instr.mapUpdate,Sem.run_bind,run_underlying hu,Result.andThen,e1,e3,e4,e2]
  ·rw[f4]at hx
   by_cases hi:i<es.length
   ·grind
   ·have wI:i=es.length:=by
     have:=(fT.1 hx).1;simp at this;omega
    subst wI;simp only[nI (cA _),B7,qX,bM,cQ]at hx;obtain⟨rfl,rfl⟩:=hx;exact⟨⟨kv,vy,clock⟩,by grind,rfl,mL⟩
 ·have e4:=f1
  have e5:=bg9 (P:=P) (W:=W) (MA hk)
  have hjk:∀e∈ms.toList,ms[j]? =some e->({e with key:=kv,val:=vy}:MapEntry).key=e.key:=fun e _ h=>by
   grind
  refine fin (ms.modify j fun e=>{e with key:=kv,val:=vy}) clock ?_ ⟨MapKept.stamped_modify h2.1 j _ (fun _ _=>rfl) hjk,by rw[h2.2.1];simp,fun i e he=>by
   rw[Array.getElem?_modify]at he;split at he
   ·rename_i q
    subst q;rw[f2]at he;simp only[zQ,bM]at he;subst he;exact(h2.2.2 j e' f2:e'.born=j)
   ·exact h2.2.2 i e he⟩ (by grind) fun i k x hx=> ?_
  ·have e2:=MapKept.run_setObj_map (P:=P) (w:=W) (.map (ms.modify j fun e=>{e with key:=kv,val:=vy}) clock) h1
   have e6:((ms[j]?).map (·.key)).getD kv=kv:=by rw[f2];simp[f3]
   simp only[Instr.mapUpdate,Sem.run_bind,run_underlying hu,Result.andThen,e1,e3,e4,e6,e5,e2]
  grind
theorem bh6{t:TypeId}:eT P g G aF ⟨dst,.makeMap t none,ty,pos,after,guard⟩ (.omap aF) (aY G [(aF,some (.map []))]):=fun E W ρ hG gT b9=>by
 have hv:=bE.alloc hG gT (.map #[] 0) 0;refine⟨_,.map (some W.heap.size),_,.inl ?_,hv,⟨fun b hb=>hG.lim b (by simp at hb;omega),fun id h=> ?_,fun id b h=> ?_⟩,?_,fun id h=>h.imp (fun h=>h) (fun e=>⟨e,by simp[aY]⟩)⟩
 ·rfl
 ·rcases h with h|h
  ·have aT:id≠aF:=fun e=>gT (e▸h)
   have:=hG.eJ id h;simp[Env.more,aT];omega
  simp_all [Env.more]
 ·by_cases aC:id=aF
  ·subst aC
   simp only[aY,if_true,bM]at h;subst h;refine⟨.inr rfl,⟨#[],0,by simp only[Env.more,if_true];exact heap_alloc_new W _,⟨MapKept.stamped_empty 0,rfl,fun i e h=>by simp at h⟩,rfl,fun i k x hx=>by simp at hx⟩,?_,fun aL b' aT hg=> ?_⟩
   ·simp only[Env.more,if_true];exact hG.lim _ (cA _)
   ·simp only[aY,aT,if_false]at hg
    have:=hG.eJ aL (hG.ok aL b' hg).1;simp only[Env.more,aT,if_true,if_false];omega
  ·simp only[aY,aC,if_false]at h
   obtain⟨h1,h2⟩:=hG.ok id b h;have bG:=hG.eJ id h1;refine⟨.inl h1,h2.mono hv h1 (Below.heap_alloc W _ _ bG) rfl fun aL b' aT hg he=> ?_⟩
   by_cases M6:aL=aF
   ·simp_all [Env.more]
   simp_all [aY,Env.more]
 ·have:=RV.omap (E:=E.more aF W.heap.size 0) (W:=W.alloc (.map #[] 0)) aF (.inr rfl)
  grind [Env.more]
def RK:Value->AV
 | .agg cs=> .agg (cs.toList.map AV.c)
 |v=> .c v
theorem Uj{E:Env}{W:World}{d:TypeDesc}{k:Value}(h:sN d k=true):RV E W (RK k) k:=by
 have h2:=MA h;by_cases hd:∃n e,d= .array n e
 ·obtain⟨n,e,rfl⟩:=hd
  obtain⟨l,_,rfl⟩:=JA h2;exact Eg E W l
 ·have h3:=MB (fun n e h=>hd ⟨n,e,h⟩) h2
  cases d<;>cases k<;>simp only[MapKept.IsKey]at h3<;>exact .c _ rfl
theorem bh7{t kt e:TypeId}{d:TypeDesc}{m:Operand}{id:Nat}{es:List (Value×AV)}(ht:zU P t=some (kt,e,d))(hm:g m=some (.omap id))(hg:G id=some (.map es)):
  eT P g G aF ⟨dst,.range t m,ty,pos,after,guard⟩ (.ptr aF 0 0) (aY G [(aF,some (.iter id es.length []))]):=fun E W ρ hG gT b9=>by
 have r6:=b9 m _ hm;generalize JB:ρ m=vm at r6;cases r6;obtain⟨hu,JC⟩:=WN ht;obtain⟨hU,⟨ms,clock,h1,h2,h3,h4⟩,_,_⟩:=hG.ok id _ hg;have gZ:clock=es.length:=by rw[h2.2.1,h3]
 subst gZ;have hv:=bE.alloc hG gT (.mapIter (some (E.ι id)) es.length #[] es.length) 0;have U3:id≠aF:=fun e=>gT (e▸hU)
 refine⟨_,.pointer (some ⟨W.heap.size,0,none⟩),_,.inl ?_,hv,⟨fun b hb=>hG.lim b (by simp at hb;omega),fun id h=> ?_,fun id b h=> ?_⟩,?_,fun id h=>h.imp (fun h=>h) (fun e=>⟨e,by simp[aY]⟩)⟩
 ·simp only[execOp,JB]
  rw[Sem.run_bind];simp[Instr.range,run_underlying hu,MapKept.run_getObj_map h1]
 ·rcases h with h|h
  ·have aT:id≠aF:=fun e=>gT (e▸h)
   have:=hG.eJ id h;simp[Env.more,aT];omega
  simp_all [Env.more]
 ·by_cases aC:id=aF
  ·subst aC
   simp only[aY,if_true,bM]at h;subst h;refine⟨.inr rfl,⟨?_,.inl hU⟩,?_,fun aL b' aT hg=> ?_⟩
   ·simp only[Env.more,if_true,U3,if_false];exact heap_alloc_new W _
   ·simp only[Env.more,if_true];exact hG.lim _ (cA _)
   ·simp only[aY,aT,if_false]at hg
    have:=hG.eJ aL (hG.ok aL b' hg).1;simp only[Env.more,aT,if_true,if_false];omega
  ·simp only[aY,aC,if_false]at h
   obtain⟨h1,h2⟩:=hG.ok id b h;have bG:=hG.eJ id h1;refine⟨.inl h1,h2.mono hv h1 (Below.heap_alloc W _ _ bG) rfl fun aL b' aT hg he=> ?_⟩
   by_cases M6:aL=aF
   ·simp_all [Env.more]
   simp_all [aY,Env.more]
 ·have:=RV.ptr (E:=E.more aF W.heap.size 0) (W:=W.alloc (.mapIter (some (E.ι id)) es.length #[] es.length)) aF 0 0 (.inr rfl)
  grind [Env.more]
theorem bh8{d:TypeDesc}{x:Operand}{id m n i:Nat}{seen:List Nat}{es:List (Value×AV)}{k:Value}{a:AV}(hx:g x=some (.ptr id 0 0))(hg:G id=some (.iter m n (seen++[i])))(hm:G m=some (.map es))
  (hn:es.length=n) (he:es[i]? =some (k,a)) (hk:sN d k=true):eT P g G aF ⟨dst,.entry x,ty,pos,after,guard⟩ (.aK [RK k,a]) G:=
 .still fun E W ρ hG b9=>by
   have gX:=b9 x _ hx;generalize cY:ρ x=vx at gX;cases gX;obtain⟨⟨ms,clock,h1,h2,h3,h4⟩,_,_⟩:=(hG.ok m _ hm).2;obtain⟨⟨h5,h7⟩,_,_⟩:=(hG.ok id _ hg).2;have gZ:clock=n:=by rw[h2.2.1,h3,hn]
   subst gZ;obtain⟨en,mJ,oZ,uQ⟩:=h4 i k a he;have hb:en.born=i:=h2.2.2 i en mJ;have MG:en∈ms.toList:=by rw[Zs];exact Iy mJ
   have hf:ms.find? (·.born==i)=some en:=by rw[<-Array.find?_toList,<-hb];exact find_born en ms.toList h2.1.2.1 MG
   have hbk:(seen++[i]).toArray.back? =some i:=by simp
   refine⟨.tuple #[en.key,en.val],?_,.aK _ _ rfl fun j y v hy hv=> ?_⟩
   ·simp only[execOp,cY,zR,KJ]
    simp_all [Instr.entry,getObj,Sem.run]
   grind [Uj]
theorem run_next_any{W:World}{r bm n clock:Nat}{seen:List Nat}{ms:Array MapEntry}{ty:TypeId}(hr:W.heap[r]? =some (.mapIter (some bm) n seen.toArray n))(hb:W.heap[bm]? =some (.map ms clock))(hs:Dm ms clock)(hn:ms.size=n):
  ((∀i,i<n->i∈seen)/\(Instr.next (.pointer (some ⟨r,0,none⟩)) false ty).run P W= .ok (.tuple #[.bool false]) W)\/
  ∃i e,i<n/\i∉seen/\ms[i]? =some e/\∃w1,(w1=W\/w1=W.drew)/\(Instr.next (.pointer (some ⟨r,0,none⟩)) false ty).run P W= .ok (.tuple #[.bool true,e.key,e.val]) {w1 with heap:=w1.heap.setIfInBounds r (.mapIter (some bm) n (seen++[i]).toArray n)}:=by
 have gZ:clock=n:=by rw[hs.2.1,hn]
 subst gZ;have Uk:∀e∈ms.toList,e.born<clock:=fun e he=>hs.1.1 e he
 simp only[Instr.next,getObj,Sem.run_bind,Sem.run,hr,hb,Result.andThen,next_test_false seen.toArray ms clock clock Uk (cA _),qZ,if_false]
 have MG:∀x∈(Array.filter (fun e=> !seen.toArray.contains e.born) ms).toList,x∈ms.toList/\x.born∉seen:=fun x hx=>by
  grind
 have lC:∀x∈ms.toList,x.born∉seen->x∈(Array.filter (fun e=> !seen.toArray.contains e.born) ms).toList:=fun x hx h=>by
  grind
 generalize Array.filter (fun e=> !seen.toArray.contains e.born) ms=L at MG lC⊢
 have e1:L.filter (fun x=>decide (x.born<clock))=L:=Array.filter_eq_self.2 (fun x hx=>by grind)
 have e2:L.filter (fun x=>decide (x.born>=clock))= #[]:=by
  rw[Array.filter_eq_empty_iff];intro x hx;have:=Uk x (MG x (by grind)).1
  simp;omega
 simp only[e1,e2,Array.append_empty];by_cases h0:L.size=0
 ·left
  have:L= #[]:=Array.eq_empty_of_size_eq_zero h0;subst this;refine⟨fun i hi=> ?_,by simp[choose,Sem.run,Question.forced]⟩
  apply Classical.byContradiction;intro Bk;have hg:ms[i]? =some ms[i]:=OV oM
  have BO:=hs.2.2 i _ hg
  grind
 ·right
  have aT:L.isEmpty=false:=by simp[Array.isEmpty,h0]
  simp only[aT,qZ,if_false,Array.empty_append,Array.size_map]
  have hch:∃(j:Nat) (w1:World),j<L.size/\(w1=W\/w1=W.drew)/\(choose (Question.mapNext L.size)).run P W= .ok j w1:=by
   by_cases hf:L.size<=1
   ·exact⟨0,W,oM,.inl rfl,by simp[choose,Sem.run,Question.forced,hf]⟩
   ·exact⟨_,W.drew,Ij _ oM,.inr rfl,by
     simp only[choose,Sem.run,Question.forced,decide_eq_true_eq,hf,if_false,Question.cut]
     rfl⟩
  obtain⟨j,w1,hj,CF,eQ⟩:=hch;obtain⟨h5,h6⟩:=MG L[j] (by simp)
  obtain⟨i,hi⟩:=CT.1 h5;rw[OU]at hi;have BO:=hs.2.2 i _ hi;have MC:i<clock:=by rw[<-hn];exact(k7.1 hi).1
  have BV:w1.heap[r]? =some (.mapIter (some bm) clock seen.toArray clock):=by rcases CF with rfl|rfl<;>exact hr
  refine⟨i,L[j],MC,by grind,hi,w1,CF,?_⟩
  simp_all [setObj,Sem.run]
end
end Go.AL
namespace Go.AL
open Go.RowKit
section
variable {P : Program} {g : Operand -> Option AV} {G : Nat -> Option aI} {aF : Nat} {dst : Option Tmp} {ty : TypeId} {pos : String} {after : Array Edge} {guard : Option (Nat × Bool)}
theorem bi0{a0:Option Addr}{t e:TypeId}{k:Nat}{x y:Operand}{b:AV}{rd:List Nat}(ht:fB P t=some (e,k))(hx:g x=some (.c (.slice a0 0 0)))(hy:g y=some b)(hb:rowsOf G b=some ([],rd)):
  eT P g G aF ⟨dst,.call ⟨.builtin .append,#[x,y],#[t,t]⟩,ty,pos,after,guard⟩ (.c (.slice a0 0 0)) G:=
 .still fun E W ρ hG b9=>by
   have gX:=b9 x _ hx;have mL:=b9 y _ hy;generalize cY:ρ x=vx at gX;generalize mK:ρ y=vy at mL;obtain⟨RI,n2,z6,rfl,qT,_,_⟩:=M5 hG mL hb;simp at qT;subst qT;cases gX;refine⟨_,?_,.c _ rfl⟩;rw[zH];simp only[builtin,T9,qE,GU,cY,mK];rw[Sem.run_bind,Eb ht _ _ _ _ _ _ (cA _)];rfl
theorem bi1{a0:Option Addr}{t e:TypeId}{k lU:Nat}{zs:List AV}{x y:Operand}{bB:List (List AV)}{b:AV}{rd:List Nat}(ht:fB P t=some (e,k))(hz:eX P e=some zs)(J4:zs.length=k)(qB:oK P e=some lU)
  (hx:g x=some (.c (.slice a0 0 0))) (hy:g y=some b) (hb:rowsOf G b=some (bB,rd)) (aT:bB≠[]) (h1:bB.all (fun r=>r.length==k&&r.all AV.one)=true)
  (RF:bB.length<=9223372036854775807) (LB:bB.length*lU<=140737488355328):
  eT P g G aF ⟨dst,.call ⟨.builtin .append,#[x,y],#[t,t]⟩,ty,pos,after,guard⟩ (.own aF 0 bB.length) (aY G [(aF,some (.cells e k bB true true))]):=fun E W ρ hG gT b9=>by
 have gX:=b9 x _ hx;have mL:=b9 y _ hy;generalize cY:ρ x=vx at gX;generalize mK:ρ y=vy at mL;cases gX;obtain⟨hu,hk⟩:=vX ht;obtain⟨i,z,hi,wY,AU⟩:=J3 hz;have iJ:=WH hi hk;have WJ:i.bytes=lU:=by simp[oK,hi]at qB;exact qB
 have h8:z.cells.size=k:=by have:=(AU E W).1;simp at this;omega
 obtain⟨b2,p2,z6,fI,news,y6,BW,uF,CG⟩:=LH hG mL hb aT h1;subst fI;have H7:0<bB.length:=T7.2 aT;have BY:∀(j:Nat) u,news[j]? =some u->W.cell? ((⟨b2,p2,none⟩:Addr).add j)=some u:=fun j u hu=>by grind [Addr.add_lit]
 have hr:(Builtin.append_ #[t,t] ty #[.slice a0 0 0,.slice (some ⟨b2,p2,none⟩) bB.length z6]).run P W= .ok (.slice (some ⟨W.heap.size,0,none⟩) bB.length (grownCap W bB.length 0 e)) (W.drew.alloc (.cells (news.toArray++Builtin.zeroCells z.cells (grownCap W bB.length 0 e-bB.length)) e)):=by
  cases a0 with
  |none=>grind [run_append_nil]
  |some a1=>
   have h:=run_append_grow (P:=P) W t ty e i z hu hi wY a1 0 0 [] (by simp) (fun j u hu=>by simp at hu) ⟨b2,p2,none⟩ bB.length z6 news (by grind) BY oM (by simp;omega) (growslice_fits oM (by grind))
   grind
 have rW:=grownCap_ge W bB.length 0 e
 have RG:(news.toArray++Builtin.zeroCells z.cells (grownCap W bB.length 0 e-bB.length)).size=grownCap W bB.length 0 e*k:=by
  simp only[Io,OS,y6,size_zeroCells,h8,<-wE];congr 1;omega
 have hmul:bB.length*k<=grownCap W bB.length 0 e*k:=mO k rW;have G4:=hG.drew
 have CF:=G4.alloc gT e (news.toArray++Builtin.zeroCells z.cells (grownCap W bB.length 0 e-bB.length)) k bB true true (WI h1) oM (fun i j row x h5 h6=>by
  obtain⟨v,h7,h9⟩:=CG i j row x h5 h6;refine⟨v,?_,h9.mono (bE.drew E W)⟩
  grind)
 have hv:=(bE.drew E W).trans (bE.alloc G4 gT (.cells (news.toArray++Builtin.zeroCells z.cells (grownCap W bB.length 0 e-bB.length)) e) k);refine⟨_,.slice (some ⟨W.heap.size,0,none⟩) bB.length (grownCap W bB.length 0 e),_,.inl ?_,hv,CF,?_,fun id h=>h.imp (fun h=>h) (fun e=>⟨e,by simp[aY]⟩)⟩
 ·simp_all [zH,builtin]
 ·have:=RV.own (E:=E.more aF W.drew.heap.size k) (W:=W.drew.alloc (.cells (news.toArray++Builtin.zeroCells z.cells (grownCap W bB.length 0 e-bB.length)) e)) aF 0 bB.length (grownCap W bB.length 0 e) (.inr rfl) rW
   ⟨_,e,(0,0),by simp only[Env.more,if_true];exact heap_alloc_new W.drew _,by simp_all [Env.more]⟩
  simp_all [Env.more]
theorem bi2{t e:TypeId}{k lU:Nat}{zs:List AV}{x y:Operand}{kl kc:IntKind}{l c:Int}(ht:fB P t=some (e,k))(hz:eX P e=some zs)(J4:zs.length=k)(qB:oK P e=some lU)
  (hx:g x=some (.c (.int kl l))) (hy:g y=some (.c (.int kc c))) (h0:0<=l) (eI:l<=c) (RF:c<=9223372036854775807) (LB:(lU:Int)*c<=281474976710656):
  eT P g G aF ⟨dst,.makeSlice t x y,ty,pos,after,guard⟩ (.own aF 0 l.toNat) (aY G [(aF,some (.cells e k (List.replicate l.toNat zs) true true))]):=fun E W ρ hG gT b9=>by
 have gX:=b9 x _ hx;have mL:=b9 y _ hy;generalize cY:ρ x=vx at gX;generalize mK:ρ y=vy at mL;cases gX;cases mL;obtain⟨hu,hk⟩:=vX ht;obtain⟨i,z,hi,wY,AU⟩:=J3 hz;have iJ:=WH hi hk;have WJ:i.bytes=lU:=by simp[oK,hi]at qB;exact qB
 have h8:z.cells.size=k:=by have:=(AU E W).1;simp at this;omega
 have hr:=run_make (P:=P) W t e i z hu hi wY kl kc l c h0 eI (by grind) RF
 rw[iJ]at hr;have hmul:l.toNat*k<=c.toNat*k:=mO k oM
 have cS:∀(i:Nat) row,(List.replicate l.toNat zs)[i]? =some row->i<l.toNat/\row=zs:=fun i row hr=>by
  grind
 have CF:=hG.alloc gT e (madeCells z.cells (c.toNat*k)) k (List.replicate l.toNat zs) true true (fun i row hr=>by grind) (by grind [size_madeCells]) (fun i j row x h5 h6=>by
  obtain⟨h9,rfl⟩:=cS i row h5;obtain⟨v,h7,fG⟩:=(AU E W).get h6;have hj:j<k:=by rw[<-J4];exact(fT.1 h6).1
  have bG:=y4 h9 hj;refine⟨v,?_,fG⟩;have bi3:(i*k+j) % k=j:=by rw[Nat.mul_comm,Nat.mul_add_mod];exact GX hj
  have FN:j<z.cells.size:=oM
  have hv:z.cells[j]? =some v:=by simpa using h7
  have sV:i*k+j<c.toNat*k:=oM
  simp_all [madeCells])
 refine⟨_,.slice (some ⟨W.heap.size,0,none⟩) l.toNat c.toNat,_,.inl ?_,bE.alloc hG gT (.cells (madeCells z.cells (c.toNat*k)) e) k,CF,?_,fun id h=>h.imp (fun h=>h) (fun e=>⟨e,by simp[aY]⟩)⟩
 ·simp_all [execOp]
 ·have:=RV.own (E:=E.more aF W.heap.size k) (W:=W.alloc (.cells (madeCells z.cells (c.toNat*k)) e)) aF 0 l.toNat c.toNat (.inr rfl) oM
   ⟨_,e,(0,0),by simp only[Env.more,if_true];exact heap_alloc_new W _,by simp_all [Env.more,size_madeCells]⟩
  grind [Env.more]
theorem bi4{x:Operand}{id i o:Nat}(hx:g x=some (.ptr id i o)):eT P g G aF ⟨dst,.nilCheck x,ty,pos,after,guard⟩ (.ptr id i o) G:=
 .still fun E W ρ hG b9=>by
   have gX:=b9 x _ hx;generalize cY:ρ x=vx at gX;refine⟨vx,?_,gX⟩;cases gX;simp[execOp,cY]
theorem bi5{x:Operand}{rows:List (List AV)}{i o:Nat}(hx:g x=some (.cH rows i o)):eT P g G aF ⟨dst,.nilCheck x,ty,pos,after,guard⟩ (.cH rows i o) G:=
 .still fun E W ρ hG b9=>by
   have gX:=b9 x _ hx;generalize cY:ρ x=vx at gX;refine⟨vx,?_,gX⟩;cases gX;simp[execOp,cY]
end
def dN(g:Operand->Option AV):List Operand->Option (List AV)
 |[]=>some []
 |x::r=>match g x,dN g r with
  |some a,some l=>some (a::l)
  |_,_=>none
theorem uT{E:Env}{W:World}{g:Operand->Option AV}{ρ:Operand->Value}(b9:∀x b,g x=some b->RV E W b (ρ x)):∀(xs:List Operand) (as:List AV),dN g xs=some as->bP E W as (xs.map ρ)
 |[],as,h=>by simp only[dN,bM]at h;subst h;exact .nil
 |x::r,as,h=>by
  simp only[dN]at h;split at h
  ·rename_i a l ha hl
   injection h with h
   subst h;exact .cons (b9 x a ha) (uT b9 r l hl)
  ·cases h
theorem bi6{P:Program}{g:Operand->Option AV}{G:Nat->Option aI}{aF:Nat}{dst:Option Tmp}{ty:TypeId}{pos:String}{after:Array Edge}{guard:Option (Nat×Bool)}{fn:Fn}{first captured:Array Operand}{fs cs:List AV}
  (hf:dN g first.toList=some fs) (hc:dN g captured.toList=some cs):eT P g G aF ⟨dst,.makeFunc fn first captured,ty,pos,after,guard⟩ (.fn fn fs cs) G:=
 .still fun E W ρ hG b9=>by
   have h1:=uT b9 _ _ hf;have h2:=uT b9 _ _ hc;exact⟨.func fn (first.map ρ) (captured.map ρ),by rfl,.fn fn fs cs _ _ (by simpa using h1.1) (by simpa using h2.1) (fun i x v hx hv=>h1.2 i x v hx (by grind)) (fun i x v hx hv=>h2.2 i x v hx (by grind))⟩
abbrev jI:=AV×List (Nat×Option aI)×List Nat
section
variable (P : Program) (g : Operand -> Option AV) (G : Nat -> Option aI) (aF : Nat)
def Ei(b p q:Option AV):Option jI:=
 match b with
 |some (.c (.bool b))=>match p,q with
  |some (.c (.bool p)),some (.c (.bool q))=>some (.c (.bool (cond b p q)),[],[])
  |_,_=>match b with
   |true=>p.map fun a=>(a,[],[])
   |false=>q.map fun a=>(a,[],[])
 |_=>none
def U7:Value->Bool
 | .slice none n c=>n==0&&c==0
 |_=>false
def Ej(op:BinOp)(t:TypeId)(x:AV)(b:Value):Option jI:=
 match U7 b with
 |true=>match fB P t,RJ x with
  |some _,some r=>(CH op r).map fun v=>(.c v,[],[])
  |_,_=>none
 |false=>match x with
  | .c a=>(J2 P op t a b).map fun v=>(.c v,[],[])
  |_=>none
def Ek(op:BinOp)(t:TypeId):Option AV->Option AV->Option jI
 |some x,some (.c b)=>Ej P op t x b
 |some (.agg xs),some (.agg ys)=>match vJ P t (.agg xs) (.agg ys)with
  |some r=>(CH op r).map fun v=>(.c v,[],[])
  |none=>none
 |_,_=>none
def El:UnOp->Option AV->Option jI
 | .not,some (.c (.bool b))=>some (.c (.bool (!b)),[],[])
 | .neg,some (.c (.int k n))=>some (.c (.int k (k.wrap (0-n))),[],[])
 | .xor,some (.c (.int k n))=>some (.c (.int k (bits .xor k (if k.signed then-1 else k.max) n)),[],[])
 |_,_=>none
def Em(src t:TypeId):Option AV->Option jI
 |some (.c (.int _ n))=>match wF P src,wF P t with
  |some _,some kd=>some (.c (.int kd (kd.wrap n)),[],[])
  |_,_=>none
 |_=>none
def Bc:List AV->Option Int
 |[.c (.int .u8 n)]=>some n
 |_=>none
def FI:List (List AV)->Option (List Int)
 |[]=>some []
 |r::rs=>match Bc r,FI rs with
  |some n,some l=>some (n::l)
  |_,_=>none
def I2(l:List Int):ByteArray:=l.foldl (fun r n=>r.push (UInt8.ofNat n.toNat)) ByteArray.empty
def WR(src t:TypeId)(a:Option AV):Option jI:=
 match mP P t isString with
 |true=>match fB P src,a.bind (rowsOf G)with
  |some (e,1),some (rows,rd)=>match wF P e,FI rows with
   |some .u8,some l=>some (.c (.string (I2 l)),[],rd)
   |_,_=>none
  |_,_=>none
 |false=>none
def MH(src t:TypeId):Option AV->Option jI
 |some (.c (.int k n))=>Em P src t (some (.c (.int k n)))
 |a=>WR P G src t a
def En(t:TypeId):Option AV->Option jI
 |some (.snap rows)=>match r4 P t with
  |some (n,_,k)=>if k=1/\0<n/\n<=rows.length/\rows.all (fun r=>r.length==1)=true then some (.cH [(rows.take n).flatten] 0 0,[],[])else none
  |none=>none
 |_=>none
def Eo(t:TypeId):Option AV->Option jI
 |some (.c (.slice _ _ c))=>match fB P t with
  |some _=>some (.c (.int .i64 c),[],[])
  |none=>none
 |_=>none
def Ep(t t':TypeId):Option AV->Option AV->Option jI
 |some (.c (.slice none 0 0)),some (.c (.int _ n))=>match fB P t,wF P t' with
  |some (e,k),some _=>match eX P e,oK P e with
   |some zs,some lU=>if zs.length=k/\0<k/\0<n/\n<=9223372036854775807/\n*lU<=281474976710656 then some (.own aF 0 n.toNat,[(aF,some (.cells e k (List.replicate n.toNat zs) true true))],[])else none
   |_,_=>none
  |_,_=>none
 |_,_=>none
def Er(i:Nat):Option AV->Option jI
 |some (.aK xs)=>(xs[i]?).map fun a=>(a,[],[])
 |_=>none
def Es(t:TypeId)(f:Nat):Option AV->Option jI
 |some (.agg xs)=>match cB P t f with
  |some (off,_,ft)=>(qL P ft xs off).map fun a=>(a,[],[])
  |none=>none
 |_=>none
def Et(t:TypeId)(f:Nat):Option AV->Option jI
 |some (.ptr id i o)=>match cB P t f with
  |some (off,k,_)=>if k≠0 then some (.ptr id i (o+off),[],[])else none
  |none=>none
 |some (.cH rows i o)=>match cB P t f with
  |some (off,k,_)=>if k≠0 then some (.cH rows i (o+off),[],[])else none
  |none=>none
 |_=>none
def MI(t:TypeId):Option AV->Option jI
 |some p=>match deref G p with
  |some (row,o,rd)=>(qL P t row o).map fun a=>(a,[],rd)
  |none=>none
 |none=>none
def MJ(t:TypeId):Option AV->Option AV->Option jI
 |some (.ptr id i o),some a=>match G id with
  |some (.cells e s rows true ap)=>match rows[i]?,cT P t with
   |some row,some k=>if a.cells.length=k/\o+k<=row.length/\a.cells.all AV.one=true then some (.c undef,[(id,some (.cells e s (rows.set i (uR row o a.cells)) true ap))],[id])else none
   |_,_=>none
  |_=>none
 |_,_=>none
def MK(t:TypeId):Option AV->Option AV->Option jI
 |some (.own id off len),some (.c (.int _ i))=>match fB P t,G id with
  |some (_,k),some (.cells _ k' _ _ _)=>if k=k'/\0<=i/\i<len then some (.ptr id (off+i.toNat) 0,[],[id])else none
  |_,_=>none
 |some (.snap rows),some (.c (.int _ i))=>match fB P t,rows[i.toNat]? with
  |some (_,k),some row=>if 0<=i/\row.length=k then some (.cH rows i.toNat 0,[],[])else none
  |_,_=>none
 |some (.ptr id r o),some (.c (.int _ i))=>match r4 P t with
  |some (n,_,k)=>if 0<=i/\i<n then some (.ptr id r (o+i.toNat*k),[],[])else none
  |none=>none
 |some (.cH rows r o),some (.c (.int _ i))=>match r4 P t with
  |some (n,_,k)=>if 0<=i/\i<n then some (.cH rows r (o+i.toNat*k),[],[])else none
  |none=>none
 |_,_=>none
def Eu(t:TypeId):Option AV->Option AV->Option jI
 |some (.agg xs),some (.c (.int _ i))=>match r4 P t with
  |some (n,e,k)=>if 0<=i/\i<n then(qL P e xs (i.toNat*k)).map fun a=>(a,[],[])else none
  |none=>none
 |some (.c (.string s)),some (.c (.int _ i))=>if mP P t isString=true/\0<=i then(s[i.toNat]?).map fun b=>(.c (.int .u8 b.toNat),[],[])else none
 |_,_=>none
def ML(t:TypeId)(l h:Nat->Option Int):Option AV->Option jI
 |some (.c (.slice none 0 0))=>match fB P t,l 0,h 0 with
  |some _,some 0,some 0=>some (.c (.slice none 0 0),[],[])
  |_,_,_=>none
 |some (.snap rows)=>match fB P t,l rows.length,h rows.length with
  |some (_,k),some l,some h=>if 0<=l/\l<=h/\h<=rows.length/\rows.all (fun r=>r.length==k)=true then some (.snap ((rows.drop l.toNat).take (h-l).toNat),[],[])else none
  |_,_,_=>none
 |some (.own id off len)=>match fB P t,G id,l len,h len with
  |some (_,k),some (.cells _ k' _ _ _),some l,some h=>if k=k'/\0<=l/\l<=h/\h<=len then some (.own id (off+l.toNat) (h-l).toNat,[],[id])else none
  |_,_,_,_=>none
 |some (.ptr id i o)=>match r4 P t,G id with
  |some (n,_,1),some (.cells _ _ rows _ _)=>match rows[i]?,l n,h n with
   |some row,some l,some h=>if o+n<=row.length/\0<=l/\l<=h/\h<=n/\l<n then some (.sub id i (o+l.toNat) (h-l).toNat,[],[id])else none
   |_,_,_=>none
  |_,_=>none
 |some (.cH rows i o)=>match r4 P t,rows[i]? with
  |some (n,_,1),some row=>match l n,h n with
   |some l,some h=>if o+n<=row.length/\0<=l/\l<=h/\h<=n/\l<n then some (.snap (((row.drop (o+l.toNat)).take (h-l).toNat).map fun x=> [x]),[],[])else none
   |_,_=>none
  |_,_=>none
 |_=>none
def MM(t:TypeId)(l h m:Nat->Option Int):Option AV->Option jI
 |some (.snap rows)=>match fB P t,l rows.length,h rows.length,m rows.length with
  |some (_,k),some l,some h,some m=>if 0<=l/\l<=h/\h<=m/\m<=rows.length/\rows.all (fun r=>r.length==k)=true then some (.snap ((rows.drop l.toNat).take (h-l).toNat),[],[])else none
  |_,_,_,_=>none
 |some (.own id off len)=>match fB P t,G id,l len,h len,m len with
  |some (_,k),some (.cells _ k' _ _ _),some l,some h,some m=>if k=k'/\0<=l/\l<=h/\h<=m/\m<=len then some (.own id (off+l.toNat) (h-l).toNat,[],[id])else none
  |_,_,_,_,_=>none
 |_=>none
def MN(t:TypeId)(ok:Bool):Option AV->Option AV->Option jI
 |some (.omap id),some xa=>match EB xa,G id,zU P t with
  |some kv,some (.map es),some (_,e,d)=>match D4 P e with
   |some z=>if sN d kv=true/\yY d es=true then some (if ok=true then .aK [(sM kv es).getD z,.c (.bool (sM kv es).isSome)]else(sM kv es).getD z,[],[id])else none
   |none=>none
  |_,_,_=>none
 |_,_=>none
def MO(t:TypeId):Option AV->Option AV->Option AV->Option jI
 |some (.omap id),some xa,some a=>match EB xa,G id,zU P t with
  |some kv,some (.map es),some (_,_,d)=>if sN d kv=true/\yY d es=true then some (.c undef,[(id,some (.map (uH kv a es)))],[id])else none
  |_,_,_=>none
 |_,_,_=>none
def MP(t:TypeId):Option AV->Option jI
 |some (.omap id)=>match G id,zU P t with
  |some (.map es),some _=>some (.ptr aF 0 0,[(aF,some (.iter id es.length []))],[id])
  |_,_=>none
 |_=>none
def RL(k:Value):Bool:=match k with
 | .agg cs=>sN (.array cs.toList.length 0) k
 | .bool _=>true
 | .int _ _=>true
 | .string _=>true
 |_=>false
def MQ:Option AV->Option jI
 |some (.ptr id 0 0)=>match G id with
  |some (.iter m n seen)=>match seen.getLast?,G m with
   |some i,some (.map es)=>match es[i]? with
    |some (k,a)=>if es.length=n/\RL k=true then some (.aK [RK k,a],[],[id,m])else none
    |none=>none
   |_,_=>none
  |_=>none
 |_=>none
def MR(t:TypeId):Option AV->Option jI
 |some (.omap id)=>match G id,zU P t with
  |some (.map es),some _=>some (.c (.int .i64 es.length),[],[id])
  |_,_=>none
 |some (.c (.string s))=>if mP P t isString=true then some (.c (.int .i64 s.size),[],[])else none
 |some a=>match fB P t,RD a with
  |some _,some n=>some (.c (.int .i64 n),[],[])
  |_,_=>none
 |none=>none
def RM(f:Int->Int->Int):Option AV->Option AV->Option jI
 |some (.c (.int k a)),some (.c (.int _ b))=>some (.c (.int k (f a b)),[],[])
 |_,_=>none
def MS(t:TypeId):Option AV->Option AV->Option jI
 |some (.own id 0 n),some b=>match G id,rowsOf G b,fB P t with
  |some (.cells e k rows w true),some (bB,rd),some (e',k')=>match eX P e,oK P e with
   |some zs,some lU=>if e'=e/\k'=k/\zs.length=k/\n=rows.length/\bB.all (fun r=>r.length==k&&r.all AV.one)=true/\n+bB.length<=9223372036854775807/\(n+bB.length)*lU<=140737488355328
    then some (.own aF 0 (n+bB.length),[(id,zI e k rows w),(aF,some (.cells e k (rows++bB) w true))],id::rd)else none
   |_,_=>none
  |_,_,_=>none
 |some (.c (.slice a0 0 0)),some b=>match rowsOf G b,fB P t with
  |some (bB,rd),some (e,k)=>
   if bB.isEmpty then some (.c (.slice a0 0 0),[],rd)else
   match eX P e,oK P e with
   |some zs,some lU=>if zs.length=k/\bB.all (fun r=>r.length==k&&r.all AV.one)=true/\bB.length<=9223372036854775807/\bB.length*lU<=140737488355328
    then some (.own aF 0 bB.length,[(aF,some (.cells e k bB true true))],rd)else none
   |_,_=>none
  |_,_=>none
 |_,_=>none
def MT(t:TypeId):Option AV->Option AV->Option jI
 |some (.own id off len),some b=>match G id,rowsOf G b,fB P t with
  |some (.cells e k rows true ap),some (bB,rd),some (e',k')=>if e'=e/\k'=k/\off+len<=rows.length/\bB.all (fun r=>r.length==k&&r.all AV.one)=true
   then some (.c (.int .i64 (Nat.min bB.length len)),[(id,some (.cells e k (rows.take off++bB.take (Nat.min bB.length len)++rows.drop (off+Nat.min bB.length len)) true ap))],id::rd)else none
  |_,_,_=>none
 |some (.sub id i o len),some b=>match G id,rowsOf G b,fB P t with
  |some (.cells e s rows true ap),some (bB,rd),some (_,1)=>match rows[i]? with
   |some row=>if o+len<=row.length/\bB.all (fun r=>r.length==1&&r.all AV.one)=true
    then some (.c (.int .i64 (Nat.min bB.length len)),[(id,some (.cells e s (rows.set i (uR row o (bB.take (Nat.min bB.length len)).flatten)) true ap))],id::rd)else none
   |none=>none
  |_,_,_=>none
 |_,_=>none
def Ev(t:TypeId):Option AV->Option AV->Option jI
 |some (.c (.int _ l)),some (.c (.int _ c))=>match fB P t with
  |some (e,k)=>match eX P e,oK P e with
   |some zs,some lU=>if zs.length=k/\0<=l/\l<=c/\c<=9223372036854775807/\(lU:Int)*c<=281474976710656
    then some (.own aF 0 l.toNat,[(aF,some (.cells e k (List.replicate l.toNat zs) true true))],[])else none
   |_,_=>none
  |none=>none
 |_,_=>none
def WS(b:Builtin)(as:List (Option AV))(ts:List TypeId):Option jI:=
 match b,as,ts with
 | .len,[a],[t]=>MR P G t a
 | .max,[a,b],_=>RM (fun a b=>if b>a then b else a) a b
 | .min,[a,b],_=>RM (fun a b=>if b<a then b else a) a b
 | .append,[a,b],[t,t']=>if t=t' then MS P G aF t a b else Ep P aF t t' a b
 | .cap,[a],[t]=>Eo P t a
 | .copy,[a,b],[t,_]=>MT P G t a b
 |_,_,_=>none
def Ew(t:TypeId)(x:Option AV):Option jI:=
 match mP P t xE,x.bind EB with
 |true,some v=>some (.c (.iface t v),[],[])
 |_,_=>none
def RN(t:TypeId)(ok:Bool):Option jI:=
 match ok,D4 P t with
 |true,some z=>some (.aK [z,.c (.bool false)],[],[])
 |_,_=>none
def Ex(t:TypeId)(ok:Bool):Option AV->Option jI
 |some (.c (.iface t' v))=>match mP P t xE with
  |true=>if t'=t then(zF v).map fun a=>(cond ok (.aK [a,.c (.bool true)]) a,[],[])else RN P t ok
  |false=>none
 |some (.c .nilIface)=>match mP P t xE with
  |true=>RN P t ok
  |false=>none
 |_=>none
def res(o:Oper):Option jI:=
 match o.op with
 | .move x=>(g x).map fun a=>(a,[],[])
 | .assign x=>(g x).map fun a=>(a,[],[])
 | .pick c x y=>Ei (g c) (g x) (g y)
 | .binOp op t x y _=>Ek P op t (g x) (g y)
 | .unOp op _ x=>El op (g x)
 | .convert src t x=>MH P G src t (g x)
 | .sliceToArrayPointer t x=>En P t (g x)
 | .extract x i=>Er i (g x)
 | .field t x f=>Es P t f (g x)
 | .fieldAddr t x f=>Et P t f (g x)
 | .load t x=>MI P G t (g x)
 | .store t x y=>MJ P G t (g x) (g y)
 | .indexAddr t x y=>MK P G t (g x) (g y)
 | .index t x y=>Eu P t (g x) (g y)
 | .slice t x lo (some hi) (some mx)=>MM P G t (fun _=>iG g 0 lo) (fun n=>iG g n (some hi)) (fun n=>iG g n (some mx)) (g x)
 | .slice t x lo hi none=>ML P G t (fun _=>iG g 0 lo) (fun n=>iG g n hi) (g x)
 | .alloc t=>(eX P t).map fun zs=>(.ptr aF 0 0,[(aF,some (.cells t zs.length [zs] true false))],[])
 | .box t x=>(g x).map fun a=>(.ptr aF 0 0,[(aF,some (.cells t a.cells.length [a.cells] true false))],[])
 | .build t ps=>match eX P t,k8 P t,zG g ps.toList with
   |some zs,true,some as=>(E8 (dD P t) zs as).map fun ys=>(.agg ys,[],[])
   |_,_,_=>none
 | .buildSlice t len ps=>match fB P t,zG g ps.toList with
   |some (e,k),some as=>match eX P e with
    |some zs=>if zs.length=k/\len*k<=16777216 then(E8 (fun i=>some (i*k,k)) (List.replicate len zs).flatten as).map fun ys=>(.own aF 0 len,[(aF,some (.cells e k (chunk k len ys) true true))],[])else none
    |none=>none
   |_,_=>none
 | .makeSlice t l c=>Ev P aF t (g l) (g c)
 | .makeMap _ none=>some (.omap aF,[(aF,some (.map []))],[])
 | .range t x=>MP P G aF t (g x)
 | .entry x=>MQ G (g x)
 | .lookup t m x ok=>MN P G t ok (g m) (g x)
 | .mapUpdate t m x y=>MO P G t (g m) (g x) (g y)
 | .makeFunc fn first captured=>match dN g first.toList,dN g captured.toList with
   |some fs,some cs=>some (.fn fn fs cs,[],[])
   |_,_=>none
 | .makeInterface t x=>Ew P t (g x)
 | .typeAssert x _ t ok=>Ex P t ok (g x)
 | .nilCheck x=>match g x with
   |some (.ptr id i o)=>some (.ptr id i o,[],[])
   |some (.cH rows i o)=>some (.cH rows i o,[],[])
   |_=>none
 | .call ⟨.builtin b,as,ts⟩=>WS P G aF b (as.toList.map g) ts.toList
 |_=>none
end
end Go.AL
namespace Go.AL
open Go.RowKit
theorem RC.bi7{E:Env}{W:World}{G:Nat->Option aI}(hG:RC E W G){id:Nat}{elem:TypeId}{s:Nat}{rows:List (List AV)}{a:Bool}(hg:G id=some (.cells elem s rows true a))
  {cur eS:Array Value} {dU:List (List AV)} (cV:W.heap[E.ι id]? =some (.cells cur elem (0,0))) (E6:eS.size=cur.size) (hl:dU.length=rows.length) (hr:∀(i:Nat) row,dU[i]? =some row->row.length=s)
  (hc:∀(i j:Nat) row x,dU[i]? =some row->row[j]? =some x->∃v,eS[i*s+j]? =some v/\RV E W x v):
  bE E W E (W.setRow (E.ι id) eS)/\RC E (W.setRow (E.ι id) eS) (aY G [(id,some (.cells elem s dU true a))]):=by
 obtain⟨hU,dO,hlen,⟨AT,jZ,sU,fO⟩,hw,ha⟩:=hG.ok id _ hg;obtain⟨hL,hd⟩:=hw rfl;rw[cV]at jZ;cases jZ;have hv:=bE.setRow hG hU cV E6 (fun k hk=>by omega)
 refine⟨hv,⟨fun b hb=>hG.lim b (by simp_all),fun aL h=>by simpa using hG.eJ aL h,fun aL b h=> ?_⟩⟩
 by_cases aC:aL=id
 ·subst aC
  simp only[aY,if_true,bM]at h;subst h;refine⟨hU,dO,hr,⟨eS,setRow_heap W _ cur eS elem (0,0) cV,by grind,fun i' j gN x h1 h2=> ?_⟩,fun _=>⟨hL,fun eP eY aT dR=> ?_⟩,fun R7=> ?_⟩
  ·obtain⟨v,h5,h6⟩:=hc i' j gN x h1 h2
   exact⟨v,h5,h6.mono hv⟩
  ·simp_all [aY]
  simp_all [aY]
 ·simp only[aY,aC,if_false]at h
  obtain⟨h2,h3⟩:=hG.ok aL b h;have eV:E.ι aL≠E.ι id:=hd aL b aC h;refine⟨h2,h3.mono hv h2 (setRow_other W _ _ eS eV) rfl fun eP eY aT dR he=> ?_⟩
  by_cases Tg:eP=id
  ·grind
  simp_all [aY]
theorem Ul{G:Nat->Option aI}{id:Nat}{b:Option aI}(h:G id=b):aY G [(id,b)]=G:=by
 grind [aY]
section
variable {P : Program} {g : Operand -> Option AV} {G : Nat -> Option aI} {aF : Nat} {dst : Option Tmp} {ty : TypeId} {pos : String} {after : Array Edge} {guard : Option (Nat × Bool)}
theorem Um{ρ:Operand->Value}{E:Env}{W:World}(b9:∀x b,g x=some b->RV E W b (ρ x)){t e:TypeId}{n k:Nat}(hu:P.underlying t=some (.array n e))(hk:(P.info? e).map (·.size)=some k)(a:Addr){lo hi:Option Operand}{l h:Int}
  (hl:iG g 0 lo=some l) (hh:iG g n hi=some h) (h0:0<=l) (h1:l<=h) (h2:h<=n) (h3:l<n):
  (Instr.sliceAt t (.pointer (some a)) (lo.map ρ) (hi.map ρ) none).run P W= .ok (.slice (some (a.add (l.toNat*k))) (h-l).toNat (n-l.toNat)) W:=by
 have aT:¬n=l.toNat:=oM
 have e1:h.toNat-l.toNat=(h-l).toNat:=oM
 rcases J5 b9 hl with⟨rfl,rfl⟩|⟨kl,tG⟩<;>rcases J5 b9 hh with⟨rfl,rfl⟩|⟨kh,E9⟩
 ·have:¬n=0:=oM
  simp[Instr.sliceAt,run_underlying hu,Instr.sliceBounds,run_sizeOf hk,Instr.sureAddr,this]
 ·have:¬n=0:=oM
  simp[Instr.sliceAt,run_underlying hu,Instr.sliceBounds,run_sizeOf hk,Instr.sureAddr,E9,Instr.sliceBound,asIntOf,h1,h2,this]
 ·simp[Instr.sliceAt,run_underlying hu,Instr.sliceBounds,run_sizeOf hk,Instr.sureAddr,tG,Instr.sliceBound,asIntOf,h0,h1,aT]
  omega
 ·have h4:0<=h:=oM
  have h5:l<=max h 0:=oM
  simp[Instr.sliceAt,run_underlying hu,Instr.sliceBounds,run_sizeOf hk,Instr.sureAddr,tG,E9,Instr.sliceBound,asIntOf,h0,h1,h2,h4,h5,aT];omega
theorem bi8{t e e':TypeId}{n s:Nat}{x:Operand}{id i o:Nat}{rows:List (List AV)}{row:List AV}{w ap:Bool}{lo hi:Option Operand}{l h:Int}(ht:r4 P t=some (n,e,1))(hx:g x=some (.ptr id i o))(hg:G id=some (.cells e' s rows w ap))(cS:rows[i]? =some row)(hon:o+n<=row.length)
  (hl:iG g 0 lo=some l) (hh:iG g n hi=some h) (h0:0<=l) (h1:l<=h) (h2:h<=n) (h3:l<n):
  eT P g G aF ⟨dst,.slice t x lo hi none,ty,pos,after,guard⟩ (.sub id i (o+l.toNat) (h-l).toNat) G:=
 .still fun E W ρ hG b9=>by
   obtain⟨hu,hk⟩:=R9 ht;have h4:=b9 x _ hx;generalize cY:ρ x=vx at h4;obtain⟨hU,dO,hlen,⟨cur,cV,sU,_⟩,_,_⟩:=hG.ok id _ hg;have LJ:i<rows.length:=(fT.1 cS).1;have hls:=hlen i row cS
   have hmul:i*s+s<=rows.length*s:=by
    have:=mO s (show i+1<=rows.length from LJ)
    rw[BC]at this;exact this
   cases h4 with
   |ptr _ _ _ aC=>
    refine⟨_,by simp only[execOp,cY,KN];rw[Sem.run_bind,Um b9 hu hk _ hl hh h0 h1 h2 h3];rfl,?_⟩
    have:=RV.sub (E:=E) (W:=W) id i (o+l.toNat) (h-l).toNat (n-l.toNat) aC oM ⟨cur,e',(0,0),cV,by grind⟩
    grind [Addr.add_lit]
theorem bj1{t e:TypeId}{n:Nat}{x:Operand}{i o:Nat}{rows:List (List AV)}{row:List AV}{lo hi:Option Operand}{l h:Int}(ht:r4 P t=some (n,e,1))(hx:g x=some (.cH rows i o))(cS:rows[i]? =some row)(hon:o+n<=row.length)
  (hl:iG g 0 lo=some l) (hh:iG g n hi=some h) (h0:0<=l) (h1:l<=h) (h2:h<=n) (h3:l<n):
  eT P g G aF ⟨dst,.slice t x lo hi none,ty,pos,after,guard⟩ (.snap (((row.drop (o+l.toNat)).take (h-l).toNat).map fun x=> [x])) G:=
 .still fun E W ρ hG b9=>by
   obtain⟨hu,hk⟩:=R9 ht;have h4:=b9 x _ hx;generalize cY:ρ x=vx at h4;have LJ:i<rows.length:=(fT.1 cS).1;cases h4 with
   |cH _ _ _ b off s vs hs hL hc hr=>
    have hls:=hs i row cS
    have hmul:i*s+s<=rows.length*s:=by
     have:=mO s (show i+1<=rows.length from LJ)
     rw[BC]at this;exact this
    have hlen:(((row.drop (o+l.toNat)).take (h-l).toNat).map fun x=> [x]).length=(h-l).toNat:=by
     rw[zP,dX,kR];omega
    refine⟨_,by simp only[execOp,cY,KN];rw[Sem.run_bind,Um b9 hu hk _ hl hh h0 h1 h2 h3];rfl,?_⟩
    have dQ:∀(i' j:Nat) (r:List AV) (y:AV),(((row.drop (o+l.toNat)).take (h-l).toNat).map fun x=> [x])[i']? =some r->r[j]? =some y->j=0/\row[o+l.toNat+i']? =some y:=by
     intro i' j r y h5 h6;rw[kJ,pK]at h5;split at h5
     ·grind
     ·cases h5
    have:=RV.snap (E:=E) (W:=W) (((row.drop (o+l.toNat)).take (h-l).toNat).map fun x=> [x]) b (off+(i*s+o)+l.toNat) 1 (h-l).toNat (n-l.toNat) (fun i' _=>vs i (o+l.toNat+i')) hlen.symm oM
     (fun i' r h5=>by
       grind)
     oM
     (fun i' j r y h5 h6=>by
       obtain⟨rfl,h7⟩:=dQ i' j r y h5 h6
       grind)
     (fun i' j r y h5 h6=>by
       grind)
    grind [Addr.add_lit]
theorem Un{W W':World}{dT sT ty elem:TypeId}{k:Nat}{d:Addr}{dLen dCap sLen sCap:Nat}{a:Addr}{cs:List Value}(hu:P.underlying dT=some (.slice elem))(hk:(P.info? elem).map (·.size)=some k)(hn:cs.length=Nat.min sLen dLen*k)
  (As:∀j v,cs[j]? =some v->W.cell? (a.add j)=some v) (iR:(storeCells d cs 0).run P W= .ok () W'):
  (Builtin.copy_ #[dT,sT] ty #[.slice (some d) dLen dCap,.slice (some a) sLen sCap]).run P W= .ok (goInt (Nat.min sLen dLen:Nat)) W':=by
 have hl:=run_loadCells_list (P:=P) W a cs As;cases hq:P.info? elem with
 |none=>grind
 |some i=>
  simp_all [Builtin.copy_,run_underlying,Builtin.lenOf,Builtin.firstCells,sizeOf,typeInfo]
theorem Uo{E:Env}{W:World}{bB:List (List AV)}{k n:Nat}{news:List Value}(hl:news.length=bB.length*k)(hn:n<=bB.length)(hc:∀(i j:Nat) row x,bB[i]? =some row->row[j]? =some x->∃u,news[i*k+j]? =some u/\RV E W x u)(hk:∀(i:Nat) row,bB[i]? =some row->row.length=k):
  (news.take (n*k)).length=n*k/\∀(i j:Nat) row x,i<n->bB[i]? =some row->row[j]? =some x->∃u,(news.take (n*k))[i*k+j]? =some u/\RV E W x u:=by
 have h1:n*k<=bB.length*k:=mO k hn;refine⟨by simp;omega,fun i j row x hi hr hx=> ?_⟩
 obtain⟨u,h2,h3⟩:=hc i j row x hr hx;have hj:j<k:=by rw[<-hk i row hr];exact(fT.1 hx).1
 have:=y4 hi hj
 grind
theorem bj2{t t' e:TypeId}{k:Nat}{x y:Operand}{id off len:Nat}{rows bB:List (List AV)}{ap:Bool}{b:AV}{rd:List Nat}(ht:fB P t=some (e,k))(hx:g x=some (.own id off len))(hg:G id=some (.cells e k rows true ap))(hn:off+len<=rows.length)(hy:g y=some b)(hb:rowsOf G b=some (bB,rd))
  (h1:bB.all (fun r=>r.length==k&&r.all AV.one)=true):
  eT P g G aF ⟨dst,.call ⟨.builtin .copy,#[x,y],#[t,t']⟩,ty,pos,after,guard⟩ (.c (.int .i64 (Nat.min bB.length len))) (aY G [(id,some (.cells e k (rows.take off++bB.take (Nat.min bB.length len)++rows.drop (off+Nat.min bB.length len)) true ap))]):=fun E W ρ hG gT b9=>by
 have gX:=b9 x _ hx;have mL:=b9 y _ hy;generalize cY:ρ x=vx at gX;generalize mK:ρ y=vy at mL;obtain⟨hu,hk⟩:=vX ht;obtain⟨hU,mZ,hlen,⟨cur,cV,sU,fO⟩,hw,ha⟩:=hG.ok id _ hg
 have eQ:∀(r:Result Value),(Builtin.copy_ #[t,t'] ty #[vx,vy]).run P W=r->(execOp ρ ⟨dst,.call ⟨.builtin .copy,#[x,y],#[t,t']⟩,ty,pos,after,guard⟩).run P W=r.andThen fun v w'=> .ok (.value v) w':=by
  intro r hr;rw[zH];simp only[builtin,T9,qE,GU,cY,mK];rw[Sem.run_bind,hr];rfl
 have nT:∀(i:Nat) row,bB[i]? =some row->row.length=k:=WI h1;obtain⟨RI,n2,z6,fI,qT,bj3,_⟩:=M5 hG mL hb
 have Up:Nat.min bB.length len=0->∀(d:Option Addr) (dc:Nat),(Builtin.copy_ #[t,t'] ty #[.slice d len dc,vy]).run P W= .ok (goInt 0) W:=fun h0 d dc=>by
  subst fI;subst qT;cases hq:P.info? e with
  |none=>grind [cT]
  |some i=>
   have hl:∀(x:Addr),(loadCells x 0).run P W= .ok #[] W:=fun x=>by rfl
   have ED:bB.length.min len=0:=h0;cases d<;>cases RI<;>simp[Builtin.copy_,run_underlying hu,Builtin.lenOf,Builtin.firstCells,sizeOf,typeInfo,hq,ED,storeCells,hl]
 by_cases h0:Nat.min bB.length len=0
 ·rw[h0]
  have u6:aY G [(id,some (.cells e k (rows.take off++bB.take 0++rows.drop (off+0)) true ap))]=G:=Ul (by rw[hg];simp)
  rw[u6];cases gX with
  |mB _ _ a aC=>exact⟨W,_,E,.inl (by rw[eQ _ (Up h0 a 0)];rfl),bE.refl E W,hG,.c _ rfl,fun _ h=> .inl h⟩
  |own _ _ _ cap aC eI dO=>exact⟨W,_,E,.inl (by rw[eQ _ (Up h0 _ cap)];rfl),bE.refl E W,hG,.c _ rfl,fun _ h=> .inl h⟩
 ·have aT:bB≠[]:=fun h=>h0 (by grind)
  have Ey:len≠0:=fun h=>h0 (by grind)
  have QB:Nat.min bB.length len<=bB.length:=Nat.min_le_left _ _;have QD:Nat.min bB.length len<=len:=Zt _ _;generalize hm:Nat.min bB.length len=m at*;cases gX with
  |mB _ _ a aC=>omega
  |own _ _ _ cap aC eI dO=>
   obtain⟨bb,pp,Ez,lD,news,y6,BW,uF,CG⟩:=LH hG mL hb aT h1;obtain⟨gZ,wM⟩:=Uo y6 QB CG nT;have hmul:(off+m)*k<=rows.length*k:=mO k oM
   rw[wE]at hmul;generalize wL:news.take (m*k)=cs at gZ wM;have Fa:∀v∈cs,v.oneCell'=true:=fun v hv=>uF v (by grind)
   have iR:=run_storeCells_at P (E.ι id) (off*k) e cs 0 cur W cV oM Fa
   simp only[KJ]at iR;generalize AR:(cur.toList.take (off*k)++cs++cur.toList.drop (off*k+cs.length)).toArray=eS at iR;have E6:eS.size=cur.size:=by subst AR;simp;omega
   have hold:∀q,q<cur.size->(q<off*k\/off*k+m*k<=q)->eS[q]? =cur[q]? :=fun q hq pT=>by
    subst AR;rw[CZ];rcases pT with pT|pT
    ·grind
    ·rw[nI (by simp;omega),vA];grind
   have nU:∀q,q<m*k->eS[off*k+q]? =cs[q]? :=fun q hq=>by
    subst AR;rw[CZ,nH,nI (by simp;omega),rM (by simp;omega)]
    congr 1;grind
   have rU:(rows.take off++bB.take m++rows.drop (off+m)).length=rows.length:=by simp;omega
   have cS:∀(i:Nat) row,(rows.take off++bB.take m++rows.drop (off+m))[i]? =some row->(i<rows.length/\((i<off\/off+m<=i)/\rows[i]? =some row))\/(off<=i/\i<off+m/\bB[i-off]? =some row):=fun i row hr=>by
    by_cases h3:i<off
    ·rw[nH,rM (by simp;omega),pK,if_pos h3]at hr
     grind
    ·by_cases h4:i<off+m
     ·grind
     ·rw[nI (by simp;omega),vA]at hr
      have he:off+m+(i-(rows.take off++bB.take m).length)=i:=by simp;omega
      grind
   obtain⟨hv,Fb⟩:=hG.bi7 hg cV E6 rU (fun i row hr=>by
    grind) (fun i j row x hr nO=>by
    rcases cS i row hr with⟨hi,h3,h⟩|⟨h3,h4,h⟩
    ·obtain⟨v,h5,h6⟩:=fO i j row x h nO
     refine⟨v,?_,h6⟩;rw[<-h5];have hj:j<k:=by rw[<-hlen i row h];exact(fT.1 nO).1
     refine hold _ (k7.1 h5).1 ?_;rcases h3 with h3|h3
     ·grind [y4]
     ·right
      have:=mO k h3
      grind
    ·obtain⟨v,h5,h6⟩:=wM _ j row x oM h nO
     refine⟨v,?_,h6⟩;rw[<-h5];have hj:j<k:=by rw[<-nT _ row h];exact(fT.1 nO).1
     rw[<-nU _ (y4 oM hj)]
     congr 1;have:i*k=off*k+(i-off)*k:=by rw[<-wE];congr 1;omega
     omega)
   subst lD
   have JD:=Un (P:=P) (W:=W) (W':=W.setRow (E.ι id) eS) (dT:=t) (sT:=t') (ty:=ty) (d:=⟨E.ι id,off*k,none⟩) (dLen:=len) (dCap:=cap) (sLen:=bB.length) (sCap:=Ez) (a:=⟨bb,pp,none⟩) (cs:=cs) hu hk (by grind)
    (fun j v hj=>by grind [Addr.add_lit]) iR
   rw[hm]at JD;rw[<-mZ]at JD;exact⟨_,_,E,.inl (by rw[eQ _ JD];rfl),hv,Fb,.c _ rfl,fun _ h=> .inl h⟩
theorem bj4{bB:List (List AV)}(h:∀(i:Nat) row,bB[i]? =some row->row.length=1):∃l:List AV,bB=l.map fun x=> [x]:=by
 induction bB with
 |nil=>simp_all
 |cons r rs ih=>
  obtain⟨l,hl⟩:=ih fun i row hr=>h (i+1) row (by grind)
  have h0:=h 0 r rfl
  match r,h0 with
  |[x],_=>exact⟨x::l,by grind⟩
theorem bj5(l:List AV):(l.map fun x=> [x]).flatten=l:=by
 induction l with
 |nil=>rfl
 |cons x r ih=>grind
theorem bj6{t t' e e':TypeId}{s:Nat}{x y:Operand}{id i o len:Nat}{rows bB:List (List AV)}{row:List AV}{ap:Bool}{b:AV}{rd:List Nat}(ht:fB P t=some (e,1))(hx:g x=some (.sub id i o len))(hg:G id=some (.cells e' s rows true ap))(cS:rows[i]? =some row)(hn:o+len<=row.length)(hy:g y=some b)(hb:rowsOf G b=some (bB,rd))
  (h1:bB.all (fun r=>r.length==1&&r.all AV.one)=true):
  eT P g G aF ⟨dst,.call ⟨.builtin .copy,#[x,y],#[t,t']⟩,ty,pos,after,guard⟩ (.c (.int .i64 (Nat.min bB.length len))) (aY G [(id,some (.cells e' s (rows.set i (uR row o (bB.take (Nat.min bB.length len)).flatten)) true ap))]):=fun E W ρ hG gT b9=>by
 have gX:=b9 x _ hx;have mL:=b9 y _ hy;generalize cY:ρ x=vx at gX;generalize mK:ρ y=vy at mL;obtain⟨hu,hk⟩:=vX ht;obtain⟨hU,mZ,hlen,⟨cur,cV,sU,fO⟩,hw,ha⟩:=hG.ok id _ hg
 have eQ:∀(r:Result Value),(Builtin.copy_ #[t,t'] ty #[vx,vy]).run P W=r->(execOp ρ ⟨dst,.call ⟨.builtin .copy,#[x,y],#[t,t']⟩,ty,pos,after,guard⟩).run P W=r.andThen fun v w'=> .ok (.value v) w':=by
  intro r hr;rw[zH];simp only[builtin,T9,qE,GU,cY,mK];rw[Sem.run_bind,hr];rfl
 have nT:∀(i:Nat) row,bB[i]? =some row->row.length=1:=WI h1;obtain⟨RI,n2,z6,fI,qT,bj3,_⟩:=M5 hG mL hb;have hi:i<rows.length:=(fT.1 cS).1;have ca7:uR row o []=row:=by unfold uR;simp
 cases gX with
 |sub _ _ _ _ cap aC eI dO=>
  by_cases h0:Nat.min bB.length len=0
  ·rw[h0]
   have pS:rows.set i row=rows:=by
    apply ET;intro q;by_cases hq:q=i
    ·grind
    ·grind
   have u6:aY G [(id,some (.cells e' s (rows.set i (uR row o (bB.take 0).flatten)) true ap))]=G:=Ul (by grind)
   rw[u6]
   have hz:(Builtin.copy_ #[t,t'] ty #[.slice (some ⟨E.ι id,i*E.sz id+o,none⟩) len cap,vy]).run P W= .ok (goInt 0) W:=by
    subst fI;subst qT;cases hq:P.info? e with
    |none=>grind [cT]
    |some j=>
     have hl:∀(x:Addr),(loadCells x 0).run P W= .ok #[] W:=fun x=>by rfl
     have ED:bB.length.min len=0:=h0;cases RI<;>simp[Builtin.copy_,run_underlying hu,Builtin.lenOf,Builtin.firstCells,sizeOf,typeInfo,hq,ED,storeCells,hl]
   exact⟨W,_,E,.inl (by rw[eQ _ hz];rfl),bE.refl E W,hG,.c _ rfl,fun _ h=> .inl h⟩
  ·have aT:bB≠[]:=fun h=>h0 (by grind)
   have QB:Nat.min bB.length len<=bB.length:=Nat.min_le_left _ _;have QD:Nat.min bB.length len<=len:=Zt _ _;generalize hm:Nat.min bB.length len=m at*;obtain⟨bb,pp,Ez,lD,news,y6,BW,uF,CG⟩:=LH hG mL hb aT h1;obtain⟨gZ,wM⟩:=Uo y6 QB CG nT;generalize wL:news.take (m*1)=cs at gZ wM;have Fa:∀v∈cs,v.oneCell'=true:=fun v hv=>uF v (by grind)
   obtain⟨l,hl⟩:=bj4 nT;have lK:(bB.take m).flatten=l.take m:=by rw[hl,<-List.map_take,bj5]
   have JE:bB.length=l.length:=by rw[hl];simp
   rw[lK]
   have hxs:bP E W (l.take m) cs:=⟨by simp;omega,fun q x v hq hv=>by
    rw[pK]at hq;split at hq
    ·rename_i hqm
     obtain⟨u,h3,h4⟩:=wM q 0 [x] x hqm (by grind) rfl
     grind
    ·cases hq⟩
   have rA:o+(l.take m).length<=row.length:=by have:=List.length_take_le m l;omega
   obtain⟨eS,iR,hv,Fb⟩:=hG.write hg cS hxs rA Fa (P:=P);subst lD
   have JD:=Un (P:=P) (W:=W) (W':=W.setRow (E.ι id) eS) (dT:=t) (sT:=t') (ty:=ty) (d:=⟨E.ι id,i*s+o,none⟩) (dLen:=len) (dCap:=cap) (sLen:=bB.length) (sCap:=Ez) (a:=⟨bb,pp,none⟩) (cs:=cs) hu hk oM
    (fun j v hj=>by grind [Addr.add_lit]) iR
   rw[hm]at JD;rw[<-mZ]at JD;exact⟨_,_,E,.inl (by rw[eQ _ JD];rfl),hv,Fb,.c _ rfl,fun _ h=> .inl h⟩
theorem bj9{t e:TypeId}{k:Nat}{x:Operand}{id off len:Nat}{e':TypeId}{rows:List (List AV)}{w ap:Bool}{lo:Option Operand}{hi mx:Operand}{l h m:Int}(ht:fB P t=some (e,k))(hx:g x=some (.own id off len))(hg:G id=some (.cells e' k rows w ap))
  (hl:iG g 0 lo=some l) (hh:iG g len (some hi)=some h) (hm:iG g len (some mx)=some m) (h0:0<=l) (h1:l<=h) (h2:h<=m) (h3:m<=len):
  eT P g G aF ⟨dst,.slice t x lo (some hi) (some mx),ty,pos,after,guard⟩ (.own id (off+l.toNat) (h-l).toNat) G:=
 .still fun E W ρ hG b9=>by
   have h4:=b9 x _ hx;generalize cY:ρ x=vx at h4;have dO:E.sz id=k:=(hG.ok id _ hg).2.1;cases h4 with
   |own _ _ _ cap aC eI hs=>
    refine⟨_,by simp only[execOp,cY,zQ];rw[Sem.run_bind,WM b9 ht _ len cap hl hh hm h0 h1 h2 oM];rfl,?_⟩
    by_cases hc:m=l
    ·rw[if_pos hc]
     have e1:(h-l).toNat=0:=oM
     have e2:(m-l).toNat=0:=oM
     rw[e1,e2];exact .mB _ _ _ aC
    ·rw[if_neg hc]
     obtain⟨cur,e2,f,h5,h6⟩:=hs;have hmul:(off+l.toNat+(m-l).toNat)*E.sz id<=(off+cap)*E.sz id:=mO _ oM
     have:=RV.own (E:=E) (W:=W) id (off+l.toNat) (h-l).toNat (m-l).toNat aC oM ⟨cur,e2,f,h5,oM⟩
     grind [Addr.add_lit]
   |mB _ _ a aC=>
    refine⟨_,by simp only[execOp,cY,zQ];rw[Sem.run_bind,WM b9 ht _ 0 0 hl (show iG g ((0:Nat):Int) (some hi)=some h from hh) (show iG g ((0:Nat):Int) (some mx)=some m from hm) h0 h1 h2 oM];rfl,?_⟩
    grind
end
end Go.AL
namespace Go.AL
open Go.RowKit
theorem bk0{P:Program}{op:BinOp}{t:TypeId}{a b v:Value}(h:J2 P op t a b=some v):vW v=false:=by
 unfold J2 at h;split at h
 ·unfold WG at h
  split at h
  ·unfold J0 at h
   split at h<;>simp only[bM,reduceCtorEq]at h
   subst h;rfl
  ·unfold J0 at h
   split at h<;>simp only[bM,reduceCtorEq]at h
   subst h;rfl
  ·split at h
   ·unfold WE at h
    grind [vW]
   ·cases h
 ·split at h
  ·split at h<;>simp only[bM,reduceCtorEq]at h<;>subst h<;>rfl
  ·cases h
 ·split at h<;>simp only[bM,reduceCtorEq]at h<;>subst h<;>rfl
 ·grind [Th]
 ·grind [Th]
 ·cases h
theorem Uq{k:Value}(h:RL k=true):∃d,sN d k=true:=by
 unfold RL at h;split at h
 ·grind
 ·exact⟨.bool,rfl⟩
 ·rename_i q n;exact⟨.int q,by simp[sN]⟩
 ·exact⟨.string,rfl⟩
 ·cases h
theorem map_some{α β:Type}{x:Option α}{f:α->β}{b:β}(h:x.map f=some b):∃a,x=some a/\f a=b:=by
 simp_all
section
variable {P : Program} {g : Operand -> Option AV} {G : Nat -> Option aI} {aF : Nat}
theorem bk1{dst:Option Tmp}{ty:TypeId}{pos:String}{after:Array Edge}{guard:Option (Nat×Bool)}{t:TypeId}{x:Operand}{a:AV}{v:Value}(ht:mP P t xE=true)(hx:g x=some a)(hv:EB a=some v):
  eT P g G aF ⟨dst,.makeInterface t x,ty,pos,after,guard⟩ (.c (.iface t v)) G:=
 .still fun E W ρ hG b9=>by
   have h1:=Eh hv (b9 x _ hx);obtain⟨d,hu,hd⟩:=J1 ht;refine⟨.iface t v,?_,.c _ rfl⟩;cases d<;>simp only[xE,qZ]at hd<;>simp[execOp,Instr.makeInterface,run_underlying hu,h1]
theorem Ur{t:TypeId}{ok:Bool}{x:jI}(h:RN P t ok=some x):ok=true/\∃z,D4 P t=some z/\x=(.aK [z,.c (.bool false)],[],[]):=by
 unfold RN at h
 grind
theorem Fc{E:Env}{W:World}{a b:AV}{v u:Value}(h1:RV E W a v)(h2:RV E W b u):RV E W (.aK [a,b]) (.tuple #[v,u]):=
 .aK _ _ rfl fun i x y hx hy=>by
   grind
theorem bk2{dst:Option Tmp}{ty:TypeId}{pos:String}{after:Array Edge}{guard:Option (Nat×Bool)}{t xt:TypeId}{x:Operand}{a:AV}{v:Value}{ok:Bool}(ht:mP P t xE=true)(hx:g x=some (.c (.iface t v)))(hv:zF v=some a):
  eT P g G aF ⟨dst,.typeAssert x xt t ok,ty,pos,after,guard⟩ (cond ok (.aK [a,.c (.bool true)]) a) G:=
 .still fun E W ρ hG b9=>by
   have h1:=b9 x _ hx;generalize cY:ρ x=vx at h1;cases h1;obtain⟨d,hu,hd⟩:=J1 ht;refine⟨if ok then .tuple #[v,.bool true]else v,?_,?_⟩
   ·cases d<;>simp only[xE,qZ]at hd<;>simp[execOp,Instr.typeAssert,run_underlying hu,cY]
   ·cases ok
    ·exact RV.zF hv
    ·exact Fc (RV.zF hv) (.c _ rfl)
theorem bk3{dst:Option Tmp}{ty:TypeId}{pos:String}{after:Array Edge}{guard:Option (Nat×Bool)}{t xt t':TypeId}{x:Operand}{z:AV}{v:Value}(ht:mP P t xE=true)(hx:g x=some (.c (.iface t' v)))(aT:¬t'=t)(hz:D4 P t=some z):
  eT P g G aF ⟨dst,.typeAssert x xt t true,ty,pos,after,guard⟩ (.aK [z,.c (.bool false)]) G:=
 .still fun E W ρ hG b9=>by
   have h1:=b9 x _ hx;generalize cY:ρ x=vx at h1;cases h1;obtain⟨d,hu,hd⟩:=J1 ht;obtain⟨u,h2,h3⟩:=Ec hz;refine⟨.tuple #[u,.bool false],?_,Fc (h3 E W) (.c _ rfl)⟩;cases d<;>simp only[xE,qZ]at hd<;>simp[execOp,Instr.typeAssert,run_underlying hu,cY,aT,h2]
theorem bk4{dst:Option Tmp}{ty:TypeId}{pos:String}{after:Array Edge}{guard:Option (Nat×Bool)}{t xt:TypeId}{x:Operand}{z:AV}(ht:mP P t xE=true)(hx:g x=some (.c .nilIface))(hz:D4 P t=some z):
  eT P g G aF ⟨dst,.typeAssert x xt t true,ty,pos,after,guard⟩ (.aK [z,.c (.bool false)]) G:=
 .still fun E W ρ hG b9=>by
   have h1:=b9 x _ hx;generalize cY:ρ x=vx at h1;cases h1;obtain⟨d,hu,hd⟩:=J1 ht;obtain⟨u,h2,h3⟩:=Ec hz;refine⟨.tuple #[u,.bool false],?_,Fc (h3 E W) (.c _ rfl)⟩;cases d<;>simp only[xE,qZ]at hd<;>simp[execOp,Instr.typeAssert,run_underlying hu,cY,h2]
theorem Us:∀{rows:List (List AV)} {l:List Int},FI rows=some l->rows.length=l.length/\∀(j:Nat) n,l[j]? =some n->rows[j]? =some [.c (.int .u8 n)]
 |[],l,h=>by
  simp_all [FI]
 |r::rs,l,h=>by
  simp only[FI]at h;split at h
  ·rename_i n l' h1 h2
   simp only[bM]at h;subst h;have ih:=Us h2;refine⟨by simp[ih.1],fun j m hj=> ?_⟩
   cases j with
   |zero=>
    simp at hj;subst hj;unfold Bc at h1
    grind
   |succ j=>grind
  ·cases h
theorem bk5{dst:Option Tmp}{ty:TypeId}{pos:String}{after:Array Edge}{guard:Option (Nat×Bool)}{src t e:TypeId}{x:Operand}{b:AV}{rows:List (List AV)}{rd:List Nat}{l:List Int}(hs:fB P src=some (e,1))(he:wF P e=some .u8)(hd:mP P t isString=true)(hx:g x=some b)(hb:rowsOf G b=some (rows,rd))(hl:FI rows=some l):
  eT P g G aF ⟨dst,.convert src t x,ty,pos,after,guard⟩ (.c (.string (I2 l))) G:=
 .still fun E W ρ hG b9=>by
   have h1:=b9 x _ hx;obtain⟨base,n,cap,hv,hn,pH,hr⟩:=M5 hG h1 hb;obtain⟨hu,_⟩:=vX hs;have hue:=Dr he;obtain⟨hlen,dQ⟩:=Us hl;obtain⟨d,hud,hdd⟩:=J1 hd
   have cb0:P.underlying t=some .string:=by
    cases d<;>first|exact hud|grind [isString]
   have cb1:(Conv.bytesToString (.slice base n cap)).run P W= .ok (.string (I2 l)) W:=by
    cases base with
    |none=>
     have h0:rows=[]:=by
      cases rows with
      |nil=>rfl
      |cons r rs=>grind
     subst h0;have:l=[]:=eL (by grind)
     subst this;rfl
    |some a=>
     refine run_bytesToString W a n cap l ?_
     have hc:∀j v,(l.map (Value.int .u8))[j]? =some v->W.cell? (a.add j)=some v:=fun j v hj=>by
      rw[kJ]at hj;obtain⟨m,hm,rfl⟩:=map_some hj;have cS:=dQ j m hm;have aT:rows≠[]:=fun h=>by grind
      obtain⟨b',p,s,h2,h3,h4⟩:=hr aT;injection h2 with h2
      subst h2;have FR:s=1:=(h3 j _ cS).symm;subst FR;obtain⟨u,h5,h6⟩:=h4 j 0 _ _ cS rfl;cases h6
      grind [Addr.add_lit]
     grind [run_loadCells_list,List.length_map]
   refine⟨_,?_,.c _ rfl⟩;simp_all [execOp,run_convert_bytes_string]
theorem Ut:∀(rows:List (List AV)) (n j:Nat) (x:AV),(∀r∈rows,r.length=1)->((rows.take n).flatten)[j]? =some x->∃row,rows[j]? =some row/\row[0]? =some x
 |[],n,j,x,_,h=>by simp at h
 |r::rows,0,j,x,h,h2=>by simp at h2
 |r::rows,n+1,j,x,h,h2=>by
  obtain⟨y,rfl⟩:∃y,r=[y]:=List.length_eq_one_iff.1 (h r (by simp))
  cases j with
  |zero=>grind
  |succ j=>
   simp only[Iz,YB,Y1,CX]at h2;obtain⟨row,h3,h4⟩:=Ut rows n j x (fun r hr=>h r (by simp[hr])) h2
   grind
theorem Uu:∀(rows:List (List AV)) (n:Nat),(∀r∈rows,r.length=1)->n<=rows.length->((rows.take n).flatten).length=n
 |[],n,_,h=>by grind
 |r::rows,0,_,_=>by simp
 |r::rows,n+1,h,h2=>by
  rw[Iz,YB,cU,h r (by simp),Uu rows n (fun r hr=>h r (by simp[hr])) (by grind)]
  omega
theorem bk7{t e:TypeId}{n k:Nat}(ht:r4 P t=some (n,e,k))(a:Option Addr)(len cap:Nat)(hl:n<=len)(w:World):(Instr.arrayAt t (.slice a len cap)).run P w= .ok (.pointer a) w:=by
 obtain⟨hu,_⟩:=R9 ht;have:¬len<n:=oM
 simp[Instr.arrayAt,run_underlying hu,this]
theorem bk8{dst:Option Tmp}{ty:TypeId}{pos:String}{after:Array Edge}{guard:Option (Nat×Bool)}{t e:TypeId}{n:Nat}{x:Operand}{rows:List (List AV)}(ht:r4 P t=some (n,e,1))(h0:0<n)(hl:n<=rows.length)(h1:∀r∈rows,r.length=1)(hx:g x=some (.snap rows)):
  eT P g G aF ⟨dst,.sliceToArrayPointer t x,ty,pos,after,guard⟩ (.cH [(rows.take n).flatten] 0 0) G:=
 .still fun E W ρ hG b9=>by
   have h2:=b9 x _ hx;generalize cY:ρ x=vx at h2;cases h2 with
   |snap _ b off s m cap vs hn pH hs hL hc Tv=>
    subst hn
    have FR:s=1:=by
     cases rows with
     |nil=>grind
     |cons r rs=>rw[<-hs 0 r rfl];grind
    subst FR;refine⟨_,by simp only[execOp,cY];rw[Sem.run_bind,bk7 ht _ _ _ hl];rfl,?_⟩
    have cS:∀(i j:Nat) row x,[(rows.take n).flatten][i]? =some row->row[j]? =some x->i=0/\∃r,rows[j]? =some r/\r[0]? =some x:=fun i j row x hi hj=>by
     cases i with
     |zero=>
      simp at hi;subst hi;exact⟨rfl,Ut rows n j x h1 hj⟩
     |succ i=>simp at hi
    have:=RV.cH (E:=E) (W:=W) [(rows.take n).flatten] 0 0 b off n (fun _ j=>vs j 0)
     (fun i row hi=>by
       grind [Uu])
     (by grind)
     (fun i j row x hi hj=>by
       grind)
     (fun i j row x hi hj=>by
       grind)
    grind
   |kP a cap=>grind
theorem bk9{dst:Option Tmp}{ty:TypeId}{pos:String}{after:Array Edge}{guard:Option (Nat×Bool)}{t e:TypeId}{k:Nat}{x:Operand}{lo hi:Option Operand}(ht:fB P t=some (e,k))(hx:g x=some (.c (.slice none 0 0)))(hl:iG g 0 lo=some 0)(hh:iG g ((0:Nat):Int) hi=some 0):
  eT P g G aF ⟨dst,.slice t x lo hi none,ty,pos,after,guard⟩ (.c (.slice none 0 0)) G:=
 .still fun E W ρ hG b9=>by
   have h3:=b9 x _ hx;generalize cY:ρ x=vx at h3;cases h3;exact⟨_,by simp only[execOp,cY,KN];rw[Sem.run_bind,RE b9 ht none 0 0 hl hh dE dE dE];rfl,.c _ rfl⟩
theorem bl0{dst:Option Tmp}{ty:TypeId}{pos:String}{after:Array Edge}{guard:Option (Nat×Bool)}{t e:TypeId}{k n c:Nat}{x:Operand}{a:Option Addr}(ht:fB P t=some (e,k))(hx:g x=some (.c (.slice a n c))):
  eT P g G aF ⟨dst,.call ⟨.builtin .cap,#[x],#[t]⟩,ty,pos,after,guard⟩ (.c (.int .i64 c)) G:=
 .still fun E W ρ hG b9=>by
   have h2:=b9 x _ hx;generalize cY:ρ x=vx at h2;cases h2;obtain⟨hu,_⟩:=vX ht;refine⟨_,?_,.c _ rfl⟩;simp_all [zH,builtin,Builtin.cap_,run_underlying,goInt]
theorem bl1{dst:Option Tmp}{ty:TypeId}{pos:String}{after:Array Edge}{guard:Option (Nat×Bool)}{t tn e:TypeId}{k lU:Nat}{kq kn:IntKind}{n:Int}{zs:List AV}{x y:Operand}(ht:fB P t=some (e,k))(V1:wF P tn=some kn)(hz:eX P e=some zs)(J4:zs.length=k)(z8:0<k)(qB:oK P e=some lU)
  (hx:g x=some (.c (.slice none 0 0))) (hy:g y=some (.c (.int kq n))) (h0:0<n) (RF:n<=9223372036854775807) (LB:n*lU<=281474976710656):
  eT P g G aF ⟨dst,.call ⟨.builtin .append,#[x,y],#[t,tn]⟩,ty,pos,after,guard⟩ (.own aF 0 n.toNat) (aY G [(aF,some (.cells e k (List.replicate n.toNat zs) true true))]):=fun E W ρ hG gT b9=>by
 have gX:=b9 x _ hx;have mL:=b9 y _ hy;generalize cY:ρ x=vx at gX;generalize mK:ρ y=vy at mL;cases gX;cases mL;obtain⟨hu,hk⟩:=vX ht;obtain⟨i,z,hi,wY,AU⟩:=J3 hz;have iJ:=WH hi hk;have WJ:i.bytes=lU:=by simp[oK,hi]at qB;exact qB
 have h8:z.cells.size=k:=by have:=(AU E W).1;simp at this;omega
 obtain⟨m,rfl⟩:=xD (by omega:0<=n)
 simp only[sY]
 have h48:m*i.bytes<=281474976710656:=by
  rw[WJ]
  have h9:((m*lU:Nat):Int)<=281474976710656:=by
   push_cast
   exact LB
  omega
 have hr:=Lib.run_append_nil_zeros (P:=P) W t tn ty e i z kq kn hu (Dr V1) hi wY m oM oM RF h48
 have rW:=grownCap_ge W m 0 e
 have RG:(Builtin.zeroCells z.cells m++Builtin.zeroCells z.cells (grownCap W m 0 e-m)).size=grownCap W m 0 e*k:=by
  simp only[Io,size_zeroCells,h8,<-wE];congr 1;omega
 have hmul:m*k<=grownCap W m 0 e*k:=mO k rW
 have cS:∀(i:Nat) row,(List.replicate m zs)[i]? =some row->i<m/\row=zs:=fun i row hr=>by
  grind
 have G4:=hG.drew
 have CF:=G4.alloc gT e (Builtin.zeroCells z.cells m++Builtin.zeroCells z.cells (grownCap W m 0 e-m)) k (List.replicate m zs) true true (fun i row hr=>by grind) (by grind) (fun i j row x h5 h6=>by
  obtain⟨h9,rfl⟩:=cS i row h5;obtain⟨v,h7,fG⟩:=(AU E W).get h6;have hj:j<k:=by rw[<-J4];exact(fT.1 h6).1
  have bG:=y4 h9 hj;refine⟨v,?_,fG.mono (bE.drew E W)⟩;have bi3:(i*k+j) % k=j:=by rw[Nat.mul_comm,Nat.mul_add_mod];exact GX hj
  simp_all [bI1,Builtin.zeroCells])
 have hv:=(bE.drew E W).trans (bE.alloc G4 gT (.cells (Builtin.zeroCells z.cells m++Builtin.zeroCells z.cells (grownCap W m 0 e-m)) e) k);refine⟨_,.slice (some ⟨W.heap.size,0,none⟩) m (grownCap W m 0 e),_,.inl ?_,hv,CF,?_,fun id h=>h.imp (fun h=>h) (fun e=>⟨e,by simp[aY]⟩)⟩
 ·simp_all [zH,builtin]
 ·have:=RV.own (E:=E.more aF W.drew.heap.size k) (W:=W.drew.alloc (.cells (Builtin.zeroCells z.cells m++Builtin.zeroCells z.cells (grownCap W m 0 e-m)) e)) aF 0 m (grownCap W m 0 e) (.inr rfl) rW
   ⟨_,e,(0,0),by simp only[Env.more,if_true];exact heap_alloc_new W.drew _,by simp_all [Env.more]⟩
  simp_all [Env.more]
theorem Uv{o:Oper}{a:AV}{wr:List (Nat×Option aI)}{rd:List Nat}(h:res P g G aF o=some (a,wr,rd)):eT P g G aF o a (aY G wr):=by
 obtain⟨dst,op,ty,pos,after,guard⟩:=o;unfold res at h;split at h
 ·rename_i x he
  simp only at he;subst he;obtain⟨b,h1,h2⟩:=map_some h;simp only[cQ]at h2;obtain⟨rfl,rfl,rfl⟩:=h2;exact bb3 h1
 ·rename_i x he
  simp only at he;subst he;obtain⟨b,h1,h2⟩:=map_some h;simp only[cQ]at h2;obtain⟨rfl,rfl,rfl⟩:=h2;exact bb4 h1
 ·rename_i c x y he
  simp only at he;subst he;unfold Ei at h;split at h
  ·rename_i b hb
   split at h
   ·rename_i p q hp hq
    simp only[bM,cQ]at h;obtain⟨rfl,rfl,rfl⟩:=h;exact bb5 hb hp hq
   ·split at h
    ·obtain⟨d,h1,h2⟩:=map_some h
     simp only[cQ]at h2;obtain⟨rfl,rfl,rfl⟩:=h2;exact Dq hb (fun _=>h1) (fun h=>by cases h)
    ·obtain⟨d,h1,h2⟩:=map_some h
     simp only[cQ]at h2;obtain⟨rfl,rfl,rfl⟩:=h2;exact Dq hb (fun h=>by cases h) (fun _=>h1)
  ·cases h
 ·rename_i op' t x y yt he
  simp only at he;subst he;unfold Ek at h;split at h
  ·rename_i a' b' hx hy
   unfold Ej at h;split at h
   ·rename_i Fe
    split at h
    ·rename_i ek r ht hr
     obtain⟨d,h1,h2⟩:=map_some h;simp only[cQ]at h2;obtain⟨rfl,rfl,rfl⟩:=h2
     have hb:b'= .slice none 0 0:=by
      unfold U7 at Fe;split at Fe
      ·grind
      ·cases Fe
     subst hb;exact bg5 (e:=ek.1) (k:=ek.2) ht hx hy hr h1
    ·cases h
   ·split at h
    ·obtain⟨d,h1,h2⟩:=map_some h
     simp only[cQ]at h2;obtain⟨rfl,rfl,rfl⟩:=h2;exact bb6 hx hy h1 (bk0 h1)
    ·cases h
  ·rename_i xs ys hx hy
   split at h
   ·rename_i r hr
    obtain⟨d,h1,h2⟩:=map_some h;simp only[cQ]at h2;obtain⟨rfl,rfl,rfl⟩:=h2;exact bg1 hx hy hr h1
   ·cases h
  ·cases h
 ·rename_i op' t x he
  simp only at he;subst he;unfold El at h;split at h
  ·rename_i b hx
   simp only[bM,cQ]at h;obtain⟨rfl,rfl,rfl⟩:=h;exact bb7 hx
  ·rename_i k n hx
   simp only[bM,cQ]at h;obtain⟨rfl,rfl,rfl⟩:=h;exact bb8 hx
  ·rename_i k n hx
   simp only[bM,cQ]at h;obtain⟨rfl,rfl,rfl⟩:=h;exact bb9 hx
  ·cases h
 ·rename_i src t x he
  simp only at he;subst he;unfold MH at h;split at h
  ·rename_i k n hx
   unfold Em at h;simp only[]at h;split at h
   ·rename_i ks kd h1 h2
    simp only[bM,cQ]at h;obtain⟨rfl,rfl,rfl⟩:=h;exact bc0 hx (by grind) h2
   ·cases h
  ·unfold WR at h
   split at h
   ·rename_i hd
    split at h
    ·rename_i e rows zJ hs hb
     split at h
     ·rename_i l he hl
      simp only[bM,cQ]at h;obtain⟨rfl,rfl,rfl⟩:=h;cases W6:g x with
      |none=>grind
      |some b=>rw[W6]at hb;exact bk5 hs he hd W6 hb hl
     ·cases h
    ·cases h
   ·cases h
 ·rename_i t x he
  simp only at he;subst he;unfold En at h;split at h
  ·rename_i rows hx
   split at h
   ·rename_i n e k ht
    split at h
    ·rename_i hc
     obtain⟨rfl,h1,h2,h3⟩:=hc;simp only[bM,cQ]at h;obtain⟨rfl,rfl,rfl⟩:=h;exact bk8 ht h1 h2 (fun r hr=>by grind) hx
    ·cases h
   ·cases h
  ·cases h
 ·rename_i x i he
  simp only at he;subst he;unfold Er at h;split at h
  ·rename_i xs hx
   obtain⟨d,h1,h2⟩:=map_some h;simp only[cQ]at h2;obtain⟨rfl,rfl,rfl⟩:=h2;exact bc1 hx h1
  ·cases h
 ·rename_i t x f he
  simp only at he;subst he;unfold Es at h;split at h
  ·rename_i xs hx
   split at h
   ·rename_i off k ft hf
    obtain⟨d,h1,h2⟩:=map_some h;simp only[cQ]at h2;obtain⟨rfl,rfl,rfl⟩:=h2;exact bc2 hx hf h1
   ·cases h
  ·cases h
 ·rename_i t x f he
  simp only at he;subst he;unfold Et at h;split at h
  ·rename_i id i o hx
   split at h
   ·rename_i off k ft hf
    split at h
    ·rename_i hk
     simp only[bM,cQ]at h;obtain⟨rfl,rfl,rfl⟩:=h;exact bc3 hx hf hk
    ·cases h
   ·cases h
  ·rename_i rows i o hx
   split at h
   ·rename_i off k ft hf
    split at h
    ·rename_i hk
     simp only[bM,cQ]at h;obtain⟨rfl,rfl,rfl⟩:=h;exact bc4 hx hf hk
    ·cases h
   ·cases h
  ·cases h
 ·rename_i t x he
  simp only at he;subst he;unfold MI at h;split at h
  ·rename_i p hx
   split at h
   ·rename_i row o zJ hd
    obtain⟨d,h1,h2⟩:=map_some h;simp only[cQ]at h2;obtain⟨rfl,rfl,rfl⟩:=h2;exact bc5 hx hd h1
   ·cases h
  ·cases h
 ·rename_i t x y he
  simp only at he;subst he;unfold MJ at h;split at h
  ·rename_i id i o a' hx hy
   split at h
   ·rename_i e s rows ap hg
    split at h
    ·rename_i row k hr hk
     split at h
     ·rename_i hc
      simp only[bM,cQ]at h;obtain⟨rfl,rfl,rfl⟩:=h
      grind [bc6]
     ·cases h
    ·cases h
   ·cases h
  ·cases h
 ·rename_i t x y he
  simp only at he;subst he;unfold MK at h;split at h
  ·rename_i id off len ik i hx hy
   split at h
   ·rename_i e k e' k' rows w ap ht hg
    split at h
    ·rename_i hc
     obtain⟨rfl,h0,h1⟩:=hc;simp only[bM,cQ]at h;obtain⟨rfl,rfl,rfl⟩:=h;exact bd7 ht hx hy hg h0 h1
    ·cases h
   ·cases h
  ·rename_i rows ik i hx hy
   split at h
   ·rename_i e k row ht hr
    split at h
    ·rename_i hc
     simp only[bM,cQ]at h;obtain⟨rfl,rfl,rfl⟩:=h;exact bd8 ht hx hy hc.1 hr hc.2
    ·cases h
   ·cases h
  ·rename_i id r o ik i hx hy
   split at h
   ·rename_i n e k ht
    split at h
    ·rename_i hc
     simp only[bM,cQ]at h;obtain⟨rfl,rfl,rfl⟩:=h;exact bd9 ht hx hy hc.1 hc.2
    ·cases h
   ·cases h
  ·rename_i rows r o ik i hx hy
   split at h
   ·rename_i n e k ht
    split at h
    ·rename_i hc
     simp only[bM,cQ]at h;obtain⟨rfl,rfl,rfl⟩:=h;exact be0 ht hx hy hc.1 hc.2
    ·cases h
   ·cases h
  ·cases h
 ·rename_i t x y he
  simp only at he;subst he;unfold Eu at h;split at h
  ·rename_i xs ik i hx hy
   split at h
   ·rename_i n e k ht
    split at h
    ·rename_i hc
     obtain⟨d,h1,h2⟩:=map_some h;simp only[cQ]at h2;obtain⟨rfl,rfl,rfl⟩:=h2;exact be1 ht hx hy hc.1 hc.2 h1
    ·cases h
   ·cases h
  ·rename_i s ik i hx hy
   split at h
   ·rename_i hc
    obtain⟨d,h1,h2⟩:=map_some h;simp only[cQ]at h2;obtain⟨rfl,rfl,rfl⟩:=h2;exact be2 hc.1 hx hy hc.2 h1
   ·cases h
  ·cases h
 ·rename_i t x lo hi mx he
  simp only at he;subst he;unfold MM at h;split at h
  ·rename_i rows hx
   split at h
   ·rename_i e k l hh m ht hl y8 hm
    split at h
    ·rename_i hc
     simp only[bM,cQ]at h;obtain⟨rfl,rfl,rfl⟩:=h;exact bg6 ht hx hl y8 hm hc.1 hc.2.1 hc.2.2.1 hc.2.2.2.1 hc.2.2.2.2
    ·cases h
   ·cases h
  ·rename_i id off len hx
   split at h
   ·rename_i e k e' k' rows w ap l hh m ht hg hl y8 hm
    split at h
    ·rename_i hc
     obtain⟨rfl,hc⟩:=hc;simp only[bM,cQ]at h;obtain⟨rfl,rfl,rfl⟩:=h;exact bj9 ht hx hg hl y8 hm hc.1 hc.2.1 hc.2.2.1 hc.2.2.2
    ·cases h
   ·cases h
  ·cases h
 ·rename_i t x lo hi he
  simp only at he;subst he;unfold ML at h;split at h
  ·rename_i hx
   split at h
   ·rename_i q ht hl y8
    simp only[bM,cQ]at h;obtain⟨rfl,rfl,rfl⟩:=h;exact bk9 (e:=q.1) (k:=q.2) ht hx hl y8
   ·cases h
  ·rename_i rows hx
   split at h
   ·rename_i e k l hh ht hl y8
    split at h
    ·rename_i hc
     simp only[bM,cQ]at h;obtain⟨rfl,rfl,rfl⟩:=h;exact be9 ht hx hl y8 hc.1 hc.2.1 hc.2.2.1 hc.2.2.2
    ·cases h
   ·cases h
  ·rename_i id off len hx
   split at h
   ·rename_i e k e' k' rows w ap l hh ht hg hl y8
    split at h
    ·rename_i hc
     obtain⟨rfl,hc⟩:=hc;simp only[bM,cQ]at h;obtain⟨rfl,rfl,rfl⟩:=h;exact bf0 ht hx hg hl y8 hc.1 hc.2.1 hc.2.2
    ·cases h
   ·cases h
  ·rename_i id i o hx
   split at h
   ·rename_i n e e' k' rows w ap ht hg
    split at h
    ·rename_i row l hh cS hl y8
     split at h
     ·rename_i hc
      simp only[bM,cQ]at h;obtain⟨rfl,rfl,rfl⟩:=h;exact bi8 ht hx hg cS hc.1 hl y8 hc.2.1 hc.2.2.1 hc.2.2.2.1 hc.2.2.2.2
     ·cases h
    ·cases h
   ·cases h
  ·rename_i rows i o hx
   split at h
   ·rename_i n e row ht cS
    split at h
    ·rename_i l hh hl y8
     split at h
     ·rename_i hc
      simp only[bM,cQ]at h;obtain⟨rfl,rfl,rfl⟩:=h;exact bj1 ht hx cS hc.1 hl y8 hc.2.1 hc.2.2.1 hc.2.2.2.1 hc.2.2.2.2
     ·cases h
    ·cases h
   ·cases h
  ·cases h
 ·rename_i t he
  simp only at he;subst he;obtain⟨d,h1,h2⟩:=map_some h;simp only[cQ]at h2;obtain⟨rfl,rfl,rfl⟩:=h2;exact bd1 h1
 ·rename_i t x he
  simp only at he;subst he;obtain⟨d,h1,h2⟩:=map_some h;simp only[cQ]at h2;obtain⟨rfl,rfl,rfl⟩:=h2;exact bd2 h1
 ·rename_i t ps he
  simp only at he;subst he;split at h
  ·rename_i zs as hz hb hp
   obtain⟨d,h1,h2⟩:=map_some h;simp only[cQ]at h2;obtain⟨rfl,rfl,rfl⟩:=h2;exact bd3 hz hb hp h1
  ·cases h
 ·rename_i t len ps he
  simp only at he;subst he;split at h
  ·rename_i e k as ht hp
   split at h
   ·rename_i zs hz
    split at h
    ·rename_i hc
     obtain⟨d,h1,h2⟩:=map_some h;simp only[cQ]at h2;obtain⟨rfl,rfl,rfl⟩:=h2
     grind [bd5]
    ·cases h
   ·cases h
  ·cases h
 ·rename_i t l c he
  simp only at he;subst he;unfold Ev at h;split at h
  ·rename_i kl l' kc c' hx hy
   split at h
   ·rename_i e k ht
    split at h
    ·rename_i zs lU hz qB
     split at h
     ·rename_i hc
      simp only[bM,cQ]at h;obtain⟨rfl,rfl,rfl⟩:=h
      grind [bi2]
     ·cases h
    ·cases h
   ·cases h
  ·cases h
 ·rename_i t he
  simp only at he;subst he;simp only[bM,cQ]at h;obtain⟨rfl,rfl,rfl⟩:=h;exact bh6
 ·rename_i t x he
  simp only at he;subst he;unfold MP at h;split at h
  ·rename_i id hm
   split at h
   ·rename_i es p hg ht
    simp only[bM,cQ]at h;obtain⟨rfl,rfl,rfl⟩:=h
    grind [bh7]
   ·cases h
  ·cases h
 ·rename_i x he
  simp only at he;subst he;unfold MQ at h;split at h
  ·rename_i id hx
   split at h
   ·rename_i m n seen hg
    split at h
    ·rename_i i es hs hm
     split at h
     ·rename_i k a' CI
      split at h
      ·rename_i hc
       simp only[bM,cQ]at h;obtain⟨rfl,rfl,rfl⟩:=h;obtain⟨d,hd⟩:=Uq hc.2
       obtain⟨s0,rfl⟩:∃s0,seen=s0++[i]:=by
        grind [List.getLast?_eq_some_iff]
       exact bh8 hx hg hm hc.1 CI hd
      ·cases h
     ·cases h
    ·cases h
   ·cases h
  ·cases h
 ·rename_i t m x ok he
  simp only at he;subst he;unfold MN at h;split at h
  ·rename_i id xa hm hx
   split at h
   ·rename_i kv es kt e d MF hg ht
    split at h
    ·rename_i z hz
     split at h
     ·rename_i hc
      simp only[bM,cQ]at h;obtain⟨rfl,rfl,rfl⟩:=h;exact bh1 ht hz hm hg hx MF hc.1 hc.2
     ·cases h
    ·cases h
   ·cases h
  ·cases h
 ·rename_i t m x y he
  simp only at he;subst he;unfold MO at h;split at h
  ·rename_i id xa a' hm hx hy
   split at h
   ·rename_i kv es kt e d MF hg ht
    split at h
    ·rename_i hc
     simp only[bM,cQ]at h;obtain⟨rfl,rfl,rfl⟩:=h
     grind [bh4]
    ·cases h
   ·cases h
  ·cases h
 ·rename_i fn first captured he
  simp only at he;subst he;split at h
  ·rename_i fs cs hf hc
   simp only[bM,cQ]at h;obtain⟨rfl,rfl,rfl⟩:=h;exact bi6 hf hc
  ·cases h
 ·rename_i t x he
  simp only at he;subst he;unfold Ew at h;split at h
  ·rename_i v ht hv
   simp only[bM,cQ]at h;obtain⟨rfl,rfl,rfl⟩:=h;cases hx:g x with
   |none=>grind
   |some a=>exact bk1 ht hx (by grind)
  ·cases h
 ·rename_i x xt t ok he
  simp only at he;subst he;unfold Ex at h;split at h
  ·rename_i t' v hx
   split at h
   ·rename_i ht
    split at h
    ·rename_i W5
     subst W5;obtain⟨d,h1,h2⟩:=map_some h;simp only[cQ]at h2;obtain⟨rfl,rfl,rfl⟩:=h2;exact bk2 ht hx h1
    ·rename_i aT
     obtain⟨rfl,z,hz,h2⟩:=Ur h;simp only[cQ]at h2;obtain⟨rfl,rfl,rfl⟩:=h2;exact bk3 ht hx aT hz
   ·cases h
  ·rename_i hx
   split at h
   ·rename_i ht
    obtain⟨rfl,z,hz,h2⟩:=Ur h;simp only[cQ]at h2;obtain⟨rfl,rfl,rfl⟩:=h2;exact bk4 ht hx hz
   ·cases h
  ·cases h
 ·rename_i x he
  simp only at he;subst he;split at h
  ·rename_i id i o hx
   simp only[bM,cQ]at h;obtain⟨rfl,rfl,rfl⟩:=h;exact bi4 hx
  ·rename_i rows i o hx
   simp only[bM,cQ]at h;obtain⟨rfl,rfl,rfl⟩:=h;exact bi5 hx
  ·cases h
 ·rename_i b as ts he
  simp only at he;subst he;obtain⟨as⟩:=as;obtain⟨ts⟩:=ts;unfold WS at h;split at h
  ·rename_i a' t h1 h2
   simp only at h1 h2
   obtain⟨x,rfl,hx⟩:∃x,as=[x]/\g x=a':=by
    simp_all
   subst h2;unfold MR at h;split at h
   ·rename_i id
    split at h
    ·rename_i es q hg ht
     obtain⟨kt,e,d⟩:=q;simp only[bM,cQ]at h;obtain⟨rfl,rfl,rfl⟩:=h;exact bh2 ht hx hg
    ·cases h
   ·rename_i s
    split at h
    ·rename_i hc
     simp only[bM,cQ]at h;obtain⟨rfl,rfl,rfl⟩:=h;exact be6 hc hx
    ·cases h
   ·rename_i b' _
    split at h
    ·rename_i q n ht hn
     obtain⟨e,k⟩:=q;simp only[bM,cQ]at h;obtain⟨rfl,rfl,rfl⟩:=h;exact be5 ht hx hn
    ·cases h
   ·cases h
  ·rename_i _ a' b' h1
   simp only at h1
   obtain⟨x,y,rfl,hx,hy⟩:∃x y,as=[x,y]/\g x=a'/\g y=b':=by
    cases as with
    |nil=>simp at h1
    |cons x r=>cases r with
     |nil=>simp at h1
     |cons y r=>cases r with
      |nil=>grind
      |cons z r=>simp at h1
   unfold RM at h;split at h
   ·simp only[bM,cQ]at h
    obtain⟨rfl,rfl,rfl⟩:=h;exact be7 hx hy
   ·cases h
  ·rename_i _ a' b' h1
   simp only at h1
   obtain⟨x,y,rfl,hx,hy⟩:∃x y,as=[x,y]/\g x=a'/\g y=b':=by
    cases as with
    |nil=>simp at h1
    |cons x r=>cases r with
     |nil=>simp at h1
     |cons y r=>cases r with
      |nil=>grind
      |cons z r=>simp at h1
   unfold RM at h;split at h
   ·simp only[bM,cQ]at h
    obtain⟨rfl,rfl,rfl⟩:=h;exact be8 hx hy
   ·cases h
  ·rename_i a' b' t t' h1 h2
   simp only at h1 h2
   obtain⟨x,y,rfl,hx,hy⟩:∃x y,as=[x,y]/\g x=a'/\g y=b':=by
    cases as with
    |nil=>simp at h1
    |cons x r=>cases r with
     |nil=>simp at h1
     |cons y r=>cases r with
      |nil=>grind
      |cons z r=>simp at h1
   subst h2;split at h
   ·rename_i ht
    subst ht;unfold MS at h;split at h
    ·rename_i id n b
     split at h
     ·rename_i e k rows w bB zJ e' k' hg hb ht
      split at h
      ·rename_i zs lU hz qB
       split at h
       ·rename_i hc
        obtain⟨rfl,rfl,h3,h4,h5,h6,h7⟩:=hc;simp only[bM,cQ]at h;obtain⟨rfl,rfl,rfl⟩:=h
        grind [bf8]
       ·cases h
      ·cases h
     ·cases h
    ·rename_i b
     split at h
     ·rename_i bB zJ e k hb ht
      split at h
      ·rename_i WT
       simp only[bM,cQ]at h;obtain⟨rfl,rfl,rfl⟩:=h;have:bB=[]:=by simpa using WT
       subst this;exact bi0 ht hx hy hb
      ·rename_i WT
       split at h
       ·rename_i zs lU hz qB
        split at h
        ·rename_i hc
         obtain⟨h3,h4,h5,h6⟩:=hc;simp only[bM,cQ]at h;obtain⟨rfl,rfl,rfl⟩:=h
         grind [bi1]
        ·cases h
       ·cases h
     ·cases h
    ·cases h
   ·unfold Ep at h
    split at h
    ·rename_i k n
     split at h
     ·rename_i e k' kn ht V1
      split at h
      ·rename_i zs lU hz qB
       split at h
       ·rename_i hc
        obtain⟨h3,h4,h5,h6,h7⟩:=hc;simp only[bM,cQ]at h;obtain⟨rfl,rfl,rfl⟩:=h
        grind [bl1]
       ·cases h
      ·cases h
     ·cases h
    ·cases h
  ·rename_i a' t h1 h2
   simp only at h1 h2
   obtain⟨x,rfl,hx⟩:∃x,as=[x]/\g x=a':=by
    simp_all
   subst h2;unfold Eo at h;split at h
   ·split at h
    ·rename_i q ht
     simp only[bM,cQ]at h;obtain⟨rfl,rfl,rfl⟩:=h;exact bl0 (e:=q.1) (k:=q.2) ht hx
    ·cases h
   ·cases h
  ·rename_i _ a' b' t t' h1 h2
   simp only at h1 h2
   obtain⟨x,y,rfl,hx,hy⟩:∃x y,as=[x,y]/\g x=a'/\g y=b':=by
    cases as with
    |nil=>simp at h1
    |cons x r=>cases r with
     |nil=>simp at h1
     |cons y r=>cases r with
      |nil=>grind
      |cons z r=>simp at h1
   subst h2;unfold MT at h;split at h
   ·rename_i id off len b
    split at h
    ·rename_i e k rows ap bB zJ e' k' hg hb ht
     split at h
     ·rename_i hc
      obtain⟨rfl,rfl,h3,h4⟩:=hc;simp only[bM,cQ]at h;obtain⟨rfl,rfl,rfl⟩:=h
      grind [bj2]
     ·cases h
    ·cases h
   ·rename_i id i o len b
    split at h
    ·rename_i e s rows ap bB zJ e' hg hb ht
     split at h
     ·rename_i row cS
      split at h
      ·rename_i hc
       simp only[bM,cQ]at h;obtain⟨rfl,rfl,rfl⟩:=h
       grind [bj6]
      ·cases h
     ·cases h
    ·cases h
   ·cases h
  ·cases h
 ·cases h
end
end Go.AL
