/- Staging: a layer over the walks (La). No condition but those named. -/
import Derived.Calls
import Derived.Orders
import Derived.Below
import Derived.WalkKit
import Derived.Deep.LoopGhost
import Derived.Laws.Rows
import Derived.Laws.AppendOwn
import Derived.Laws.MakeOwn
import Derived.Laws.StructEq
import Derived.MapKept
import Derived.ChangeKeysEq
import Derived.Maps.Own
import Derived.Laws.IdiomRangeMap
import Derived.Laws.IdiomCopy
import Derived.Lib.AppendZeros
import Derived.Laws.BytesString
set_option linter.unusedVariables false
set_option linter.unusedSimpArgs false
namespace Go.AL
open Go.RowKit
inductive AV where
 |c (x:Value)
 |agg (xs:List AV)
 |tup (xs:List AV)
 |snap (rows:List (List AV))
 |sptr (rows:List (List AV)) (i o:Nat)
 |own (id off len:Nat)
 |sub (id i o len:Nat)
 |ptr (id i o:Nat)
 |fn (f:Fn) (first cap:List AV)
 |omap (id:Nat)
 |yld (id:Nat)
instance :Inhabited AV:=⟨.c undef⟩
def isAggV:Value→Bool
 | .agg _=>true
 |_=>false
def ofV:Value→Option AV
 | .agg cs=>if cs.toList.all (fun v=> !isAggV v)then some (.agg (cs.toList.map AV.c))else none
 |v=>some (.c v)
def AV.cells:AV→List AV
 | .agg xs=>xs
 |a=> [a]
def AV.one:AV→Bool
 | .c x=>x.oneCell'
 | .agg _=>false
 | .tup _=>false
 |_=>true
structure Env where
 ι:Nat→Nat
 sz:Nat→Nat
 U:Nat→Prop
 L:Nat→Nat
inductive RV (E:Env) (W:World):AV→Value→Prop
 |c (x:Value) (hx:isAggV x=false):RV E W (.c x) x
 |agg (xs:List AV) (vs:Array Value) (hl:xs.length=vs.size) (h:∀(i:Nat) x v,xs[i]? =some x→vs[i]? =some v→RV E W x v):RV E W (.agg xs) (.agg vs)
 |tup (xs:List AV) (vs:Array Value) (hl:xs.length=vs.size) (h:∀(i:Nat) x v,xs[i]? =some x→vs[i]? =some v→RV E W x v):RV E W (.tup xs) (.tuple vs)
 |snap (rows:List (List AV)) (b off s n cap:Nat) (vs:Nat→Nat→Value) (hn:n=rows.length) (hcap:n≤cap)
   (hs:∀(i:Nat) row,rows[i]? =some row→row.length=s) (hL:off+rows.length*s≤E.L b)
   (hc:∀(i j:Nat) row x,rows[i]? =some row→row[j]? =some x→W.cell? ⟨b,off+(i*s+j),none⟩=some (vs i j))
   (hr:∀(i j:Nat) row x,rows[i]? =some row→row[j]? =some x→RV E W x (vs i j)):RV E W (.snap rows) (.slice (some ⟨b,off,none⟩) n cap)
 |snap0 (a:Option Addr) (cap:Nat):RV E W (.snap []) (.slice a 0 cap)
 |sptr (rows:List (List AV)) (i o:Nat) (b off s:Nat) (vs:Nat→Nat→Value)
   (hs:∀(i:Nat) row,rows[i]? =some row→row.length=s) (hL:off+rows.length*s≤E.L b)
   (hc:∀(i j:Nat) row x,rows[i]? =some row→row[j]? =some x→W.cell? ⟨b,off+(i*s+j),none⟩=some (vs i j))
   (hr:∀(i j:Nat) row x,rows[i]? =some row→row[j]? =some x→RV E W x (vs i j)):RV E W (.sptr rows i o) (.pointer (some ⟨b,off+(i*s+o),none⟩))
 |own (id off len cap:Nat) (hid:E.U id) (hlc:len≤cap) (hsz:∃(cur:Array Value) (e:TypeId) (f:Nat×Nat),W.heap[E.ι id]? =some (Obj.cells cur e f)∧(off+cap)*E.sz id≤cur.size):
   RV E W (.own id off len) (.slice (some ⟨E.ι id,off*E.sz id,none⟩) len cap)
 |own0 (id off:Nat) (a:Option Addr) (hid:E.U id):RV E W (.own id off 0) (.slice a 0 0)
 |sub (id i o len cap:Nat) (hid:E.U id) (hlc:len≤cap) (hsz:∃(cur:Array Value) (e:TypeId) (f:Nat×Nat),W.heap[E.ι id]? =some (Obj.cells cur e f)∧i*E.sz id+o+cap≤cur.size):
   RV E W (.sub id i o len) (.slice (some ⟨E.ι id,i*E.sz id+o,none⟩) len cap)
 |ptr (id i o:Nat) (hid:E.U id):RV E W (.ptr id i o) (.pointer (some ⟨E.ι id,i*E.sz id+o,none⟩))
 |fn (f:Fn) (first cap:List AV) (vf vc:Array Value) (hl:first.length=vf.size) (hl2:cap.length=vc.size)
   (h:∀(i:Nat) x v,first[i]? =some x→vf[i]? =some v→RV E W x v) (h2:∀(i:Nat) x v,cap[i]? =some x→vc[i]? =some v→RV E W x v):RV E W (.fn f first cap) (.func f vf vc)
 |omap (id:Nat) (hid:E.U id):RV E W (.omap id) (.map (some (E.ι id)))
 |yld (id:Nat) (hid:E.U id):RV E W (.yld id) (.func (.yield (E.ι id)) #[] #[])
structure Evo(E:Env)(W:World)(E':Env)(W':World):Prop where
 os:W'.os=W.os
 tape:W'.tape=W.tape
 output:W'.output=W.output
 size:W.heap.size≤W'.heap.size
 used:∀id,E.U id→E'.U id
 ren:∀id,E.U id→E'.ι id=E.ι id∧E'.sz id=E.sz id
 lim:∀b,E.L b≤E'.L b
 prot:∀b k,k<E.L b→W'.cell? ⟨b,k,none⟩=W.cell? ⟨b,k,none⟩
 foreign:∀b,b<W.heap.size→(∀id,E.U id→E.ι id≠b)→W'.heap[b]? =W.heap[b]?
 sizes:∀(b:Nat) (cur:Array Value) (e:TypeId) (f:Nat×Nat),W.heap[b]? =some (Obj.cells cur e f)→∃(cur':Array Value) (f':Nat×Nat),W'.heap[b]? =some (Obj.cells cur' e f')∧cur'.size=cur.size
 still:∀b,b<W.heap.size→(∀id,E.U id→E.ι id≠b)→E'.L b=E.L b
 fresh:∀id,¬E.U id→E'.U id→W.heap.size≤E'.ι id∨∃id0,E.U id0∧E.ι id0=E'.ι id
 loops:∀(b:Nat) (r:Loop),W.heap[b]? =some (.loop r)→∃r',W'.heap[b]? =some (.loop r')∧r'.defers=r.defers
theorem Evo.refl(E:Env)(W:World):Evo E W E W:=
 ⟨rfl,rfl,rfl,Nat.le_refl _,fun _ h=>h,fun _ _=>⟨rfl,rfl⟩,fun _=>Nat.le_refl _,fun _ _ _=>rfl,fun _ _ _=>rfl,fun b cur e f h=>⟨cur,f,h,rfl⟩,fun _ _ _=>rfl,fun id h h'=>absurd h' h,fun b r h=>⟨r,h,rfl⟩⟩
theorem Evo.trans{E E' E'':Env}{W W' W'':World}(h:Evo E W E' W')(k:Evo E' W' E'' W''):Evo E W E'' W'' where
 os:=k.os.trans h.os
 tape:=k.tape.trans h.tape
 output:=k.output.trans h.output
 size:=Nat.le_trans h.size k.size
 used:=fun id hid=>k.used id (h.used id hid)
 ren:=fun id hid=>by
  have h1:=h.ren id hid;have h2:=k.ren id (h.used id hid);exact⟨h2.1.trans h1.1,h2.2.trans h1.2⟩
 lim:=fun b=>Nat.le_trans (h.lim b) (k.lim b)
 prot:=fun b i hi=>(k.prot b i (Nat.lt_of_lt_of_le hi (h.lim b))).trans (h.prot b i hi)
 foreign:=fun b hb hf=>by
  rw[←h.foreign b hb hf];refine k.foreign b (Nat.lt_of_lt_of_le hb h.size) fun id hid=> ?_
  by_cases hlt:E.U id
  ·rw[(h.ren id hlt).1];exact hf id hlt
  ·rcases h.fresh id hlt hid with h1|⟨id0,h0,h1⟩
   ·omega
   ·rw[←h1];exact hf id0 h0
 sizes:=fun b cur e f hb=>by
  obtain⟨cur',f',h1,h2⟩:=h.sizes b cur e f hb;obtain⟨cur'',f'',h3,h4⟩:=k.sizes b cur' e f' h1;exact⟨cur'',f'',h3,h4.trans h2⟩
 still:=fun b hb hf=>by
  rw[←h.still b hb hf];refine k.still b (Nat.lt_of_lt_of_le hb h.size) fun id hid=> ?_
  by_cases hlt:E.U id
  ·rw[(h.ren id hlt).1];exact hf id hlt
  ·rcases h.fresh id hlt hid with h1|⟨id0,h0,h1⟩
   ·omega
   ·rw[←h1];exact hf id0 h0
 fresh:=fun id h1 h2=>by
  by_cases hlt:E'.U id
  ·rw[(k.ren id hlt).1];exact h.fresh id h1 hlt
  ·rcases k.fresh id hlt h2 with h3|⟨id0,h0,h3⟩
   ·exact .inl (Nat.le_trans h.size h3)
   ·by_cases hl0:E.U id0
    ·exact .inr ⟨id0,hl0,by rw[←h3,(h.ren id0 hl0).1]⟩
    ·rw[←h3];exact h.fresh id0 hl0 h0
 loops:=fun b r hb=>by
  obtain⟨r',h1,h2⟩:=h.loops b r hb;obtain⟨r'',h3,h4⟩:=k.loops b r' h1;exact⟨r'',h3,h4.trans h2⟩
theorem idx_lt{i n s j:Nat}(hi:i<n)(hj:j<s):i*s+j<n*s:=by
 have h:(i+1)*s≤n*s:=Nat.mul_le_mul_right s hi;rw[Nat.succ_mul]at h;omega
theorem RV.mono{E E':Env}{W W':World}(h:Evo E W E' W'){a:AV}{v:Value}(r:RV E W a v):RV E' W' a v:=by
 induction r with
 |c x hx=>exact .c x hx
 |agg xs vs hl _ ih=>exact .agg xs vs hl ih
 |tup xs vs hl _ ih=>exact .tup xs vs hl ih
 |snap rows b off s n cap vs hn hcap hs hL hc hr ih=>
  refine .snap rows b off s n cap vs hn hcap hs (Nat.le_trans hL (h.lim b)) (fun i j row x h1 h2=> ?_) ih
  rw[h.prot]
  ·exact hc i j row x h1 h2
  ·have hi:i<rows.length:=(List.getElem?_eq_some_iff.1 h1).1
   have hj:j<s:=by rw[←hs i row h1];exact(List.getElem?_eq_some_iff.1 h2).1
   have:=idx_lt hi hj;omega
 |snap0 a cap=>exact .snap0 a cap
 |sptr rows i o b off s vs hs hL hc hr ih=>
  refine .sptr rows i o b off s vs hs (Nat.le_trans hL (h.lim b)) (fun i j row x h1 h2=> ?_) ih
  rw[h.prot]
  ·exact hc i j row x h1 h2
  ·have hi:i<rows.length:=(List.getElem?_eq_some_iff.1 h1).1
   have hj:j<s:=by rw[←hs i row h1];exact(List.getElem?_eq_some_iff.1 h2).1
   have:=idx_lt hi hj;omega
 |own id off len cap hid hlc hsz=>
  obtain⟨cur,e,f,h1,h2⟩:=hsz;obtain⟨cur',f',h3,h4⟩:=h.sizes _ _ _ _ h1;rw[←(h.ren id hid).1,←(h.ren id hid).2];refine .own id off len cap (h.used id hid) hlc ⟨cur',e,f',?_,?_⟩
  ·rw[(h.ren id hid).1];exact h3
  ·rw[(h.ren id hid).2,h4];exact h2
 |own0 id off a hid=>exact .own0 id off a (h.used id hid)
 |sub id i o len cap hid hlc hsz=>
  obtain⟨cur,e,f,h1,h2⟩:=hsz;obtain⟨cur',f',h3,h4⟩:=h.sizes _ _ _ _ h1;rw[←(h.ren id hid).1,←(h.ren id hid).2];refine .sub id i o len cap (h.used id hid) hlc ⟨cur',e,f',?_,?_⟩
  ·rw[(h.ren id hid).1];exact h3
  ·rw[(h.ren id hid).2,h4];exact h2
 |ptr id i o hid=>
  rw[←(h.ren id hid).1,←(h.ren id hid).2];exact .ptr id i o (h.used id hid)
 |fn f first cap vf vc hl hl2 _ _ ih1 ih2=>exact .fn f first cap vf vc hl hl2 ih1 ih2
 |omap id hid=>
  rw[←(h.ren id hid).1];exact .omap id (h.used id hid)
 |yld id hid=>
  rw[←(h.ren id hid).1];exact .yld id (h.used id hid)
theorem RV.ofV{E:Env}{W:World}{v:Value}{a:AV}(h:ofV v=some a):RV E W a v:=by
 cases v with
 |agg cs=>
  unfold AL.ofV at h;split at h
  ·rename_i heq
   injection heq with heq
   subst heq;split at h
   ·rename_i hall
    injection h with h
    subst h;refine .agg _ _ (by simp) fun i x v hx hv=> ?_
    simp only[List.getElem?_map,Array.getElem?_toList,hv,Option.map_some,Option.some.injEq]at hx;subst hx;refine .c _ ?_;have:=List.all_eq_true.1 hall v (by rw[Array.mem_toList_iff];exact Array.mem_of_getElem? hv)
    simpa using this
   ·cases h
  ·rename_i hne
   exact absurd rfl (hne cs)
 |_=>injection h with h;subst h;exact .c _ rfl
inductive Blk where
 |cells (elem:TypeId) (s:Nat) (rows:List (List AV)) (w a:Bool)
 |map (es:List (Value×AV))
 |iter (m n:Nat) (seen:List Nat)
 |rcd (env:List (Nat×Bool×AV)) (nt:Nat) (ps:List Tmp) (assign body:Code) (st:LoopState) (pend:Option Code)
def lk:List (Nat×Bool×AV)→Nat→Option (Bool×AV)
 |[],_=>none
 |(i,a)::r,t=>if t=i then some a else lk r t
def Blk.upto:Blk→Nat
 | .cells _ s rows _ _=>rows.length*s
 | .map _=>0
 | .iter .. =>0
 | .rcd .. =>0
def Blk.app:Blk→Bool
 | .cells _ _ _ _ a=>a
 | .map _=>false
 | .iter .. =>false
 | .rcd .. =>false
structure Heap where
 next:Nat
 get:Nat→Option Blk
def StampedI(ms:Array MapEntry)(clock:Nat):Prop:=MapKept.Stamped ms clock∧clock=ms.size∧∀(i:Nat) e,ms[i]? =some e→e.born=i
def BlkOK(E:Env)(W:World)(G:Nat→Option Blk)(id:Nat):Blk→Prop
 | .cells elem s rows w a=>E.sz id=s∧(∀(i:Nat) row,rows[i]? =some row→row.length=s)∧
     (∃cur:Array Value,W.heap[E.ι id]? =some (Obj.cells cur elem (0,0))∧rows.length*s≤cur.size∧
       ∀(i j:Nat) row x,rows[i]? =some row→row[j]? =some x→∃v,cur[i*s+j]? =some v∧RV E W x v)∧
     (w=true→E.L (E.ι id)=0∧∀id' b',id'≠id→G id'=some b'→E.ι id'≠E.ι id)∧
     (a=true→E.L (E.ι id)≤rows.length*s∧∀id' b',id'≠id→G id'=some b'→E.ι id'=E.ι id→b'.upto≤rows.length*s∧b'.app=false)
 | .map es=>(∃(ms:Array MapEntry) (clock:Nat),W.heap[E.ι id]? =some (Obj.map ms clock)∧StampedI ms clock∧ms.size=es.length∧
      ∀(i:Nat) k x,es[i]? =some (k,x)→∃e,ms[i]? =some e∧e.key=k∧RV E W x e.val)∧
     E.L (E.ι id)=0∧∀id' b',id'≠id→G id'=some b'→E.ι id'≠E.ι id
 | .iter m n seen=>(W.heap[E.ι id]? =some (Obj.mapIter (some (E.ι m)) n seen.toArray n)∧E.U m)∧
     E.L (E.ι id)=0∧∀id' b',id'≠id→G id'=some b'→E.ι id'≠E.ι id
 | .rcd env nt ps assign body st pend=>(∃(fn:FuncId) (tmps:Array Value) (D:Nat),W.heap[E.ι id]? =some (.loop {state:=st,pending:=pend,fn,tmps,params:=ps.toArray,assign,body,defers:=D})∧tmps.size=nt∧
      ∀t c a,lk env t=some (c,a)→∃v,tmps[t]? =some v∧(c=true→RV E W a v)∧(c=false→v=undef))∧
     E.L (E.ι id)=0∧∀id' b',id'≠id→G id'=some b'→E.ι id'≠E.ι id
structure RC(E:Env)(W:World)(G:Nat→Option Blk):Prop where
 lim:∀b,W.heap.size≤b→E.L b=0
 inW:∀id,E.U id→E.ι id<W.heap.size
 ok:∀id b,G id=some b→E.U id∧BlkOK E W G id b
structure RH(E:Env)(W:World)(H:Heap):Prop where
 next:∀id,E.U id→id<H.next
 core:RC E W H.get
end Go.AL
namespace Go.AL
open Go.RowKit
def RVs(E:Env)(W:World)(xs:List AV)(vs:List Value):Prop:=
 xs.length=vs.length∧∀(i:Nat) x v,xs[i]? =some x→vs[i]? =some v→RV E W x v
section
variable {E : Env} {W : World}
theorem RVs.nil:RVs E W [] []:=⟨rfl,fun i x v h=>by simp at h⟩
theorem RVs.get{xs:List AV}{vs:List Value}(h:RVs E W xs vs){i:Nat}{x:AV}(hx:xs[i]? =some x):∃v,vs[i]? =some v∧RV E W x v:=by
 have hi:i<vs.length:=by rw[←h.1];exact(List.getElem?_eq_some_iff.1 hx).1
 exact⟨vs[i],List.getElem?_eq_getElem hi,h.2 i x _ hx (List.getElem?_eq_getElem hi)⟩
theorem RVs.cons{x:AV}{v:Value}{xs:List AV}{vs:List Value}(h:RV E W x v)(hs:RVs E W xs vs):RVs E W (x::xs) (v::vs):=by
 refine⟨by simp[hs.1],fun i y u hy hu=> ?_⟩
 cases i with
 |zero=>simp at hy hu;subst hy;subst hu;exact h
 |succ i=>simp at hy hu;exact hs.2 i y u hy hu
theorem RVs.append{xs ys:List AV}{vs us:List Value}(h:RVs E W xs vs)(k:RVs E W ys us):RVs E W (xs++ys) (vs++us):=by
 refine⟨by simp[h.1,k.1],fun i x v hx hv=> ?_⟩
 by_cases hi:i<xs.length
 ·rw[List.getElem?_append_left hi]at hx
  rw[List.getElem?_append_left (by rw[←h.1];exact hi)]at hv
  exact h.2 i x v hx hv
 ·rw[List.getElem?_append_right (by omega)]at hx
  rw[List.getElem?_append_right (by rw[←h.1];omega),←h.1]at hv
  exact k.2 _ x v hx hv
theorem RVs.take{xs:List AV}{vs:List Value}(h:RVs E W xs vs)(n:Nat):RVs E W (xs.take n) (vs.take n):=by
 refine⟨by simp[h.1],fun i x v hx hv=> ?_⟩
 rw[List.getElem?_take]at hx hv;split at hx
 ·rename_i hi;simp only[hi,if_true]at hv;exact h.2 i x v hx hv
 ·cases hx
theorem RVs.drop{xs:List AV}{vs:List Value}(h:RVs E W xs vs)(n:Nat):RVs E W (xs.drop n) (vs.drop n):=by
 refine⟨by simp[h.1],fun i x v hx hv=> ?_⟩
 rw[List.getElem?_drop]at hx hv;exact h.2 _ x v hx hv
theorem RVs.ofCells{xs:List Value}(h:xs.all (fun v=> !isAggV v)=true):RVs E W (xs.map AV.c) xs:=by
 refine⟨by simp,fun i x v hx hv=> ?_⟩
 simp only[List.getElem?_map,hv,Option.map_some,Option.some.injEq]at hx;subst hx;refine .c _ ?_;have:=List.all_eq_true.1 h v (List.mem_of_getElem? hv);simpa using this
theorem RV.toCells{a:AV}{v:Value}(r:RV E W a v):RVs E W a.cells v.cells.toList:=by
 cases r with
 |agg xs vs hl h=>exact⟨by simpa[AV.cells,Value.cells]using hl,fun i x v hx hv=>h i x v hx (by simpa[Value.cells]using hv)⟩
 |c x hx=>
  have:v.cells= #[v]:=by cases v<;>first|rfl|(simp[isAggV]at hx)
  rw[this];exact .cons (.c v hx) .nil
 |tup xs vs hl h=>exact .cons (.tup xs vs hl h) .nil
 |snap rows b off s n cap vs hn hcap hs hL hc hr=>exact .cons (.snap rows b off s n cap vs hn hcap hs hL hc hr) .nil
 |snap0 a cap=>exact .cons (.snap0 a cap) .nil
 |sptr rows i o b off s vs hs hL hc hr=>exact .cons (.sptr rows i o b off s vs hs hL hc hr) .nil
 |own id off len cap hid hlc hsz=>exact .cons (.own id off len cap hid hlc hsz) .nil
 |own0 id off a hid=>exact .cons (.own0 id off a hid) .nil
 |sub id i o len cap hid hlc hsz=>exact .cons (.sub id i o len cap hid hlc hsz) .nil
 |ptr id i o hid=>exact .cons (.ptr id i o hid) .nil
 |fn f first cap vf vc hl hl2 h h2=>exact .cons (.fn f first cap vf vc hl hl2 h h2) .nil
 |omap id hid=>exact .cons (.omap id hid) .nil
 |yld id hid=>exact .cons (.yld id hid) .nil
theorem RV.oneOf{a:AV}{v:Value}(r:RV E W a v)(h:a.one=true):v.oneCell'=true:=by
 cases r<;>first|rfl|exact h|(simp[AV.one]at h)
theorem RVs.ones{xs:List AV}{vs:List Value}(h:RVs E W xs vs)(ho:xs.all AV.one=true):∀v∈vs,v.oneCell'=true:=by
 intro v hv;obtain⟨i,hi⟩:=List.getElem?_of_mem hv;have hlt:i<xs.length:=by rw[h.1];exact(List.getElem?_eq_some_iff.1 hi).1
 exact(h.2 i xs[i] v (List.getElem?_eq_getElem hlt) hi).oneOf (List.all_eq_true.1 ho _ (List.getElem_mem hlt))
end
def deref(G:Nat→Option Blk):AV→Option (List AV×Nat×List Nat)
 | .ptr id i o=>match G id with
   |some (.cells _ _ rows _ _)=>match rows[i]? with
    |some row=>some (row,o,[id])
    |none=>none
   |_=>none
 | .sptr rows i o=>match rows[i]? with
   |some row=>some (row,o,[])
   |none=>none
 |_=>none
def rowsOf(G:Nat→Option Blk):AV→Option (List (List AV)×List Nat)
 | .c (.slice _ 0 _)=>some ([],[])
 | .snap rows=>some (rows,[])
 | .own id off len=>match G id with
   |some (.cells _ _ rows _ _)=>if off+len≤rows.length then some ((rows.drop off).take len,[id])else none
   |_=>none
 | .sub id i o len=>match G id with
   |some (.cells _ _ rows _ _)=>match rows[i]? with
    |some row=>if o+len≤row.length then some (((row.drop o).take len).map fun x=> [x],[id])else none
    |none=>none
   |_=>none
 |_=>none
theorem deref_ok{E:Env}{W:World}{G:Nat→Option Blk}(hG:RC E W G){a:AV}{v:Value}(r:RV E W a v){row:List AV}{o:Nat}{rd:List Nat}(h:deref G a=some (row,o,rd)):
  ∃b p,v= .pointer (some ⟨b,p+o,none⟩)∧∃vs:List Value,RVs E W row vs∧∀(j:Nat) u,vs[j]? =some u→W.cell? ⟨b,p+j,none⟩=some u:=by
 unfold deref at h;split at h
 ·rename_i id i o'
  split at h
  ·rename_i e s rows w ap hget
   split at h
   ·rename_i row' hrow
    simp only[Option.some.injEq,Prod.mk.injEq]at h;obtain⟨rfl,rfl,rfl⟩:=h;cases r with
    |ptr _ _ _ hid=>
    obtain⟨hU,hsz,hlen,⟨cur,hcur,hle,hcells⟩,_,_⟩:=hG.ok id _ hget;have hi:i<rows.length:=(List.getElem?_eq_some_iff.1 hrow).1;have hl:=hlen i row' hrow
    have hle2:i*s+s≤cur.size:=by
     have:(i+1)*s≤rows.length*s:=Nat.mul_le_mul_right s hi;rw[Nat.succ_mul]at this;omega
    refine⟨E.ι id,i*s,by rw[hsz],(cur.toList.drop (i*s)).take s,⟨by simp[hl];omega,fun j x u hx hu=> ?_⟩,fun j u hu=> ?_⟩
    ·obtain⟨u',h1,h2⟩:=hcells i j row' x hrow hx
     have hj:j<s:=by rw[←hl];exact(List.getElem?_eq_some_iff.1 hx).1
     rw[List.getElem?_take,if_pos hj,List.getElem?_drop]at hu;simp only[Array.getElem?_toList]at hu;rw[h1]at hu;injection hu with hu
     subst hu;exact h2
    ·rw[List.getElem?_take]at hu
     split at hu
     ·rw[List.getElem?_drop]at hu
      simp only[Array.getElem?_toList]at hu;rw[cell_of_row W _ _ cur e (0,0) hcur];exact hu
     ·cases hu
   ·cases h
  ·cases h
 ·rename_i rows i o'
  split at h
  ·rename_i row' hrow
   simp only[Option.some.injEq,Prod.mk.injEq]at h;obtain⟨rfl,rfl,rfl⟩:=h;cases r with
   |sptr _ _ _ b off s vs hs hL hc hr=>
   have hl:=hs i row' hrow;refine⟨b,off+i*s,by simp[Nat.add_assoc],(List.range row'.length).map (fun j=>vs i j),⟨by simp,fun j x u hx hu=> ?_⟩,fun j u hu=> ?_⟩
   ·have hj:j<row'.length:=(List.getElem?_eq_some_iff.1 hx).1
    simp[hj]at hu;subst hu;exact hr i j row' x hrow hx
   ·by_cases hj:j<row'.length
    ·simp[hj]at hu
     subst hu;have:=hc i j row' row'[j] hrow (List.getElem?_eq_getElem hj);rw[Nat.add_assoc];exact this
    ·rw[List.getElem?_eq_none (by simp;omega)]at hu;cases hu
  ·cases h
 ·cases h
theorem rowsOf_ok{E:Env}{W:World}{G:Nat→Option Blk}(hG:RC E W G){a:AV}{v:Value}(r:RV E W a v){rows:List (List AV)}{rd:List Nat}(h:rowsOf G a=some (rows,rd)):
  ∃base n cap,v= .slice base n cap∧n=rows.length∧n≤cap∧(rows≠[]→∃b p s,base=some ⟨b,p,none⟩∧(∀(i:Nat) row,rows[i]? =some row→row.length=s)∧
   (∀(i j:Nat) row x,rows[i]? =some row→row[j]? =some x→∃u,W.cell? ⟨b,p+(i*s+j),none⟩=some u∧RV E W x u)):=by
 unfold rowsOf at h;split at h
 ·simp only[Option.some.injEq,Prod.mk.injEq]at h
  obtain⟨rfl,rfl⟩:=h;cases r;exact⟨_,0,_,rfl,rfl,Nat.zero_le _,fun h=>absurd rfl h⟩
 ·rename_i rows'
  simp only[Option.some.injEq,Prod.mk.injEq]at h;obtain⟨rfl,rfl⟩:=h;cases r with
  |snap _ b off s n cap vs hn hcap hs hL hc hr=>
   exact⟨_,n,cap,rfl,hn,hcap,fun _=>⟨b,off,s,rfl,hs,fun i j row x h1 h2=>⟨_,hc i j row x h1 h2,hr i j row x h1 h2⟩⟩⟩
  |snap0 a cap=>exact⟨a,0,cap,rfl,rfl,Nat.zero_le _,fun h=>absurd rfl h⟩
 ·rename_i id off len
  split at h
  ·rename_i e s rows' w ap hget
   split at h
   ·rename_i hle
    simp only[Option.some.injEq,Prod.mk.injEq]at h;obtain⟨rfl,rfl⟩:=h;obtain⟨hU,hsz,hlen,⟨cur,hcur,hle',hcells⟩,_,_⟩:=hG.ok id _ hget;cases r with
    |own _ _ _ cap hid hlc hsz'=>
     refine⟨_,len,cap,rfl,by simp;omega,hlc,fun _=>⟨_,_,s,rfl,fun i row hrow=> ?_,fun i j row x hrow hx=> ?_⟩⟩
     ·rw[List.getElem?_take]at hrow
      split at hrow
      ·rw[List.getElem?_drop]at hrow;exact hlen _ row hrow
      ·cases hrow
     ·rw[List.getElem?_take]at hrow
      split at hrow
      ·rw[List.getElem?_drop]at hrow
       obtain⟨u,h1,h2⟩:=hcells _ j row x hrow hx;refine⟨u,?_,h2⟩;rw[cell_of_row W _ _ cur e (0,0) hcur,hsz,←h1];congr 1;rw[Nat.add_mul];omega
      ·cases hrow
    |own0 _ _ a hid=>exact⟨a,0,0,rfl,by simp,Nat.le_refl _,fun h=>absurd (by simp) h⟩
   ·cases h
  ·cases h
 ·rename_i id i o len
  split at h
  ·rename_i e s rows' w ap hget
   split at h
   ·rename_i row hrow
    split at h
    ·rename_i hle
     simp only[Option.some.injEq,Prod.mk.injEq]at h;obtain⟨rfl,rfl⟩:=h;obtain⟨hU,hsz,hlen,⟨cur,hcur,hle',hcells⟩,_,_⟩:=hG.ok id _ hget;cases r with
     |sub _ _ _ _ cap hid hlc hsz'=>
      have hget':∀(i':Nat) row',(((row.drop o).take len).map fun x=> [x])[i']? =some row'→∃y,row[o+i']? =some y∧row'=[y]:=fun i' row' hr=>by
       rw[List.getElem?_map]at hr;cases hq:((row.drop o).take len)[i']? with
       |none=>rw[hq]at hr;cases hr
       |some y=>
        rw[hq]at hr;injection hr with hr
        rw[List.getElem?_take]at hq;split at hq
        ·rw[List.getElem?_drop]at hq;exact⟨y,hq,hr.symm⟩
        ·cases hq
      refine⟨_,len,cap,rfl,by simp;omega,hlc,fun _=>⟨_,_,1,rfl,fun i' row' hr=> ?_,fun i' j row' x hr hx=> ?_⟩⟩
      ·obtain⟨y,_,rfl⟩:=hget' i' row' hr;rfl
      ·obtain⟨y,hy,rfl⟩:=hget' i' row' hr
       obtain⟨rfl,rfl⟩:j=0∧y=x:=by
        match j,hx with
        |0,hx=>injection hx with hx;exact⟨rfl,hx⟩
       obtain⟨u,h1,h2⟩:=hcells i (o+i') row y hrow hy;refine⟨u,?_,h2⟩;rw[cell_of_row W _ _ cur e (0,0) hcur,hsz,←h1];congr 1;omega
    ·cases h
   ·cases h
  ·cases h
 ·cases h
end Go.AL
namespace Go.AL
open Go.RowKit
def upd(G:Nat→Option Blk):List (Nat×Option Blk)→Nat→Option Blk
 |[]=>G
 |(i,b)::r=>upd (fun k=>if k=i then b else G k) r
def lookT(k:Nat):List (Nat×Option Blk)→Option Blk
 |[]=>none
 |(i,b)::r=>if k=i then b else lookT k r
def tabG(l:List (Nat×Option Blk))(k:Nat):Option Blk:=lookT k l
theorem tabG_at(l:List (Nat×Option Blk))(k:Nat):tabG l k=lookT k l:=rfl
def insL:List (Nat×Option Blk)→Nat→Option Blk→List (Nat×Option Blk)
 |[],i,b=> [(i,b)]
 |(j,c)::r,i,b=>if i=j then(i,b)::r else(j,c)::insL r i b
theorem tab_ins(l:List (Nat×Option Blk))(i:Nat)(b:Option Blk):(fun k=>if k=i then b else tabG l k)=tabG (insL l i b):=by
 funext k
 induction l with
 |nil=>rfl
 |cons p r ih=>
  obtain⟨j,c⟩:=p;simp only[insL];by_cases hij:i=j
  ·subst hij
   simp only[if_true,tabG,lookT];split<;>rfl
  ·simp only[hij,if_false,tabG,lookT]
   simp only[tabG]at ih;rw[←ih];by_cases hkj:k=j
   ·subst hkj;simp[Ne.symm hij]
   ·simp[hkj]
theorem upd_nil(G:Nat→Option Blk):upd G []=G:=rfl
theorem upd_cons(l:List (Nat×Option Blk))(i:Nat)(b:Option Blk)(r:List (Nat×Option Blk)):upd (tabG l) ((i,b)::r)=upd (tabG (insL l i b)) r:=by
 rw[←tab_ins];rfl
theorem BlkOK.mono{E E':Env}{W W':World}{G G':Nat→Option Blk}{id:Nat}{b:Blk}(h:BlkOK E W G id b)(hv:Evo E W E' W')(hU:E.U id)
  (hh:W'.heap[E.ι id]? =W.heap[E.ι id]?) (hL:E'.L (E.ι id)=E.L (E.ι id))
  (hG:∀id' b',id'≠id→G' id'=some b'→E'.ι id'=E.ι id→∃b0,G id'=some b0∧E.ι id'=E.ι id∧b'.upto=b0.upto∧(b0.app=false→b'.app=false)):BlkOK E' W' G' id b:=by
 cases b with
 |map es=>
  obtain⟨⟨ms,clock,h1,h2,h3,h4⟩,h5,h6⟩:=h;have hι:=(hv.ren id hU).1;refine⟨⟨ms,clock,by rw[hι,hh];exact h1,h2,h3,fun i k x hx=> ?_⟩,by rw[hι,hL];exact h5,fun id' b' hne hg heq=> ?_⟩
  ·obtain⟨e,he1,he2,he3⟩:=h4 i k x hx
   exact⟨e,he1,he2,he3.mono hv⟩
  ·rw[hι]at heq
   obtain⟨b0,hb0,hι0,_,_⟩:=hG id' b' hne hg heq;exact h6 id' b0 hne hb0 hι0
 |iter m n seen=>
  obtain⟨⟨h1,h3⟩,h5,h6⟩:=h;have hι:=(hv.ren id hU).1;refine⟨⟨by rw[hι,hh,(hv.ren m h3).1];exact h1,hv.used m h3⟩,by rw[hι,hL];exact h5,fun id' b' hne hg heq=> ?_⟩
  rw[hι]at heq;obtain⟨b0,hb0,hι0,_,_⟩:=hG id' b' hne hg heq;exact h6 id' b0 hne hb0 hι0
 |rcd env nt ps assign body st pend=>
  obtain⟨⟨fn,tmps,D,h1,h2,h3⟩,h5,h6⟩:=h;have hι:=(hv.ren id hU).1;refine⟨⟨fn,tmps,D,by rw[hι,hh];exact h1,h2,fun t c a ht=> ?_⟩,by rw[hι,hL];exact h5,fun id' b' hne hg heq=> ?_⟩
  ·obtain⟨v,he1,he2,he3⟩:=h3 t c a ht
   exact⟨v,he1,fun hc=>(he2 hc).mono hv,he3⟩
  ·rw[hι]at heq
   obtain⟨b0,hb0,hι0,_,_⟩:=hG id' b' hne hg heq;exact h6 id' b0 hne hb0 hι0
 |cells elem s rows w a=>
  obtain⟨h1,h2,⟨cur,h3,h4,h5⟩,h6,h7⟩:=h;have hι:=(hv.ren id hU).1;have hs:=(hv.ren id hU).2;refine⟨by rw[hs];exact h1,h2,⟨cur,by rw[hι,hh];exact h3,h4,fun i j row x hr hx=> ?_⟩,fun hw=> ?_,fun ha=> ?_⟩
  ·obtain⟨v,hv1,hv2⟩:=h5 i j row x hr hx
   exact⟨v,hv1,hv2.mono hv⟩
  ·obtain⟨hz,hd⟩:=h6 hw
   refine⟨by rw[hι,hL];exact hz,fun id' b' hne hg heq=> ?_⟩
   rw[hι]at heq;obtain⟨b0,hb0,hι0,_,_⟩:=hG id' b' hne hg heq;exact hd id' b0 hne hb0 hι0
  ·obtain⟨hz,hd⟩:=h7 ha
   refine⟨by rw[hι,hL];exact hz,fun id' b' hne hg heq=> ?_⟩
   rw[hι]at heq;obtain⟨b0,hb0,hι0,hup,hap⟩:=hG id' b' hne hg heq;obtain⟨h8,h9⟩:=hd id' b0 hne hb0 hι0;exact⟨by rw[hup];exact h8,hap h9⟩
def Env.more(E:Env)(nid g s:Nat):Env where
 ι:=fun k=>if k=nid then g else E.ι k
 sz:=fun k=>if k=nid then s else E.sz k
 U:=fun k=>E.U k∨k=nid
 L:=E.L
section
variable {E : Env} {W : World} {G : Nat → Option Blk}
theorem Evo.alloc(hG:RC E W G){nid:Nat}(hn:¬E.U nid)(o:Obj)(s:Nat):Evo E W (E.more nid W.heap.size s) (W.alloc o)where
 os:=rfl
 tape:=rfl
 output:=rfl
 size:=by simp
 used:=fun id h=> .inl h
 ren:=fun id h=>by
  have:id≠nid:=fun e=>hn (e▸h)
  simp[Env.more,this]
 lim:=fun b=>Nat.le_refl _
 prot:=fun b k hk=>by
  refine World.cell?_alloc_old W o _ fun e=> ?_
  have:=hG.lim b (by simp at e;omega)
  omega
 foreign:=fun b hb _=>Below.heap_alloc W o b hb
 sizes:=fun b cur e f h=>⟨cur,f,by rw[Below.heap_alloc W o b (Array.getElem?_eq_some_iff.1 h).1];exact h,rfl⟩
 still:=fun _ _ _=>rfl
 fresh:=fun id h1 h2=>by
  rcases h2 with h2|h2
  ·exact absurd h2 h1
  ·subst h2;left;simp[Env.more]
 loops:=fun b r h=>⟨r,by rw[Below.heap_alloc W o b (Array.getElem?_eq_some_iff.1 h).1];exact h,rfl⟩
theorem Evo.drew(E:Env)(W:World):Evo E W E W.drew:=
 ⟨rfl,rfl,rfl,Nat.le_refl _,fun _ h=>h,fun _ _=>⟨rfl,rfl⟩,fun _=>Nat.le_refl _,fun _ _ _=>rfl,fun _ _ _=>rfl,fun b cur e f h=>⟨cur,f,h,rfl⟩,fun _ _ _=>rfl,fun id h h'=>absurd h' h,fun b r h=>⟨r,h,rfl⟩⟩
theorem RC.keep{W':World}(hG:RC E W G)(hv:Evo E W E W')(hh:W'.heap=W.heap):RC E W' G where
 lim:=fun b hb=>hG.lim b (by rw[hh]at hb;exact hb)
 inW:=fun id h=>by rw[hh];exact hG.inW id h
 ok:=fun id b h=>by
  obtain⟨h1,h2⟩:=hG.ok id b h;exact⟨h1,h2.mono hv h1 (by rw[hh]) rfl fun id' b' _ hg he=>⟨b',hg,he,rfl,fun h=>h⟩⟩
theorem RC.drew(hG:RC E W G):RC E W.drew G:=hG.keep (Evo.drew E W) rfl
theorem RC.alloc(hG:RC E W G){nid:Nat}(hn:¬E.U nid)(elem:TypeId)(cur:Array Value)(s:Nat)(rows:List (List AV))(w a:Bool)
  (hs:∀(i:Nat) row,rows[i]? =some row→row.length=s) (hle:rows.length*s≤cur.size)
  (hc:∀(i j:Nat) row x,rows[i]? =some row→row[j]? =some x→∃v,cur[i*s+j]? =some v∧RV E W x v):
  RC (E.more nid W.heap.size s) (W.alloc (.cells cur elem)) (upd G [(nid,some (.cells elem s rows w a))])where
 lim:=fun b hb=>hG.lim b (by simp at hb;omega)
 inW:=fun id h=>by
  rcases h with h|h
  ·have hne:id≠nid:=fun e=>hn (e▸h)
   have:=hG.inW id h;simp[Env.more,hne];omega
  ·subst h;simp[Env.more]
 ok:=fun id b h=>by
  have hv:=Evo.alloc hG hn (.cells cur elem) s;by_cases hid:id=nid
  ·subst hid
   simp only[upd,if_true,Option.some.injEq]at h;subst h;refine⟨.inr rfl,by simp[Env.more],hs,⟨cur,by simp only[Env.more,if_true];exact heap_alloc_new W _,hle,fun i j row x h1 h2=> ?_⟩,fun _=>⟨?_,fun id' b' hne hg=> ?_⟩,fun _=>⟨?_,fun id' b' hne hg he=> ?_⟩⟩
   ·obtain⟨v,h3,h4⟩:=hc i j row x h1 h2
    exact⟨v,h3,h4.mono hv⟩
   ·simp only[Env.more,if_true];exact hG.lim _ (Nat.le_refl _)
   ·simp only[upd,hne,if_false]at hg
    have:=hG.inW id' (hG.ok id' b' hg).1;simp only[Env.more,hne,if_true,if_false];omega
   ·simp only[Env.more,if_true];rw[hG.lim _ (Nat.le_refl _)];omega
   ·simp only[upd,hne,if_false]at hg
    have:=hG.inW id' (hG.ok id' b' hg).1;simp only[Env.more,hne,if_true,if_false]at he;omega
  ·simp only[upd,hid,if_false]at h
   obtain⟨h1,h2⟩:=hG.ok id b h;have hlt:=hG.inW id h1;refine⟨.inl h1,h2.mono hv h1 (Below.heap_alloc W _ _ hlt) rfl fun id' b' hne hg he=> ?_⟩
   by_cases hn':id'=nid
   ·subst hn';simp only[Env.more,if_true]at he;omega
   ·simp only[upd,hn',if_false]at hg
    simp only[Env.more,hn',if_false]at he;exact⟨b',hg,he,rfl,fun h=>h⟩
theorem Evo.setRow(hG:RC E W G){id:Nat}(hU:E.U id){cur cur':Array Value}{e:TypeId}(hcur:W.heap[E.ι id]? =some (.cells cur e (0,0)))
  (hsz:cur'.size=cur.size) (hp:∀k,k<E.L (E.ι id)→cur'[k]? =cur[k]?):Evo E W E (W.setRow (E.ι id) cur')where
 os:=rfl
 tape:=rfl
 output:=rfl
 size:=by simp
 used:=fun _ h=>h
 ren:=fun _ _=>⟨rfl,rfl⟩
 lim:=fun _=>Nat.le_refl _
 prot:=fun b k hk=>by
  by_cases hb:b=E.ι id
  ·subst hb
   rw[cell_setRow_same W _ k cur cur' e (0,0) hcur,cell_of_row W _ k cur e (0,0) hcur];exact hp k hk
  ·exact cell_setRow_other W _ cur' ⟨b,k,none⟩ hb
 foreign:=fun b _ hf=>setRow_other W _ b cur' fun h=>hf id hU h.symm
 sizes:=fun b c e' f h=>by
  by_cases hb:b=E.ι id
  ·subst hb
   rw[hcur]at h;injection h with h
   injection h with h1 h2 h3
   subst h1;subst h2;subst h3;exact⟨cur',(0,0),setRow_heap W _ cur cur' e (0,0) hcur,hsz⟩
  ·exact⟨c,f,by rw[setRow_other W _ b cur' hb];exact h,rfl⟩
 still:=fun _ _ _=>rfl
 fresh:=fun id h h'=>absurd h' h
 loops:=fun b r h=>by
  by_cases hb:b=E.ι id
  ·subst hb;rw[hcur]at h;cases h
  ·exact⟨r,by rw[setRow_other W _ b cur' hb];exact h,rfl⟩
end
def spl(row:List AV)(o:Nat)(xs:List AV):List AV:=row.take o++xs++row.drop (o+xs.length)
theorem length_spl{row xs:List AV}{o:Nat}(h:o+xs.length≤row.length):(spl row o xs).length=row.length:=by
 simp[spl];omega
theorem spl_get{row xs:List AV}{o j:Nat}{x:AV}(h:o+xs.length≤row.length)(hx:(spl row o xs)[j]? =some x):
  (o≤j∧j<o+xs.length∧xs[j-o]? =some x)∨((j<o∨o+xs.length≤j)∧row[j]? =some x):=by
 unfold spl at hx;by_cases h1:j<o
 ·rw[List.append_assoc,List.getElem?_append_left (by simp;omega),List.getElem?_take,if_pos h1]at hx
  exact .inr ⟨.inl h1,hx⟩
 ·by_cases h2:j<o+xs.length
  ·rw[List.append_assoc,List.getElem?_append_right (by simp;omega),List.getElem?_append_left (by simp;omega)]at hx
   refine .inl ⟨by omega,h2,?_⟩
   rw[←hx];congr 1;simp;omega
  ·rw[List.getElem?_append_right (by simp;omega),List.getElem?_drop]at hx
   refine .inr ⟨.inr (by omega),?_⟩
   rw[←hx];congr 1;simp;omega
theorem RC.write{E:Env}{W:World}{G:Nat→Option Blk}(hG:RC E W G){id:Nat}{elem:TypeId}{s:Nat}{rows:List (List AV)}{a:Bool}(hg:G id=some (.cells elem s rows true a))
  {i o:Nat} {row:List AV} (hrow:rows[i]? =some row) {xs:List AV} {vs:List Value} (hx:RVs E W xs vs) (hle:o+xs.length≤row.length) (h1:∀v∈vs,v.oneCell'=true) {P:Program}:
  ∃cur',(storeCells ⟨E.ι id,i*s+o,none⟩ vs 0).run P W= .ok () (W.setRow (E.ι id) cur')∧Evo E W E (W.setRow (E.ι id) cur')∧
   RC E (W.setRow (E.ι id) cur') (upd G [(id,some (.cells elem s (rows.set i (spl row o xs)) true a))]):=by
 obtain⟨hU,hsz,hlen,⟨cur,hcur,hsize,hcells⟩,hw,ha⟩:=hG.ok id _ hg;obtain⟨hL,hd⟩:=hw rfl;have hi:i<rows.length:=(List.getElem?_eq_some_iff.1 hrow).1;have hl:=hlen i row hrow
 have hle2:i*s+s≤cur.size:=by
  have:(i+1)*s≤rows.length*s:=Nat.mul_le_mul_right s hi;rw[Nat.succ_mul]at this;omega
 have hvl:vs.length=xs.length:=hx.1.symm;have hst:=run_storeCells_at P (E.ι id) (i*s+o) elem vs 0 cur W hcur (by omega) h1
 simp only[Nat.add_zero]at hst;refine⟨_,hst,?_⟩;generalize hc':(cur.toList.take (i*s+o)++vs++cur.toList.drop (i*s+o+vs.length)).toArray=cur' at*;have hs':cur'.size=cur.size:=by subst hc';simp;omega
 have hv:=Evo.setRow hG hU hcur hs' (fun k hk=>by omega)
 refine⟨hv,⟨fun b hb=>hG.lim b (by simpa using hb),fun id' h=>by simpa using hG.inW id' h,fun id' b h=> ?_⟩⟩
 by_cases hid:id'=id
 ·subst hid
  simp only[upd,if_true,Option.some.injEq]at h;subst h;refine⟨hU,hsz,fun i' row' hr=> ?_,⟨cur',setRow_heap W _ cur cur' elem (0,0) hcur,by simp;omega,fun i' j row' x hr hx'=> ?_⟩,fun _=>⟨hL,fun id'' b'' hne hg'=> ?_⟩,fun ha'=> ?_⟩
  ·by_cases hii:i'=i
   ·subst hii;rw[List.getElem?_set_self hi]at hr;injection hr with hr;subst hr;rw[length_spl hle];exact hl
   ·rw[List.getElem?_set_ne (Ne.symm hii)]at hr;exact hlen i' row' hr
  ·have hgetc:∀k,k<cur.size→(k<i*s+o∨i*s+o+vs.length≤k)→cur'[k]? =cur[k]? :=by
    intro k hk hk2;subst hc';rw[List.getElem?_toArray];rcases hk2 with hk2|hk2
    ·rw[List.append_assoc,List.getElem?_append_left (by simp;omega),List.getElem?_take,if_pos hk2];simp
    ·rw[List.getElem?_append_right (by simp;omega),List.getElem?_drop];simp;congr 1;omega
   have hgetn:∀k,k<vs.length→cur'[i*s+o+k]? =vs[k]? :=by
    intro k hk;subst hc';rw[List.getElem?_toArray,List.append_assoc,List.getElem?_append_right (by simp;omega),List.getElem?_append_left (by simp;omega)]
    congr 1;simp;omega
   by_cases hii:i'=i
   ·subst hii
    rw[List.getElem?_set_self hi]at hr;injection hr with hr
    subst hr;rcases spl_get hle hx' with⟨h2,h3,h4⟩|⟨h2,h4⟩
    ·obtain⟨v,h5,h6⟩:=hx.get h4
     refine⟨v,?_,h6.mono hv⟩;rw[←h5,←hgetn (j-o) (by omega)];congr 1;omega
    ·obtain⟨v,h5,h6⟩:=hcells i' j row x hrow h4
     refine⟨v,?_,h6.mono hv⟩;rw[←h5];have hj:j<s:=by rw[←hl];exact(List.getElem?_eq_some_iff.1 h4).1
     exact hgetc _ (by omega) (by omega)
   ·rw[List.getElem?_set_ne (Ne.symm hii)]at hr
    obtain⟨v,h5,h6⟩:=hcells i' j row' x hr hx';refine⟨v,?_,h6.mono hv⟩;rw[←h5];have hl':=hlen i' row' hr;have hj:j<s:=by rw[←hl'];exact(List.getElem?_eq_some_iff.1 hx').1
    refine hgetc _ (Array.getElem?_eq_some_iff.1 h5).1 ?_;rcases Nat.lt_or_gt_of_ne hii with h7|h7
    ·have:(i'+1)*s≤i*s:=Nat.mul_le_mul_right s h7
     rw[Nat.succ_mul]at this;omega
    ·have:(i+1)*s≤i'*s:=Nat.mul_le_mul_right s h7
     rw[Nat.succ_mul]at this;omega
  ·simp only[upd,hne,if_false]at hg'
   exact hd id'' b'' hne hg'
  ·obtain⟨h8,h9⟩:=ha ha'
   refine⟨by rw[hL];omega,fun id'' b'' hne hg' he=> ?_⟩
   simp only[upd,hne,if_false]at hg';exact absurd he (hd id'' b'' hne hg')
 ·simp only[upd,hid,if_false]at h
  obtain⟨h2,h3⟩:=hG.ok id' b h;have hι:E.ι id'≠E.ι id:=hd id' b hid h;refine⟨h2,h3.mono hv h2 (setRow_other W _ _ cur' hι) rfl fun id'' b'' hne hg' he=> ?_⟩
  by_cases hid'':id''=id
  ·subst hid'';exact absurd he.symm hι
  ·simp only[upd,hid'',if_false]at hg'
   exact⟨b'',hg',he,rfl,fun h=>h⟩
end Go.AL
namespace Go.AL
open Go.RowKit
section types
variable (P : Program)
def szT(t:TypeId):Option Nat:=(P.info? t).map (·.size)
def bytesT(t:TypeId):Option Nat:=(P.info? t).map (·.bytes)
def isAggT(t:TypeId):Option Bool:=
 match P.underlying t with
 |some (.struct _)|some (.array _ _)=>some true
 |some _=>some false
 |none=>none
def fieldT(t:TypeId)(f:Nat):Option (Nat×Nat×TypeId):=
 match P.underlying t with
 |some (.struct fs)=>match fs[f]? with
  |some fd=>(szT P fd.type).map fun k=>(fd.offset,k,fd.type)
  |none=>none
 |_=>none
def sliceT(t:TypeId):Option (TypeId×Nat):=
 match P.underlying t with
 |some (.slice e)=>(szT P e).map fun k=>(e,k)
 |_=>none
def arrT(t:TypeId):Option (Nat×TypeId×Nat):=
 match P.underlying t with
 |some (.array n e)=>(szT P e).map fun k=>(n,e,k)
 |_=>none
def intT(t:TypeId):Option IntKind:=
 match P.underlying t with
 |some (.int k)=>some k
 |_=>none
def zeroT(t:TypeId):Option (List AV):=
 match(P.info? t).bind (·.zero)with
 |some z=>if z.cells.toList.all (fun v=> !isAggV v)then some (z.cells.toList.map AV.c)else none
 |none=>none
def isT(t:TypeId)(d:TypeDesc→Bool):Bool:=((P.underlying t).map d).getD false
end types
def isString:TypeDesc→Bool| .string=>true|_=>false
def isBool:TypeDesc→Bool| .bool=>true|_=>false
def partA(P:Program)(t:TypeId)(xs:List AV)(off:Nat):Option AV:=
 match isAggT P t,szT P t with
 |some true,some k=>if off+k≤xs.length then some (.agg ((xs.drop off).take k))else none
 |some false,some _=>xs[off]?
 |_,_=>none
def intBin(op:BinOp)(k:IntKind)(a b:Int):Option Value:=
 match op with
 | .add=>some (.int k (k.wrap (a+b)))
 | .sub=>some (.int k (k.wrap (a-b)))
 | .mul=>some (.int k (k.wrap (a*b)))
 | .quo=>if b=0 then none else some (.int k (k.wrap (a.tdiv b)))
 | .rem=>if b=0 then none else some (.int k (a.tmod b))
 | .eql=>some (.bool (a==b))
 | .neq=>some (.bool (a !=b))
 | .lss=>some (.bool (decide (a<b)))
 | .leq=>some (.bool (decide (a≤b)))
 | .gtr=>some (.bool (decide (b<a)))
 | .geq=>some (.bool (decide (b≤a)))
 | .and=>some (.int k (bits .and k a b))
 | .or=>some (.int k (bits .or k a b))
 | .xor=>some (.int k (bits .xor k a b))
 | .andNot=>some (.int k (bits .andNot k a b))
 |_=>none
def shV(left:Bool)(k:IntKind)(a b:Int):Option Value:=
 if b<0 then none else match left with
  |true=>some (.int k (k.wrap (a*2 ^ min b.toNat k.bits)))
  |false=>some (.int k (a.fdiv (2 ^ min b.toNat k.bits)))
def intV(op:BinOp)(k k':IntKind)(a b:Int):Option Value:=
 match op with
 | .shl=>shV true k a b
 | .shr=>shV false k a b
 |_=>if k=k' then intBin op k a b else none
def isAny:TypeDesc→Bool
 | .interface ms=>ms.isEmpty
 |_=>false
def notIface:TypeDesc→Bool
 | .interface _=>false
 |_=>true
theorem isT_out{P:Program}{t:TypeId}{d:TypeDesc→Bool}(h:isT P t d=true):∃x,P.underlying t=some x∧d x=true:=by
 unfold isT at h;cases hu:P.underlying t with
 |none=>simp[hu]at h
 |some x=>exact⟨x,rfl,by simpa[hu]using h⟩
def boolV(op:BinOp)(r:Bool):Option Value:=
 match op with
 | .eql=>some (.bool r)
 | .neq=>some (.bool (!r))
 |_=>none
theorem boolV_agg{op:BinOp}{r:Bool}{v:Value}(h:boolV op r=some v):isAggV v=false:=by
 unfold boolV at h;split at h<;>simp only[Option.some.injEq,reduceCtorEq]at h<;>subst h<;>rfl
def binV(P:Program)(op:BinOp)(t:TypeId):Value→Value→Option Value
 | .int k a,.int k' b=>intV op k k' a b
 | .bool a,.bool b=>if isT P t isBool then(match op with| .eql=>some (.bool (a==b))| .neq=>some (.bool (!(a==b)))|_=>none)else none
 | .string a,.string b=>match op with
   | .eql=>some (.bool (a.toList==b.toList))
   | .neq=>some (.bool (!(a.toList==b.toList)))
   |_=>none
 | .iface _ _,.nilIface=>if isT P t isAny then boolV op false else none
 | .nilIface,.nilIface=>if isT P t isAny then boolV op true else none
 |_,_=>none
theorem run_typeInfo{P:Program}{t:TypeId}{i:TypeInfo}(h:P.info? t=some i)(w:World):(typeInfo t).run P w= .ok i w:=by simp[typeInfo,h]
theorem run_sizeOf{P:Program}{t:TypeId}{k:Nat}(h:szT P t=some k)(w:World):(sizeOf t).run P w= .ok k w:=by
 unfold szT at h;cases hi:P.info? t with
 |none=>simp[hi]at h
 |some i=>simp[hi]at h;simp[sizeOf,run_typeInfo hi,h]
theorem run_isAgg{P:Program}{t:TypeId}{b:Bool}(h:isAggT P t=some b)(w:World):(isAgg t).run P w= .ok b w:=by
 unfold isAggT at h;cases hu:P.underlying t with
 |none=>simp[hu]at h
 |some d=>
  unfold isAgg;rw[Sem.run_bind,run_underlying hu w];cases d<;>simp_all
theorem run_equalIn_iface(d:Nat){P:Program}{t:TypeId}{ms:Array (String×TypeId)}(hu:P.underlying t=some (.interface ms))(t':TypeId)(v:Value)(w:World):
  (Op.equalIn (d+1) t (.iface t' v) .nilIface).run P w= .ok false w:=by
 simp[Op.equalIn,run_underlying hu]
theorem run_equalIn_nilI(d:Nat){P:Program}{t:TypeId}{ms:Array (String×TypeId)}(hu:P.underlying t=some (.interface ms))(w:World):
  (Op.equalIn (d+1) t .nilIface .nilIface).run P w= .ok true w:=by
 simp[Op.equalIn,run_underlying hu]
theorem run_guardIn_nilI(d:Nat){P:Program}{t:TypeId}{ms:Array (String×TypeId)}(hu:P.underlying t=some (.interface ms))(w:World):
  (Op.eqGuardIn (d+1) t .nilIface .nilIface).run P w= .ok (!ms.isEmpty) w:=by
 simp[Op.eqGuardIn,run_underlying hu]
theorem run_ifaceEq{P:Program}{op:BinOp}{t:TypeId}{ms:Array (String×TypeId)}(hu:P.underlying t=some (.interface ms))(t':TypeId)(v':Value)(x y:Operand)(w:World){v:Value}(h:boolV op false=some v):
  (do eqGuard op t x y (.iface t' v') .nilIface;binOp op t (.iface t' v') .nilIface:Sem Value).run P w= .ok v w:=by
 have h1:=run_equalIn_iface 9999 hu t' v' w;have h2:(eqGuard op t x y (.iface t' v') .nilIface).run P w= .ok () w:=by cases op<;>rfl
 rw[Sem.run_bind,h2,Result.andThen_ok];cases op<;>simp only[boolV,reduceCtorEq,Option.some.injEq]at h<;>subst h<;>simp only[binOp,Op.equal,Op.maxDepth,Sem.run_bind,h1,Result.andThen_ok,Sem.run_pure]
theorem run_nilEq{P:Program}{op:BinOp}{t:TypeId}{ms:Array (String×TypeId)}(hu:P.underlying t=some (.interface ms))(hms:ms.isEmpty=true)(x y:Operand)(w:World){v:Value}(h:boolV op true=some v):
  (do eqGuard op t x y .nilIface .nilIface;binOp op t .nilIface .nilIface:Sem Value).run P w= .ok v w:=by
 have h1:=run_equalIn_nilI 9999 hu w;have h0:=run_guardIn_nilI 9999 hu w
 have h2:(eqGuard op t x y .nilIface .nilIface).run P w= .ok () w:=by
  cases op<;>first
   |rfl
   |(simp only[eqGuard,Bool.not_true,Bool.false_eq_true,if_false]
     generalize hb:(_||_:Bool)=b
     cases b
     ·simp only[Bool.false_eq_true,if_false,Op.maxDepth,Sem.run_bind,h0,Result.andThen_ok,hms];rfl
     ·rfl)
 rw[Sem.run_bind,h2,Result.andThen_ok];cases op<;>simp only[boolV,reduceCtorEq,Option.some.injEq]at h<;>subst h<;>simp only[binOp,Op.equal,Op.maxDepth,Sem.run_bind,h1,Result.andThen_ok,Sem.run_pure]
theorem binV_ok{P:Program}{op:BinOp}{t:TypeId}{a b v:Value}(h:binV P op t a b=some v)(x y:Operand)(w:World):
  (do eqGuard op t x y a b;binOp op t a b:Sem Value).run P w= .ok v w:=by
 unfold binV at h;split at h
 ·rename_i k a k' b
  unfold intV at h;split at h
  ·unfold shV at h
   split at h
   ·cases h
   ·rename_i hb
    simp only[Option.some.injEq]at h;subst h;rw[eqGuard_at_int];simp[binOp,Op.shift,hb]
  ·unfold shV at h
   split at h
   ·cases h
   ·rename_i hb
    simp only[Option.some.injEq]at h;subst h;rw[eqGuard_at_int];simp[binOp,Op.shift,hb]
  ·rename_i hs1 hs2
   split at h
   ·rename_i hk
    subst hk;rw[eqGuard_at_int];unfold intBin at h;split at h<;>(try (split at h))<;>simp only[Option.some.injEq,reduceCtorEq]at h<;>(try subst h)<;>simp_all [binOp,Op.intArith,Op.intDiv,Op.intCmp,intBits_and,intBits_or,intBits_xor,intBits_andNot]
   ·cases h
 ·rename_i a b
  rw[eqGuard_at_bool];split at h
  ·rename_i hb
   have hu:P.underlying t=some .bool:=by
    unfold isT at hb;cases hu:P.underlying t with
    |none=>simp[hu]at hb
    |some d=>simp[hu]at hb;cases d<;>simp_all [isBool]
   split at h
   ·simp only[Option.some.injEq]at h;subst h;simpa using run_eql_bool w t a b hu
   ·simp only[Option.some.injEq]at h;subst h;simpa using run_neq_bool w t a b hu
   ·cases h
  ·cases h
 ·rename_i a b
  rw[eqGuard_at_string];split at h<;>simp only[Option.some.injEq,reduceCtorEq]at h<;>subst h<;>simp[binOp,Op.stringOp]
 ·rename_i t' v'
  split at h
  ·rename_i ht
   obtain⟨d,hu,hd⟩:=isT_out ht;cases d<;>simp only[isAny,reduceCtorEq,Bool.false_eq_true]at hd
   exact run_ifaceEq hu t' v' x y w h
  ·cases h
 ·split at h
  ·rename_i ht
   obtain⟨d,hu,hd⟩:=isT_out ht;cases d<;>simp only[isAny,reduceCtorEq,Bool.false_eq_true]at hd
   exact run_nilEq hu hd x y w h
  ·cases h
 ·cases h
theorem run_loadVar_agg{P:Program}{t:TypeId}{k:Nat}(ha:isAggT P t=some true)(hs:szT P t=some k)(w:World)(b p:Nat)(vs:List Value)(hl:vs.length=k)
  (h:∀(j:Nat) u,vs[j]? =some u→w.cell? ⟨b,p+j,none⟩=some u):(loadVar t ⟨b,p,none⟩).run P w= .ok (.agg vs.toArray) w:=by
 have hc:=run_loadCells_list (P:=P) w ⟨b,p,none⟩ vs (fun j u hu=>by rw[Addr.add_lit];exact h j u hu)
 rw[hl]at hc;simp[loadVar,run_isAgg ha,run_sizeOf hs,hc]
theorem run_loadVar_one{P:Program}{t:TypeId}(ha:isAggT P t=some false)(w:World)(a:Addr)(v:Value)(h:w.cell? a=some v):(loadVar t a).run P w= .ok v w:=by
 simp[loadVar,run_isAgg ha,h]
theorem run_storeVar{P:Program}{t:TypeId}{k:Nat}(hs:szT P t=some k)(w w':World)(a:Addr)(v:Value)(hl:v.cells.size=k)
  (h:(storeCells a v.cells.toList 0).run P w= .ok () w'):(storeVar t a v).run P w= .ok () w':=by
 simp[storeVar,run_sizeOf hs,hl,h]
def OpOK(P:Program)(g:Operand→Option AV)(G:Nat→Option Blk)(nid:Nat)(o:Oper)(a:AV)(G':Nat→Option Blk):Prop:=
 ∀(E:Env) (W:World) (ρ:Operand→Value),RC E W G→¬E.U nid→(∀x b,g x=some b→RV E W b (ρ x))→
  ∃W' v E',((execOp ρ o).run P W= .ok (.value v) W'∨((execOp ρ o).run P W= .ok .skip W'∧v=undef))∧Evo E W E' W'∧RC E' W' G'∧RV E' W' a v∧(∀id,E'.U id→E.U id∨(id=nid∧(G' nid).isSome=true))
theorem OpOK.still{P:Program}{g:Operand→Option AV}{G:Nat→Option Blk}{nid:Nat}{o:Oper}{a:AV}
  (h:∀(E:Env) (W:World) (ρ:Operand→Value),RC E W G→(∀x b,g x=some b→RV E W b (ρ x))→∃v,(execOp ρ o).run P W= .ok (.value v) W∧RV E W a v):OpOK P g G nid o a G:=
 fun E W ρ hG _ hρ=>let ⟨v,h1,h2⟩:=h E W ρ hG hρ;⟨W,v,E,.inl h1,Evo.refl E W,hG,h2,fun _ h=> .inl h⟩
section
variable {P : Program} {g : Operand → Option AV} {G : Nat → Option Blk} {nid : Nat} {dst : Option Tmp} {ty : TypeId} {pos : String} {after : Array Edge} {guard : Option (Nat × Bool)}
theorem ok_move{x:Operand}{a:AV}(hx:g x=some a):OpOK P g G nid ⟨dst,.move x,ty,pos,after,guard⟩ a G:=
 .still fun E W ρ hG hρ=>⟨ρ x,rfl,hρ x a hx⟩
theorem ok_assign{x:Operand}{a:AV}(hx:g x=some a):OpOK P g G nid ⟨dst,.assign x,ty,pos,after,guard⟩ a G:=
 .still fun E W ρ hG hρ=>⟨ρ x,rfl,hρ x a hx⟩
theorem ok_pick{c x y:Operand}{b:Bool}{a:AV}(hc:g c=some (.c (.bool b)))(hx:b=true→g x=some a)(hy:b=false→g y=some a):
  OpOK P g G nid ⟨dst,.pick c x y,ty,pos,after,guard⟩ a G:=
 .still fun E W ρ hG hρ=>by
   have h1:=hρ c _ hc;generalize hρc:ρ c=vc at h1;cases h1;cases b
   ·exact⟨ρ y,by simp[execOp,hρc,asBool],hρ y a (hy rfl)⟩
   ·exact⟨ρ x,by simp[execOp,hρc,asBool],hρ x a (hx rfl)⟩
theorem ok_pickB{c x y:Operand}{b p q:Bool}(hc:g c=some (.c (.bool b)))(hx:g x=some (.c (.bool p)))(hy:g y=some (.c (.bool q))):
  OpOK P g G nid ⟨dst,.pick c x y,ty,pos,after,guard⟩ (.c (.bool (cond b p q))) G:=by
 cases b
 ·exact ok_pick hc (fun h=>by cases h) (fun _=>hy)
 ·exact ok_pick hc (fun _=>hx) (fun h=>by cases h)
theorem ok_binOp{op:BinOp}{t yt:TypeId}{x y:Operand}{a b v:Value}(hx:g x=some (.c a))(hy:g y=some (.c b))(h:binV P op t a b=some v)(hv:isAggV v=false):
  OpOK P g G nid ⟨dst,.binOp op t x y yt,ty,pos,after,guard⟩ (.c v) G:=
 .still fun E W ρ hG hρ=>by
   have h1:=hρ x _ hx;have h2:=hρ y _ hy;generalize hρx:ρ x=vx at h1;generalize hρy:ρ y=vy at h2;cases h1;cases h2;refine⟨v,?_,.c v hv⟩;have:=binV_ok h x y W;simp only[execOp,hρx,hρy];rw[Sem.run_bind,this];rfl
theorem ok_not{t:TypeId}{x:Operand}{b:Bool}(hx:g x=some (.c (.bool b))):OpOK P g G nid ⟨dst,.unOp .not t x,ty,pos,after,guard⟩ (.c (.bool (!b))) G:=
 .still fun E W ρ hG hρ=>by
   have h1:=hρ x _ hx;generalize hρx:ρ x=vx at h1;cases h1;exact⟨_,by simp[execOp,hρx,Op.unary],.c _ rfl⟩
theorem ok_neg{t:TypeId}{x:Operand}{k:IntKind}{n:Int}(hx:g x=some (.c (.int k n))):OpOK P g G nid ⟨dst,.unOp .neg t x,ty,pos,after,guard⟩ (.c (.int k (k.wrap (0-n)))) G:=
 .still fun E W ρ hG hρ=>by
   have h1:=hρ x _ hx;generalize hρx:ρ x=vx at h1;cases h1;exact⟨_,by simp[execOp,hρx,Op.unary,Op.intArith],.c _ rfl⟩
theorem ok_xor{t:TypeId}{x:Operand}{k:IntKind}{n:Int}(hx:g x=some (.c (.int k n))):OpOK P g G nid ⟨dst,.unOp .xor t x,ty,pos,after,guard⟩ (.c (.int k (bits .xor k (if k.signed then-1 else k.max) n))) G:=
 .still fun E W ρ hG hρ=>by
   have h1:=hρ x _ hx;generalize hρx:ρ x=vx at h1;cases h1;exact⟨_,by simp[execOp,hρx,Op.unary,intBits_xor],.c _ rfl⟩
theorem intT_ok{t:TypeId}{k:IntKind}(h:intT P t=some k):P.underlying t=some (.int k):=by
 unfold intT at h;split at h
 ·rename_i hu;injection h with h;subst h;exact hu
 ·cases h
theorem ok_convert{src t:TypeId}{x:Operand}{k kd:IntKind}{n:Int}(hx:g x=some (.c (.int k n)))(hs:(intT P src).isSome=true)(hd:intT P t=some kd):
  OpOK P g G nid ⟨dst,.convert src t x,ty,pos,after,guard⟩ (.c (.int kd (kd.wrap n))) G:=
 .still fun E W ρ hG hρ=>by
   have h1:=hρ x _ hx;generalize hρx:ρ x=vx at h1;cases h1;refine⟨_,?_,.c _ rfl⟩;obtain⟨ks,hks⟩:=Option.isSome_iff_exists.1 hs;have hu:=intT_ok hd;simp[execOp,hρx,convert,run_underlying (intT_ok hks),run_underlying hu,Conv.intToInt]
theorem ok_extract{x:Operand}{xs:List AV}{i:Nat}{a:AV}(hx:g x=some (.tup xs))(hi:xs[i]? =some a):OpOK P g G nid ⟨dst,.extract x i,ty,pos,after,guard⟩ a G:=
 .still fun E W ρ hG hρ=>by
   have h1:=hρ x _ hx;generalize hρx:ρ x=vx at h1;cases h1 with
   |tup _ vs hl h=>
   have hlt:i<vs.size:=by rw[←hl];exact(List.getElem?_eq_some_iff.1 hi).1
   refine⟨vs[i],?_,h i a _ hi (by simp[hlt])⟩
   simp[execOp,hρx,Instr.extract,hlt]
theorem part_ok{E:Env}{W:World}{t:TypeId}{xs:List AV}{vs:Array Value}(h:RVs E W xs vs.toList){off:Nat}{a:AV}(hp:partA P t xs off=some a):
  ∃v,(part t vs off).run P W= .ok v W∧RV E W a v:=by
 unfold partA at hp;split at hp
 ·rename_i k ha hk
  split at hp
  ·rename_i hle
   injection hp with hp
   subst hp;refine⟨.agg (vs.extract off (off+k)),by simp[part,run_isAgg ha,run_sizeOf hk],.agg _ _ ?_ fun i x v hx hv=> ?_⟩
   ·have:=h.1;simp at this⊢;omega
   ·have:=((h.drop off).take k).2 i x v hx
    rw[Array.getElem?_extract]at hv;refine this ?_;rw[List.getElem?_take,List.getElem?_drop];split at hv
    ·rename_i hlt
     have:i<k:=by omega
     simp only[this,if_true,Array.getElem?_toList];exact hv
    ·cases hv
  ·cases hp
 ·rename_i k ha hk
  obtain⟨v,h1,h2⟩:=h.get hp;simp only[Array.getElem?_toList]at h1;exact⟨v,by simp[part,run_isAgg ha,h1],h2⟩
 ·cases hp
theorem fieldT_ok{t:TypeId}{f off k:Nat}{ft:TypeId}(h:fieldT P t f=some (off,k,ft)):∃fs fd,P.underlying t=some (.struct fs)∧fs[f]? =some fd∧fd.offset=off∧szT P ft=some k∧fd.type=ft:=by
 unfold fieldT at h;split at h
 ·rename_i fs hu
  split at h
  ·rename_i fd hfd
   cases hk:szT P fd.type with
   |none=>simp[hk]at h
   |some k'=>
    simp[hk]at h;obtain⟨rfl,rfl,rfl⟩:=h;exact⟨fs,fd,hu,hfd,rfl,hk,rfl⟩
  ·cases h
 ·cases h
theorem ok_field{t:TypeId}{x:Operand}{f off k:Nat}{ft:TypeId}{xs:List AV}{a:AV}(hx:g x=some (.agg xs))(hf:fieldT P t f=some (off,k,ft))(hp:partA P ft xs off=some a):
  OpOK P g G nid ⟨dst,.field t x f,ty,pos,after,guard⟩ a G:=
 .still fun E W ρ hG hρ=>by
   have h1:=hρ x _ hx;generalize hρx:ρ x=vx at h1;cases h1 with
   |agg _ vs hl h=>
   obtain⟨fs,fd,hu,hfd,ho,hk,hft⟩:=fieldT_ok hf;subst hft;subst ho;obtain⟨v,h2,h3⟩:=part_ok (P:=P) (E:=E) (W:=W) (vs:=vs) ⟨by simpa using hl,fun i x v hx hv=>h i x v hx (by simpa using hv)⟩ hp
   exact⟨v,by simp[execOp,hρx,Instr.field,run_underlying hu,hfd,asAgg,h2],h3⟩
theorem run_fieldAt{t:TypeId}{f off k:Nat}{ft:TypeId}(hf:fieldT P t f=some (off,k,ft))(hk0:k≠0)(b p:Nat)(w:World):
  (Instr.fieldAt t (.pointer (some ⟨b,p,none⟩)) f).run P w= .ok (.pointer (some ⟨b,p+off,none⟩)) w:=by
 obtain⟨fs,fd,hu,hfd,ho,hk,hft⟩:=fieldT_ok hf;subst hft;subst ho;simp[Instr.fieldAt,run_underlying hu,hfd,Instr.sureAddr,fieldPlace,run_sizeOf hk,hk0,Addr.add_lit]
theorem ok_fieldAddr{t:TypeId}{x:Operand}{f off k:Nat}{ft:TypeId}{id i o:Nat}(hx:g x=some (.ptr id i o))(hf:fieldT P t f=some (off,k,ft))(hk0:k≠0):
  OpOK P g G nid ⟨dst,.fieldAddr t x f,ty,pos,after,guard⟩ (.ptr id i (o+off)) G:=
 .still fun E W ρ hG hρ=>by
   have h1:=hρ x _ hx;generalize hρx:ρ x=vx at h1;cases h1 with
   |ptr _ _ _ hid=>
   refine⟨_,by simp only[execOp,hρx];rw[Sem.run_bind,run_fieldAt hf hk0];rfl,?_⟩
   rw[Nat.add_assoc];exact .ptr id i (o+off) hid
theorem ok_fieldAddrS{t:TypeId}{x:Operand}{f off k:Nat}{ft:TypeId}{rows:List (List AV)}{i o:Nat}(hx:g x=some (.sptr rows i o))(hf:fieldT P t f=some (off,k,ft))(hk0:k≠0):
  OpOK P g G nid ⟨dst,.fieldAddr t x f,ty,pos,after,guard⟩ (.sptr rows i (o+off)) G:=
 .still fun E W ρ hG hρ=>by
   have h1:=hρ x _ hx;generalize hρx:ρ x=vx at h1;cases h1 with
   |sptr _ _ _ b p s vs hs hL hc hr=>
   refine⟨_,by simp only[execOp,hρx];rw[Sem.run_bind,run_fieldAt hf hk0];rfl,?_⟩
   have:=RV.sptr (E:=E) (W:=W) rows i (o+off) b p s vs hs hL hc hr;rw[←Nat.add_assoc,←Nat.add_assoc]at this;rw[←Nat.add_assoc];exact this
theorem ok_load{t:TypeId}{x:Operand}{p:AV}{row:List AV}{o:Nat}{rd:List Nat}{a:AV}(hx:g x=some p)(hd:deref G p=some (row,o,rd))(hp:partA P t row o=some a):
  OpOK P g G nid ⟨dst,.load t x,ty,pos,after,guard⟩ a G:=
 .still fun E W ρ hG hρ=>by
   have h1:=hρ x _ hx;obtain⟨b,q,hv,vs,h2,h3⟩:=deref_ok hG h1 hd;unfold partA at hp;split at hp
   ·rename_i k ha hk
    split at hp
    ·rename_i hle
     injection hp with hp
     subst hp;have hl:=h2.1;refine⟨.agg ((vs.drop o).take k).toArray,?_,.agg _ _ (by simp;omega) fun i x v hx hv=>((h2.drop o).take k).2 i x v hx (by simpa using hv)⟩
     simp only[execOp,hv,Instr.loadAt,Instr.sureAddr]
     have hr:=run_loadVar_agg ha hk W b (q+o) ((vs.drop o).take k) (by simp;omega) (fun j u hu=>by
      rw[List.getElem?_take]at hu;split at hu
      ·rw[List.getElem?_drop]at hu
       have:=h3 _ u hu;rw[Nat.add_assoc];exact this
      ·cases hu)
     simp[hr]
    ·cases hp
   ·rename_i k ha hk
    obtain⟨v,h4,h5⟩:=h2.get hp;refine⟨v,?_,h5⟩;simp only[execOp,hv,Instr.loadAt,Instr.sureAddr];have hr:=run_loadVar_one (P:=P) ha W ⟨b,q+o,none⟩ v (h3 o v h4);simp[hr]
   ·cases hp
theorem ok_store{t:TypeId}{x y:Operand}{id i o k:Nat}{e:TypeId}{s:Nat}{rows:List (List AV)}{ap:Bool}{row:List AV}{a:AV}(hx:g x=some (.ptr id i o))(hg:G id=some (.cells e s rows true ap))
  (hrow:rows[i]? =some row) (hy:g y=some a) (hk:szT P t=some k) (hl:a.cells.length=k) (hle:o+k≤row.length) (h1:a.cells.all AV.one=true):
  OpOK P g G nid ⟨dst,.store t x y,ty,pos,after,guard⟩ (.c undef) (upd G [(id,some (.cells e s (rows.set i (spl row o a.cells)) true ap))]):=fun E W ρ hG hn hρ=>by
 have hx1:=hρ x _ hx;have hy1:=hρ y _ hy;generalize hρx:ρ x=vx at hx1;have hcs:=hy1.toCells;obtain⟨cur',hst,hv,hG'⟩:=hG.write hg hrow hcs (o:=o) (by omega) (hcs.ones h1) (P:=P)
 have hsz:E.sz id=s:=(hG.ok id _ hg).2.1;cases hx1 with
 |ptr _ _ _ hid=>
 rw[←hsz]at hst;refine⟨_,undef,E,.inr ⟨?_,rfl⟩,hv,hG',.c _ rfl,fun _ h=> .inl h⟩
 have hr:=run_storeVar (P:=P) hk W _ ⟨E.ι id,i*E.sz id+o,none⟩ (ρ y) (by have:=hcs.1;simp at this;omega) hst
 simp only[execOp,hρx,Instr.storeAt,Instr.sureAddr];simp[hr]
end
end Go.AL
namespace Go.AL
open Go.RowKit
theorem rowOne{E:Env}{W:World}{xs:List AV}{cur:Array Value}(h:RVs E W xs cur.toList):
  (∀(i:Nat) row,[xs][i]? =some row→row.length=xs.length)∧[xs].length*xs.length≤cur.size∧
  (∀(i j:Nat) row x,[xs][i]? =some row→row[j]? =some x→∃v,cur[i*xs.length+j]? =some v∧RV E W x v):=by
 refine⟨fun i row hr=> ?_,?_,fun i j row x hr hx=> ?_⟩
 ·cases i with
  |zero=>simp at hr;subst hr;rfl
  |succ i=>simp at hr
 ·have:=h.1;simp at this⊢;omega
 ·cases i with
  |zero=>
   simp at hr;subst hr;obtain⟨v,h1,h2⟩:=h.get hx;exact⟨v,by simpa using h1,h2⟩
  |succ i=>simp at hr
def chunk(s:Nat):Nat→List AV→List (List AV)
 |0,_=> []
 |n+1,l=>l.take s::chunk s n (l.drop s)
theorem chunk_length(s n:Nat)(l:List AV):(chunk s n l).length=n:=by
 induction n generalizing l with
 |zero=>rfl
 |succ n ih=>simp[chunk,ih]
theorem chunk_get(s:Nat):∀(n:Nat) (l:List AV) (i:Nat),i<n→(chunk s n l)[i]? =some ((l.drop (i*s)).take s)
 |0,l,i,h=>by omega
 |n+1,l,0,h=>by simp[chunk]
 |n+1,l,i+1,h=>by
  simp only[chunk,List.getElem?_cons_succ];rw[chunk_get s n _ i (by omega),List.drop_drop,Nat.succ_mul,Nat.add_comm s]
theorem rowsChunk{E:Env}{W:World}{xs:List AV}{cur:Array Value}(h:RVs E W xs cur.toList){s n:Nat}(hl:xs.length=n*s):
  (∀(i:Nat) row,(chunk s n xs)[i]? =some row→row.length=s)∧(chunk s n xs).length*s≤cur.size∧
  (∀(i j:Nat) row x,(chunk s n xs)[i]? =some row→row[j]? =some x→∃v,cur[i*s+j]? =some v∧RV E W x v):=by
 have hlt:∀(i:Nat) row,(chunk s n xs)[i]? =some row→i<n:=fun i row hr=>by
  have:=(List.getElem?_eq_some_iff.1 hr).1;rwa[chunk_length]at this
 refine⟨fun i row hr=> ?_,?_,fun i j row x hr hx=> ?_⟩
 ·have hi:=hlt i row hr
  rw[chunk_get s n xs i hi]at hr;injection hr with hr
  subst hr;have:(i+1)*s≤n*s:=Nat.mul_le_mul_right s hi;rw[Nat.succ_mul]at this;simp;omega
 ·have:=h.1;rw[chunk_length];simp at this;omega
 ·have hi:=hlt i row hr
  rw[chunk_get s n xs i hi]at hr;injection hr with hr
  subst hr;rw[List.getElem?_take]at hx;split at hx
  ·rw[List.getElem?_drop]at hx
   obtain⟨v,h1,h2⟩:=h.get hx;exact⟨v,by simpa using h1,h2⟩
  ·cases hx
def fillA(place:Nat→Option (Nat×Nat))(cells:List AV):List (Nat×AV)→Option (List AV)
 |[]=>some cells
 |(i,v)::rest=>
  match place i with
  |none=>none
  |some (off,size)=>if v.cells.length=size∧off+size≤cells.length then fillA place (spl cells off v.cells) rest else none
theorem foldl_set(off:Nat):∀(vs:List Value) (k:Nat) (cs:Array Value),off+k+vs.length≤cs.size→
  ((vs.zipIdx k).foldl (fun(cs:Array Value) (x:Value×Nat)=>cs.setIfInBounds (off+x.2) x.1) cs).toList=cs.toList.take (off+k)++vs++cs.toList.drop (off+k+vs.length)
 |[],k,cs,h=>by simp
 |v::vs,k,cs,h=>by
  simp only[List.zipIdx_cons,List.foldl_cons];rw[foldl_set off vs (k+1) _ (by simp at h⊢;omega)]
  have e:=list_seg_step cs.toList (off+k) v vs (by simp at h⊢;omega)
  simpa[Array.toList_setIfInBounds,Nat.add_assoc]using e
theorem fill_ok{E:Env}{W:World}{place:Nat→Option (Nat×Nat)}:∀(ps:List (Nat×AV)) (qs:List (Nat×Value)) (xs ys:List AV) (cs:Array Value),
  ps.length=qs.length→(∀(i:Nat) p q,ps[i]? =some p→qs[i]? =some q→p.1=q.1∧RV E W p.2 q.2)→RVs E W xs cs.toList→fillA place xs ps=some ys→
  ∃ds,Instr.fill place cs qs=some ds∧RVs E W ys ds.toList∧ys.length=xs.length
 |[],[],xs,ys,cs,_,_,hx,hf=>by simp only[fillA,Option.some.injEq]at hf;subst hf;exact⟨cs,rfl,hx,rfl⟩
 |[],_::_,_,_,_,hl,_,_,_=>by simp at hl
 |_::_,[],_,_,_,hl,_,_,_=>by simp at hl
 |(i,a)::ps,(k,v)::qs,xs,ys,cs,hl,h,hx,hf=>by
  obtain⟨hik,hav⟩:=h 0 _ _ rfl rfl;simp only at hik hav;subst hik;unfold fillA at hf;unfold Instr.fill;cases hp:place i with
  |none=>simp[hp]at hf
  |some q=>
   obtain⟨off,size⟩:=q;simp only[hp]at hf⊢;split at hf
   ·rename_i hc
    have hcs:=hav.toCells;have hvl:v.cells.size=size:=by have:=hcs.1;simp at this;omega
    have hxl:=hx.1;simp at hxl;have hno:¬(v.cells.size≠size∨off+v.cells.size>cs.size):=by omega
    have hno':(v.cells.size !=size||decide (off+v.cells.size>cs.size))=false:=by simp;omega
    simp only[bne_iff_ne,ne_eq,Bool.or_eq_true,decide_eq_true_eq]at hno'⊢;rw[if_neg (by simp;omega)]
    have hfold:=foldl_set off v.cells.toList 0 cs (by simp;omega)
    have heq:(v.cells.zipIdx.foldl (fun(cs:Array Value) (x:Value×Nat)=>cs.setIfInBounds (off+x.2) x.1) cs).toList=cs.toList.take off++v.cells.toList++cs.toList.drop (off+v.cells.size):=by
     rw[←Array.foldl_toList,Array.toList_zipIdx];simpa using hfold
    have hnew:RVs E W (spl xs off a.cells) (v.cells.zipIdx.foldl (fun(cs:Array Value) (x:Value×Nat)=>cs.setIfInBounds (off+x.2) x.1) cs).toList:=by
     rw[heq];have h1:=hcs.1;simp at h1;unfold spl;rw[h1];exact((hx.take off).append hcs).append (hx.drop _)
    obtain⟨ds,h1,h2,h3⟩:=fill_ok ps qs _ ys _ (by simpa using hl) (fun i p q hp hq=>h (i+1) p q (by simpa using hp) (by simpa using hq)) hnew hf
    exact⟨ds,h1,h2,by rw[h3,length_spl (by omega)]⟩
   ·cases hf
def partsA(g:Operand→Option AV):List (Nat×Operand)→Option (List (Nat×AV))
 |[]=>some []
 |(i,x)::r=>match g x,partsA g r with
  |some a,some l=>some ((i,a)::l)
  |_,_=>none
theorem partsA_ok{E:Env}{W:World}{g:Operand→Option AV}{ρ:Operand→Value}(hρ:∀x b,g x=some b→RV E W b (ρ x)):∀(ps:List (Nat×Operand)) (as:List (Nat×AV)),partsA g ps=some as→
  as.length=(ps.map fun(i,x)=>(i,ρ x)).length∧∀(i:Nat) p q,as[i]? =some p→(ps.map fun(i,x)=>(i,ρ x))[i]? =some q→p.1=q.1∧RV E W p.2 q.2
 |[],as,h=>by simp only[partsA,Option.some.injEq]at h;subst h;exact⟨rfl,fun i p q h=>by simp at h⟩
 |(i,x)::r,as,h=>by
  simp only[partsA]at h;split at h
  ·rename_i a l ha hl
   injection h with h
   subst h;obtain⟨h1,h2⟩:=partsA_ok hρ r l hl;refine⟨by simpa using h1,fun k p q hp hq=> ?_⟩
   cases k with
   |zero=>simp at hp hq;subst hp;subst hq;exact⟨rfl,hρ x a ha⟩
   |succ k=>exact h2 k p q (by simpa using hp) (by simpa using hq)
  ·cases h
def placesT(P:Program)(t:TypeId):Nat→Option (Nat×Nat):=
 match P.underlying t with
 |some (.struct fs)=>fun i=>(fs[i]?).bind fun f=>(szT P f.type).map fun k=>(f.offset,k)
 |some (.array _ e)=>match szT P e with
  |some k=>fun i=>some (i*k,k)
  |none=>fun _=>none
 |_=>fun _=>none
def buildableT(P:Program)(t:TypeId):Bool:=
 match P.underlying t with
 |some (.struct fs)=>fs.toList.all fun f=>(szT P f.type).isSome
 |some (.array _ e)=>(szT P e).isSome
 |_=>false
theorem zeroT_ok{P:Program}{t:TypeId}{zs:List AV}(h:zeroT P t=some zs):∃i z,P.info? t=some i∧i.zero=some z∧(∀E W,RVs E W zs z.cells.toList):=by
 unfold zeroT at h;cases hi:P.info? t with
 |none=>simp[hi]at h
 |some i=>
  cases hz:i.zero with
  |none=>simp[hi,hz]at h
  |some z=>
   simp only[hi,Option.bind_some,hz]at h;split at h
   ·rename_i hall
    injection h with h
    subst h;exact⟨i,z,rfl,hz,fun E W=>RVs.ofCells hall⟩
   ·cases h
theorem run_mapM_places{P:Program}(w:World):∀(fs:List Field),(fs.all fun f=>(szT P f.type).isSome)=true→
  (fs.mapM (fun f=>do pure (f.offset,←sizeOf f.type):Field→Sem (Nat×Nat))).run P w= .ok (fs.map fun f=>(f.offset,(szT P f.type).getD 0)) w
 |[],_=>rfl
 |f::fs,h=>by
  simp only[List.all_cons,Bool.and_eq_true]at h;obtain⟨k,hk⟩:=Option.isSome_iff_exists.1 h.1;have ih:=run_mapM_places w fs h.2;simp only[List.mapM_cons,Sem.run_bind,run_sizeOf hk,Result.andThen_ok,Sem.run_pure,ih,List.map_cons,hk,Option.getD_some]
theorem run_build_ok{P:Program}{t:TypeId}{i:TypeInfo}{z:Value}(hi:P.info? t=some i)(hz:i.zero=some z)(hb:buildableT P t=true)(qs:Array (Nat×Value))(ds:Array Value)
  (hf:Instr.fill (placesT P t) z.cells qs.toList=some ds) (w:World):(Instr.build t qs).run P w= .ok (.agg ds) w:=by
 unfold buildableT at hb;have hzv:(zeroValue t).run P w= .ok z w:=by simp[zeroValue,run_typeInfo hi,hz]
 split at hb
 ·rename_i fs hu
  have hm:=run_mapM_places (P:=P) w fs.toList hb
  have hm':(fs.mapM (fun f=>do pure (f.offset,←sizeOf f.type):Field→Sem (Nat×Nat))).run P w= .ok (fs.toList.map fun f=>(f.offset,(szT P f.type).getD 0)).toArray w:=by
   rw[Array.mapM_eq_mapM_toList,Sem.run_map,hm];rfl
  have hp:placesT P t=fun i=>(fs.toList.map fun f=>(f.offset,(szT P f.type).getD 0)).toArray[i]? :=by
   funext k
   simp only[placesT,hu,List.getElem?_toArray,List.getElem?_map,Array.getElem?_toList];cases hk:fs[k]? with
   |none=>rfl
   |some f=>
    have:=List.all_eq_true.1 hb f (by rw[Array.mem_toList_iff];exact Array.mem_of_getElem? hk)
    obtain⟨s,hs⟩:=Option.isSome_iff_exists.1 this;simp[hs]
  rw[hp]at hf;unfold Instr.build;simp only[Sem.run_bind,hzv,Result.andThen_ok,run_underlying hu,hm',hf,Sem.run_pure]
 ·rename_i n e hu
  obtain⟨s,hs⟩:=Option.isSome_iff_exists.1 hb
  have hp:placesT P t=fun i=>some (i*s,s):=by
   funext k
   simp only[placesT,hu,hs]
  rw[hp]at hf;unfold Instr.build;simp only[Sem.run_bind,hzv,Result.andThen_ok,run_underlying hu,run_sizeOf hs,hf,Sem.run_pure]
 ·cases hb
section
variable {P : Program} {g : Operand → Option AV} {G : Nat → Option Blk} {nid : Nat} {dst : Option Tmp} {ty : TypeId} {pos : String} {after : Array Edge} {guard : Option (Nat × Bool)}
theorem ok_alloc{t:TypeId}{zs:List AV}(hz:zeroT P t=some zs):
  OpOK P g G nid ⟨dst,.alloc t,ty,pos,after,guard⟩ (.ptr nid 0 0) (upd G [(nid,some (.cells t zs.length [zs] true false))]):=fun E W ρ hG hn hρ=>by
 obtain⟨i,z,hi,hz',hr⟩:=zeroT_ok hz;obtain⟨h1,h2,h3⟩:=rowOne (hr E W);refine⟨_,.pointer (some ⟨W.heap.size,0,none⟩),_,.inl ?_,Evo.alloc hG hn (.cells z.cells t) zs.length,hG.alloc hn t z.cells zs.length [zs] true false h1 h2 h3,?_,fun id h=>h.imp (fun h=>h) (fun e=>⟨e,by simp[upd]⟩)⟩
 ·simp[execOp,Instr.alloc,zeroValue,run_typeInfo hi,hz',newVar,newRow]
 ·have:=RV.ptr (E:=E.more nid W.heap.size zs.length) (W:=W.alloc (.cells z.cells t)) nid 0 0 (.inr rfl)
  simpa[Env.more]using this
theorem ok_box{t:TypeId}{x:Operand}{a:AV}(hx:g x=some a):
  OpOK P g G nid ⟨dst,.box t x,ty,pos,after,guard⟩ (.ptr nid 0 0) (upd G [(nid,some (.cells t a.cells.length [a.cells] true false))]):=fun E W ρ hG hn hρ=>by
 obtain⟨h1,h2,h3⟩:=rowOne (hρ x a hx).toCells;refine⟨_,.pointer (some ⟨W.heap.size,0,none⟩),_,.inl ?_,Evo.alloc hG hn (.cells (ρ x).cells t) a.cells.length,hG.alloc hn t (ρ x).cells a.cells.length [a.cells] true false h1 h2 h3,?_,fun id h=>h.imp (fun h=>h) (fun e=>⟨e,by simp[upd]⟩)⟩
 ·simp[execOp,Instr.box,newVar,newRow]
 ·have:=RV.ptr (E:=E.more nid W.heap.size a.cells.length) (W:=W.alloc (.cells (ρ x).cells t)) nid 0 0 (.inr rfl)
  simpa[Env.more]using this
theorem ok_build{t:TypeId}{parts:Array (Nat×Operand)}{zs:List AV}{ps:List (Nat×AV)}{ys:List AV}(hz:zeroT P t=some zs)(hb:buildableT P t=true)(hp:partsA g parts.toList=some ps)
  (hf:fillA (placesT P t) zs ps=some ys):OpOK P g G nid ⟨dst,.build t parts,ty,pos,after,guard⟩ (.agg ys) G:=
 .still fun E W ρ hG hρ=>by
   obtain⟨i,z,hi,hz',hr⟩:=zeroT_ok hz;obtain⟨h1,h2⟩:=partsA_ok hρ parts.toList ps hp;obtain⟨ds,h3,h4,_⟩:=fill_ok ps _ zs ys z.cells h1 h2 (hr E W) hf;refine⟨.agg ds,?_,.agg _ _ (by simpa using h4.1) fun i x v hx hv=>h4.2 i x v hx (by simpa using hv)⟩
   simp only[execOp];rw[Sem.run_bind,run_build_ok hi hz' hb _ ds (by simpa using h3) W]
   rfl
theorem sliceT_ok{t e:TypeId}{k:Nat}(h:sliceT P t=some (e,k)):P.underlying t=some (.slice e)∧szT P e=some k:=by
 unfold sliceT at h;split at h
 ·rename_i e' hu
  cases hk:szT P e' with
  |none=>simp[hk]at h
  |some k'=>simp[hk]at h;obtain⟨rfl,rfl⟩:=h;exact⟨hu,hk⟩
 ·cases h
theorem arrT_ok{t e:TypeId}{n k:Nat}(h:arrT P t=some (n,e,k)):P.underlying t=some (.array n e)∧szT P e=some k:=by
 unfold arrT at h;split at h
 ·rename_i n' e' hu
  cases hk:szT P e' with
  |none=>simp[hk]at h
  |some k'=>simp[hk]at h;obtain⟨rfl,rfl,rfl⟩:=h;exact⟨hu,hk⟩
 ·cases h
theorem rep_get{zs:List AV}{vs:Array Value}{E:Env}{W:World}(h:RVs E W zs vs.toList)(len:Nat):
  RVs E W (List.replicate len zs).flatten ((Array.range (len*vs.size)).map (fun i=>vs[i % vs.size]!)).toList:=by
 have hl:=h.1;simp at hl
 have key:∀len,((Array.range (len*vs.size)).map (fun i=>vs[i % vs.size]!)).toList=(List.replicate len vs.toList).flatten:=by
  intro len;apply List.ext_getElem?;intro i
  have hfl:∀len,(List.replicate len vs.toList).flatten.length=len*vs.size:=by
   intro len;simp
  by_cases hi:i<len*vs.size
  ·have hs:0<vs.size:=by rcases Nat.eq_zero_or_pos vs.size with h0|h0<;>simp_all
   have:∀(len i:Nat),i<len*vs.size→(List.replicate len vs.toList).flatten[i]? =vs[i % vs.size]? :=by
    intro len
    induction len with
    |zero=>intro i hi;simp at hi
    |succ len ih=>
     intro i hi;rw[Nat.succ_mul]at hi;simp only[List.replicate_succ,List.flatten_cons];by_cases hlt:i<vs.size
     ·rw[List.getElem?_append_left (by simpa using hlt),Nat.mod_eq_of_lt hlt];simp
     ·rw[List.getElem?_append_right (by simpa using Nat.le_of_not_lt hlt),ih _ (by simp;omega),←Nat.mod_eq_sub_mod (Nat.le_of_not_lt hlt)|>.symm]
      simp[Nat.mod_eq_sub_mod (Nat.le_of_not_lt hlt)]
   rw[this len i hi];have hm:=Nat.mod_lt i hs;simp[hi,hm]
  ·rw[List.getElem?_eq_none (by simp;omega),List.getElem?_eq_none (by rw[hfl];omega)]
 rw[key]
 induction len with
 |zero=>exact .nil
 |succ len ih=>simp only[List.replicate_succ,List.flatten_cons];exact h.append ih
theorem ok_buildSlice{t e:TypeId}{k len:Nat}{parts:Array (Nat×Operand)}{zs:List AV}{ps:List (Nat×AV)}{ys:List AV}(ht:sliceT P t=some (e,k))(hz:zeroT P e=some zs)(hzk:zs.length=k)
  (hsmall:len*k≤16777216) (hp:partsA g parts.toList=some ps) (hf:fillA (fun i=>some (i*k,k)) (List.replicate len zs).flatten ps=some ys):
  OpOK P g G nid ⟨dst,.buildSlice t len parts,ty,pos,after,guard⟩ (.own nid 0 len) (upd G [(nid,some (.cells e k (chunk k len ys) true true))]):=fun E W ρ hG hn hρ=>by
 obtain⟨hu,hk⟩:=sliceT_ok ht;obtain⟨i,z,hi,hz',hr⟩:=zeroT_ok hz;obtain⟨h1,h2⟩:=partsA_ok hρ parts.toList ps hp;have hzs:z.cells.size=k:=by have:=(hr E W).1;simp at this;omega
 have hinit:=rep_get (hr E W) len;rw[hzs]at hinit;obtain⟨ds,h3,h4,h5⟩:=fill_ok ps _ _ ys _ h1 h2 hinit hf;have hyl:ys.length=len*k:=by rw[h5];simp[hzk]
 obtain⟨h6,h7,h8⟩:=rowsChunk h4 hyl;have hds:ds.size=len*k:=by have:=h4.1;simp at this;omega
 refine⟨_,.slice (some ⟨W.heap.size,0,none⟩) len len,_,.inl ?_,Evo.alloc hG hn (.cells ds e) k,hG.alloc hn e ds k _ true true h6 h7 h8,?_,fun id h=>h.imp (fun h=>h) (fun e=>⟨e,by simp[upd]⟩)⟩
 ·have hgt:¬(len*k>2 ^ 24):=by omega
  simp only[execOp,Instr.buildSlice,Sem.run_bind,run_underlying hu,run_sizeOf hk,Result.andThen_ok,hgt,if_false,Sem.run_ite]
  have hfz:∀c:Array Value,(Array.range (len*k)).map (fun i=>c[i % c.size]!)=(Array.range (len*k)).map (fun i=>z.cells[i % k]!)→Instr.fill (fun i=>some (i*k,k)) ((Array.range (len*k)).map (fun i=>c[i % c.size]!)) (parts.map fun(i,x)=>(i,ρ x)).toList=some ds:=by
   intro c hc;rw[hc];simpa using h3
  by_cases h0:len*k=0
  ·simp only[h0,if_true,Sem.run_pure,Result.andThen_ok]
   have:=hfz #[] (by rw[h0];simp)
   rw[h0]at this;simp only[Array.toList_map]at this;simp only[Array.toList_map,this,newRow,Sem.run_bind,run_newObj_alloc,Result.andThen_ok,Sem.run_pure,Sem.run_map]
  ·simp only[h0,if_false,zeroValue,Sem.run_bind,run_typeInfo hi,Result.andThen_ok,hz',Sem.run_pure]
   have:=hfz z.cells (by rw[hzs])
   simp only[Array.toList_map]at this;simp only[Array.toList_map,this,newRow,Sem.run_bind,run_newObj_alloc,Result.andThen_ok,Sem.run_pure,Sem.run_map]
 ·have:=RV.own (E:=E.more nid W.heap.size k) (W:=W.alloc (.cells ds e)) nid 0 len len (.inr rfl) (Nat.le_refl _) ⟨ds,e,(0,0),by simp only[Env.more,if_true];exact heap_alloc_new W _,by simp[Env.more];omega⟩
  simpa[Env.more]using this
end
end Go.AL
namespace Go.AL
open Go.RowKit
section
variable {P : Program} {g : Operand → Option AV} {G : Nat → Option Blk} {nid : Nat} {dst : Option Tmp} {ty : TypeId} {pos : String} {after : Array Edge} {guard : Option (Nat × Bool)}
theorem run_indexAt_sl{t e:TypeId}{k:Nat}(ht:sliceT P t=some (e,k))(b p len cap:Nat)(ik:IntKind)(i:Int)(h0:0≤i)(h1:i<len)(w:World):
  (Instr.indexAt t (.slice (some ⟨b,p,none⟩) len cap) (.int ik i)).run P w= .ok (.pointer (some ⟨b,p+i.toNat*k,none⟩)) w:=by
 obtain⟨hu,hk⟩:=sliceT_ok ht;simp[Instr.indexAt,run_underlying hu,asIntOf,h0,h1,run_sizeOf hk,Addr.add_lit]
theorem run_indexAt_ar{t e:TypeId}{n k:Nat}(ht:arrT P t=some (n,e,k))(b p:Nat)(ik:IntKind)(i:Int)(h0:0≤i)(h1:i<n)(w:World):
  (Instr.indexAt t (.pointer (some ⟨b,p,none⟩)) (.int ik i)).run P w= .ok (.pointer (some ⟨b,p+i.toNat*k,none⟩)) w:=by
 obtain⟨hu,hk⟩:=arrT_ok ht;simp[Instr.indexAt,run_underlying hu,asIntOf,h0,h1,run_sizeOf hk,Addr.add_lit,Instr.sureAddr]
theorem ok_indexOwn{t e:TypeId}{k:Nat}{x y:Operand}{id off len:Nat}{ik:IntKind}{i:Int}{e':TypeId}{rows:List (List AV)}{w ap:Bool}(ht:sliceT P t=some (e,k))(hx:g x=some (.own id off len))(hy:g y=some (.c (.int ik i)))
  (hg:G id=some (.cells e' k rows w ap)) (h0:0≤i) (h1:i<len):
  OpOK P g G nid ⟨dst,.indexAddr t x y,ty,pos,after,guard⟩ (.ptr id (off+i.toNat) 0) G:=
 .still fun E W ρ hG hρ=>by
   have h2:=hρ x _ hx;have h3:=hρ y _ hy;generalize hρx:ρ x=vx at h2;generalize hρy:ρ y=vy at h3;cases h3;have hsz:E.sz id=k:=(hG.ok id _ hg).2.1;cases h2 with
   |own _ _ _ cap hid hlc hs=>
    refine⟨_,by simp only[execOp,hρx,hρy];rw[Sem.run_bind,run_indexAt_sl ht _ _ _ _ _ _ h0 h1];rfl,?_⟩
    have:=RV.ptr (E:=E) (W:=W) id (off+i.toNat) 0 hid;rw[hsz,Nat.add_mul,Nat.add_zero]at this;rw[hsz];exact this
   |own0 _ _ a hid=>omega
theorem ok_indexSnap{t e:TypeId}{k:Nat}{x y:Operand}{rows:List (List AV)}{ik:IntKind}{i:Int}{row:List AV}(ht:sliceT P t=some (e,k))(hx:g x=some (.snap rows))(hy:g y=some (.c (.int ik i)))
  (h0:0≤i) (hr:rows[i.toNat]? =some row) (hk:row.length=k):
  OpOK P g G nid ⟨dst,.indexAddr t x y,ty,pos,after,guard⟩ (.sptr rows i.toNat 0) G:=
 .still fun E W ρ hG hρ=>by
   have h2:=hρ x _ hx;have h3:=hρ y _ hy;generalize hρx:ρ x=vx at h2;generalize hρy:ρ y=vy at h3;cases h3;have hlt:i.toNat<rows.length:=(List.getElem?_eq_some_iff.1 hr).1;cases h2 with
   |snap _ b off s n cap vs hn hcap hs hL hc hrr=>
    have hsk:s=k:=by rw[←hk];exact(hs _ _ hr).symm
    subst hsk;refine⟨_,by simp only[execOp,hρx,hρy];rw[Sem.run_bind,run_indexAt_sl ht _ _ _ _ _ _ h0 (by omega)];rfl,?_⟩
    have:=RV.sptr (E:=E) (W:=W) rows i.toNat 0 b off s vs hs hL hc hrr;rw[Nat.add_zero]at this;exact this
   |snap0 a cap=>simp at hlt
theorem ok_indexArr{t e:TypeId}{n k:Nat}{x y:Operand}{id r o:Nat}{ik:IntKind}{i:Int}(ht:arrT P t=some (n,e,k))(hx:g x=some (.ptr id r o))(hy:g y=some (.c (.int ik i)))(h0:0≤i)(h1:i<n):
  OpOK P g G nid ⟨dst,.indexAddr t x y,ty,pos,after,guard⟩ (.ptr id r (o+i.toNat*k)) G:=
 .still fun E W ρ hG hρ=>by
   have h2:=hρ x _ hx;have h3:=hρ y _ hy;generalize hρx:ρ x=vx at h2;generalize hρy:ρ y=vy at h3;cases h3;cases h2 with
   |ptr _ _ _ hid=>
   refine⟨_,by simp only[execOp,hρx,hρy];rw[Sem.run_bind,run_indexAt_ar ht _ _ _ _ h0 h1];rfl,?_⟩
   rw[Nat.add_assoc];exact .ptr id r _ hid
theorem ok_indexArrS{t e:TypeId}{n k:Nat}{x y:Operand}{rows:List (List AV)}{r o:Nat}{ik:IntKind}{i:Int}(ht:arrT P t=some (n,e,k))(hx:g x=some (.sptr rows r o))(hy:g y=some (.c (.int ik i)))(h0:0≤i)(h1:i<n):
  OpOK P g G nid ⟨dst,.indexAddr t x y,ty,pos,after,guard⟩ (.sptr rows r (o+i.toNat*k)) G:=
 .still fun E W ρ hG hρ=>by
   have h2:=hρ x _ hx;have h3:=hρ y _ hy;generalize hρx:ρ x=vx at h2;generalize hρy:ρ y=vy at h3;cases h3;cases h2 with
   |sptr _ _ _ b p s vs hs hL hc hr=>
   refine⟨_,by simp only[execOp,hρx,hρy];rw[Sem.run_bind,run_indexAt_ar ht _ _ _ _ h0 h1];rfl,?_⟩
   have:=RV.sptr (E:=E) (W:=W) rows r (o+i.toNat*k) b p s vs hs hL hc hr;rw[←Nat.add_assoc,←Nat.add_assoc]at this;rw[←Nat.add_assoc];exact this
theorem ok_index{t e:TypeId}{n k:Nat}{x y:Operand}{xs:List AV}{ik:IntKind}{i:Int}{a:AV}(ht:arrT P t=some (n,e,k))(hx:g x=some (.agg xs))(hy:g y=some (.c (.int ik i)))(h0:0≤i)(h1:i<n)
  (hp:partA P e xs (i.toNat*k)=some a):OpOK P g G nid ⟨dst,.index t x y,ty,pos,after,guard⟩ a G:=
 .still fun E W ρ hG hρ=>by
   have h2:=hρ x _ hx;have h3:=hρ y _ hy;generalize hρx:ρ x=vx at h2;generalize hρy:ρ y=vy at h3;cases h3;cases h2 with
   |agg _ vs hl h=>
   obtain⟨hu,hk⟩:=arrT_ok ht;obtain⟨v,h4,h5⟩:=part_ok (P:=P) (E:=E) (W:=W) (vs:=vs) ⟨by simpa using hl,fun i x v hx hv=>h i x v hx (by simpa using hv)⟩ hp
   exact⟨v,by simp[execOp,hρx,hρy,Instr.index,run_underlying hu,asIntOf,h0,h1,run_sizeOf hk,h4],h5⟩
theorem ok_indexStr{t:TypeId}{x y:Operand}{s:ByteArray}{ik:IntKind}{i:Int}{b:UInt8}(ht:isT P t isString=true)(hx:g x=some (.c (.string s)))(hy:g y=some (.c (.int ik i)))(h0:0≤i)(hb:s[i.toNat]? =some b):
  OpOK P g G nid ⟨dst,.index t x y,ty,pos,after,guard⟩ (.c (.int .u8 b.toNat)) G:=
 .still fun E W ρ hG hρ=>by
   have h2:=hρ x _ hx;have h3:=hρ y _ hy;generalize hρx:ρ x=vx at h2;generalize hρy:ρ y=vy at h3;cases h3;cases h2
   have hu:P.underlying t=some .string:=by
    unfold isT at ht;cases hu:P.underlying t with
    |none=>simp[hu]at ht
    |some d=>simp[hu]at ht;cases d<;>simp_all [isString]
   exact⟨_,by simp[execOp,hρx,hρy,Instr.index,run_underlying hu,asIntOf,h0,hb],.c _ rfl⟩
theorem run_len_sl{t e:TypeId}{k:Nat}(ht:sliceT P t=some (e,k))(ty:TypeId)(base:Option Addr)(n c:Nat)(w:World):(Builtin.len_ #[t] ty #[.slice base n c]).run P w= .ok (.int .i64 n) w:=by
 simp[Builtin.len_,run_underlying (sliceT_ok ht).1,goInt]
theorem run_callB{ρ:Operand→Value}(b:Builtin)(as:Array Operand)(ts:Array TypeId):execOp ρ ⟨dst,.call ⟨.builtin b,as,ts⟩,ty,pos,after,guard⟩=builtin b ts ty (as.map fun| .const _=>true|_=>false) (as.map ρ):=rfl
def lenA:AV→Option Nat
 | .c (.slice _ 0 _)=>some 0
 | .snap rows=>some rows.length
 | .own _ _ len=>some len
 | .sub _ _ _ len=>some len
 |_=>none
theorem lenA_ok{E:Env}{W:World}{a:AV}{v:Value}(r:RV E W a v){n:Nat}(h:lenA a=some n):∃base cap,v= .slice base n cap∧n≤cap:=by
 unfold lenA at h;split at h<;>simp only[Option.some.injEq,reduceCtorEq]at h
 ·subst h;cases r;exact⟨_,_,rfl,Nat.zero_le _⟩
 ·subst h
  cases r with
  |snap _ b off s n cap vs hn hcap=>subst hn;exact⟨_,cap,rfl,hcap⟩
  |snap0 a cap=>exact⟨a,cap,rfl,Nat.zero_le _⟩
 ·subst h
  cases r with
  |own _ _ _ cap hid hlc hs=>exact⟨_,cap,rfl,hlc⟩
  |own0 _ _ a hid=>exact⟨_,0,rfl,Nat.le_refl _⟩
 ·subst h
  cases r with
  |sub _ _ _ _ cap hid hlc hs=>exact⟨_,cap,rfl,hlc⟩
theorem ok_len{t e:TypeId}{k n:Nat}{x:Operand}{a:AV}(ht:sliceT P t=some (e,k))(hx:g x=some a)(hn:lenA a=some n):
  OpOK P g G nid ⟨dst,.call ⟨.builtin .len,#[x],#[t]⟩,ty,pos,after,guard⟩ (.c (.int .i64 n)) G:=
 .still fun E W ρ hG hρ=>by
   obtain⟨base,cap,hv,_⟩:=lenA_ok (hρ x a hx) hn;refine⟨_,?_,.c _ rfl⟩;rw[run_callB];simp only[builtin,List.map_toArray,List.map_cons,List.map_nil,hv];rw[Sem.run_bind,run_len_sl ht];rfl
theorem ok_lenStr{t:TypeId}{x:Operand}{s:ByteArray}(ht:isT P t isString=true)(hx:g x=some (.c (.string s))):
  OpOK P g G nid ⟨dst,.call ⟨.builtin .len,#[x],#[t]⟩,ty,pos,after,guard⟩ (.c (.int .i64 s.size)) G:=
 .still fun E W ρ hG hρ=>by
   have h2:=hρ x _ hx;generalize hρx:ρ x=vx at h2;cases h2
   have hu:P.underlying t=some .string:=by
    unfold isT at ht;cases hu:P.underlying t with
    |none=>simp[hu]at ht
    |some d=>simp[hu]at ht;cases d<;>simp_all [isString]
   refine⟨_,?_,.c _ rfl⟩;rw[run_callB];simp only[builtin,List.map_toArray,List.map_cons,List.map_nil,hρx];simp[Builtin.len_,run_underlying hu,goInt]
theorem ok_max{ts:Array TypeId}{x y:Operand}{k k':IntKind}{a b:Int}(hx:g x=some (.c (.int k a)))(hy:g y=some (.c (.int k' b))):
  OpOK P g G nid ⟨dst,.call ⟨.builtin .max,#[x,y],ts⟩,ty,pos,after,guard⟩ (.c (.int k (if b>a then b else a))) G:=
 .still fun E W ρ hG hρ=>by
   have h2:=hρ x _ hx;have h3:=hρ y _ hy;generalize hρx:ρ x=vx at h2;generalize hρy:ρ y=vy at h3;cases h2;cases h3;refine⟨_,?_,.c _ rfl⟩;rw[run_callB];simp only[builtin,List.map_toArray,List.map_cons,List.map_nil,hρx,hρy];rw[Sem.run_bind,run_max_int2];rfl
theorem ok_min{ts:Array TypeId}{x y:Operand}{k k':IntKind}{a b:Int}(hx:g x=some (.c (.int k a)))(hy:g y=some (.c (.int k' b))):
  OpOK P g G nid ⟨dst,.call ⟨.builtin .min,#[x,y],ts⟩,ty,pos,after,guard⟩ (.c (.int k (if b<a then b else a))) G:=
 .still fun E W ρ hG hρ=>by
   have h2:=hρ x _ hx;have h3:=hρ y _ hy;generalize hρx:ρ x=vx at h2;generalize hρy:ρ y=vy at h3;cases h2;cases h3;refine⟨_,?_,.c _ rfl⟩;rw[run_callB];simp only[builtin,List.map_toArray,List.map_cons,List.map_nil,hρx,hρy];rw[Sem.run_bind,run_min_int2];rfl
def boundA(g:Operand→Option AV)(d:Int):Option Operand→Option Int
 |none=>some d
 |some x=>match g x with
  |some (.c (.int _ n))=>some n
  |_=>none
theorem boundA_ok{E:Env}{W:World}{ρ:Operand→Value}(hρ:∀x b,g x=some b→RV E W b (ρ x)){d n:Int}{lo:Option Operand}(h:boundA g d lo=some n):
  (lo=none∧n=d)∨∃k,lo.map ρ=some (.int k n):=by
 unfold boundA at h;split at h
 ·injection h with h;exact .inl ⟨rfl,h.symm⟩
 ·rename_i x
  split at h
  ·rename_i k n' hx
   injection h with h
   subst h;have:=hρ x _ hx;generalize hρx:ρ x=vx at this;cases this;exact .inr ⟨k,by simp[hρx]⟩
  ·cases h
theorem run_sliceAt_ok{ρ:Operand→Value}{E:Env}{W:World}(hρ:∀x b,g x=some b→RV E W b (ρ x)){t e:TypeId}{k:Nat}(ht:sliceT P t=some (e,k))(base:Option Addr)(len cap:Nat){lo hi:Option Operand}{l h:Int}
  (hl:boundA g 0 lo=some l) (hh:boundA g len hi=some h) (h0:0≤l) (h1:l≤h) (h2:h≤cap):
  (Instr.sliceAt t (.slice base len cap) (lo.map ρ) (hi.map ρ) none).run P W= .ok (.slice (if(cap:Int)=l then base else base.map (·.add (l.toNat*k))) (h-l).toNat (cap-l.toNat)) W:=by
 obtain⟨hu,hk⟩:=sliceT_ok ht;have hb:(cap=l.toNat)↔((cap:Int)=l):=by omega
 have e1:h.toNat-l.toNat=(h-l).toNat:=by omega
 rcases boundA_ok hρ hl with⟨rfl,rfl⟩|⟨kl,hkl⟩<;>rcases boundA_ok hρ hh with⟨rfl,rfl⟩|⟨kh,hkh⟩
 ·simp[Instr.sliceAt,run_underlying hu,Instr.slice,Instr.sliceBounds,run_sizeOf hk]
  try (by_cases hc:cap=0<;>simp[hc])
 ·simp[Instr.sliceAt,run_underlying hu,Instr.slice,Instr.sliceBounds,run_sizeOf hk,hkh,Instr.sliceBound,asIntOf,h1,h2]
  try (by_cases hc:cap=0<;>simp[hc])
 ·simp[Instr.sliceAt,run_underlying hu,Instr.slice,Instr.sliceBounds,run_sizeOf hk,hkl,Instr.sliceBound,asIntOf,h0,h1]
  by_cases hc:(cap:Int)=l
  ·rw[if_pos (hb.2 hc),if_pos hc];simp;omega
  ·rw[if_neg (fun h=>hc (hb.1 h)),if_neg hc];simp;omega
 ·have h3:0≤h:=by omega
  have h4:l≤max h 0:=by omega
  simp[Instr.sliceAt,run_underlying hu,Instr.slice,Instr.sliceBounds,run_sizeOf hk,hkl,hkh,Instr.sliceBound,asIntOf,h0,h1,h2,h3,h4];by_cases hc:(cap:Int)=l
  ·rw[if_pos (hb.2 hc),if_pos hc];simp;omega
  ·rw[if_neg (fun h=>hc (hb.1 h)),if_neg hc];simp;omega
theorem ok_sliceSnap{t e:TypeId}{k:Nat}{x:Operand}{rows:List (List AV)}{lo hi:Option Operand}{l h:Int}(ht:sliceT P t=some (e,k))(hx:g x=some (.snap rows))(hl:boundA g 0 lo=some l)(hh:boundA g rows.length hi=some h)
  (h0:0≤l) (h1:l≤h) (h2:h≤rows.length) (hw:rows.all (fun r=>r.length==k)=true):
  OpOK P g G nid ⟨dst,.slice t x lo hi none,ty,pos,after,guard⟩ (.snap ((rows.drop l.toNat).take (h-l).toNat)) G:=
 .still fun E W ρ hG hρ=>by
   have h3:=hρ x _ hx;generalize hρx:ρ x=vx at h3;cases h3 with
   |snap0 a cap=>
    simp at h2;refine⟨_,by simp only[execOp,hρx,Option.map_none];rw[Sem.run_bind,run_sliceAt_ok hρ ht a 0 cap hl (show boundA g ((0:Nat):Int) hi=some h from hh) h0 h1 (by omega)];rfl,?_⟩
    have:(h-l).toNat=0:=by omega
    rw[this];simp;exact .snap0 _ _
   |snap _ b off s n cap vs hn hcap hs hL hc hr=>
    subst hn;refine⟨_,by simp only[execOp,hρx,Option.map_none];rw[Sem.run_bind,run_sliceAt_ok hρ ht _ rows.length cap hl hh h0 h1 (by omega)];rfl,?_⟩
    by_cases hz:h=l
    ·have:(h-l).toNat=0:=by omega
     rw[this];simp;exact .snap0 _ _
    ·have hne:¬((cap:Int)=l):=by omega
     rw[if_neg hne];have hlt:l.toNat<rows.length:=by omega
     have hsk:s=k:=by
      have h4:=hs l.toNat _ (List.getElem?_eq_getElem hlt);have h5:=List.all_eq_true.1 hw _ (List.getElem_mem hlt);simp at h5;omega
     subst hsk
     have hmul:l.toNat*s+(h-l).toNat*s≤rows.length*s:=by
      rw[←Nat.add_mul];exact Nat.mul_le_mul_right s (by omega)
     have hlen:((rows.drop l.toNat).take (h-l).toNat).length=(h-l).toNat:=by simp;omega
     have hget:∀(i:Nat) row,((rows.drop l.toNat).take (h-l).toNat)[i]? =some row→rows[l.toNat+i]? =some row:=fun i row hr=>by
      rw[List.getElem?_take]at hr;split at hr
      ·rwa[List.getElem?_drop]at hr
      ·cases hr
     have:=RV.snap (E:=E) (W:=W) ((rows.drop l.toNat).take (h-l).toNat) b (off+l.toNat*s) s (h-l).toNat (cap-l.toNat) (fun i j=>vs (l.toNat+i) j) hlen.symm (by omega) (fun i row hr=>hs _ row (hget i row hr)) (by rw[hlen];omega)
      (fun i j row x h4 h5=>by rw[←hc _ j row x (hget i row h4) h5];congr 2;rw[Nat.add_mul];omega) (fun i j row x h4 h5=>hr _ j row x (hget i row h4) h5)
     simpa[Addr.add_lit]using this
theorem ok_sliceOwn{t e:TypeId}{k:Nat}{x:Operand}{id off len:Nat}{e':TypeId}{rows:List (List AV)}{w ap:Bool}{lo hi:Option Operand}{l h:Int}(ht:sliceT P t=some (e,k))(hx:g x=some (.own id off len))(hg:G id=some (.cells e' k rows w ap))
  (hl:boundA g 0 lo=some l) (hh:boundA g len hi=some h) (h0:0≤l) (h1:l≤h) (h2:h≤len):
  OpOK P g G nid ⟨dst,.slice t x lo hi none,ty,pos,after,guard⟩ (.own id (off+l.toNat) (h-l).toNat) G:=
 .still fun E W ρ hG hρ=>by
   have h3:=hρ x _ hx;generalize hρx:ρ x=vx at h3;have hsz:E.sz id=k:=(hG.ok id _ hg).2.1;cases h3 with
   |own _ _ _ cap hid hlc hs=>
    refine⟨_,by simp only[execOp,hρx,Option.map_none];rw[Sem.run_bind,run_sliceAt_ok hρ ht _ len cap hl hh h0 h1 (by omega)];rfl,?_⟩
    by_cases hc:(cap:Int)=l
    ·rw[if_pos hc]
     have e1:(h-l).toNat=0:=by omega
     have e2:cap-l.toNat=0:=by omega
     rw[e1,e2];exact .own0 _ _ _ hid
    ·rw[if_neg hc]
     obtain⟨cur,e2,f,h4,h5⟩:=hs;have:=RV.own (E:=E) (W:=W) id (off+l.toNat) (h-l).toNat (cap-l.toNat) hid (by omega) ⟨cur,e2,f,h4,by rw[show off+l.toNat+(cap-l.toNat)=off+cap by omega];exact h5⟩
     rw[hsz]at this⊢;simpa[Addr.add_lit,Nat.add_mul]using this
   |own0 _ _ a hid=>
    refine⟨_,by simp only[execOp,hρx,Option.map_none];rw[Sem.run_bind,run_sliceAt_ok hρ ht _ 0 0 hl (show boundA g ((0:Nat):Int) hi=some h from hh) h0 h1 (by omega)];rfl,?_⟩
    have e1:(h-l).toNat=0:=by omega
    have e3:((0:Nat):Int)=l:=by omega
    rw[if_pos e3,e1,Nat.zero_sub];exact .own0 _ _ _ hid
end
end Go.AL
namespace Go.AL
open Go.RowKit
def Blk.le:Blk→Blk→Prop
 | .cells e s rows w a,.cells e' s' rows' w' a'=>e=e'∧s=s'∧rows=rows'∧(w=true→w'=true)∧(a=true→a'=true)
 | .map es,.map es'=>es=es'
 | .iter m n s,.iter m' n' s'=>m=m'∧n=n'∧s=s'
 | .rcd a b c d e f g,.rcd a' b' c' d' e' f' g'=>(∀t x,lk a t=some x→lk a' t=some x)∧b=b'∧c=c'∧d=d'∧e=e'∧f=f'∧g=g'
 |_,_=>False
theorem Blk.le_refl(b:Blk):b.le b:=by
 cases b with
 |map es=>exact rfl
 |iter=>exact⟨rfl,rfl,rfl⟩
 |rcd=>exact⟨fun _ _ h=>h,rfl,rfl,rfl,rfl,rfl,rfl⟩
 |cells e s rows w a=>exact⟨rfl,rfl,rfl,fun h=>h,fun h=>h⟩
theorem RC.weaker{E:Env}{W:World}{G G':Nat→Option Blk}(hG:RC E W G)(h:∀id b',G' id=some b'→∃b,G id=some b∧b'.le b):RC E W G' where
 lim:=hG.lim
 inW:=hG.inW
 ok:=fun id b' hb=>by
  obtain⟨b,h1,h2⟩:=h id b' hb;obtain⟨hU,hok⟩:=hG.ok id b h1;refine⟨hU,?_⟩;cases b' with
  |map es=>
   cases b with
   |cells=>exact h2.elim
   |rcd=>exact h2.elim
   |iter=>exact h2.elim
   |map es0=>
   obtain rfl:es=es0:=h2;obtain⟨h3,h4,h5⟩:=hok;refine⟨h3,h4,fun id' b'' hne hg=> ?_⟩
   obtain⟨b0,h10,_⟩:=h id' b'' hg;exact h5 id' b0 hne h10
  |iter=>
   cases b with
   |cells=>exact h2.elim
   |rcd=>exact h2.elim
   |map=>exact h2.elim
   |iter=>
   obtain⟨rfl,rfl,rfl⟩:=h2;obtain⟨h3,h4,h5⟩:=hok;refine⟨h3,h4,fun id' b'' hne hg=> ?_⟩
   obtain⟨b0,h10,_⟩:=h id' b'' hg;exact h5 id' b0 hne h10
  |rcd=>
   cases b with
   |cells=>exact h2.elim
   |map=>exact h2.elim
   |iter=>exact h2.elim
   |rcd=>
   obtain⟨hle,rfl,rfl,rfl,rfl,rfl,rfl⟩:=h2;obtain⟨⟨fn,tmps,D,h31,h32,h33⟩,h4,h5⟩:=hok;refine⟨⟨fn,tmps,D,h31,h32,fun t c a ha=>h33 t c a (hle _ _ ha)⟩,h4,fun id' b'' hne hg=> ?_⟩
   obtain⟨b0,h10,_⟩:=h id' b'' hg;exact h5 id' b0 hne h10
  |cells e s rows w a=>
  cases b with
  |map es=>exact h2.elim
  |rcd=>exact h2.elim
  |iter=>exact h2.elim
  |cells e' s' rows' w' a'=>
  obtain⟨rfl,rfl,rfl,hw,ha⟩:=h2;obtain⟨h3,h4,h5,h6,h7⟩:=hok;refine⟨h3,h4,h5,fun hww=> ?_,fun haa=> ?_⟩
  ·obtain⟨h8,h9⟩:=h6 (hw hww)
   refine⟨h8,fun id' b'' hne hg=> ?_⟩
   obtain⟨b0,h10,_⟩:=h id' b'' hg;exact h9 id' b0 hne h10
  ·obtain⟨h8,h9⟩:=h7 (ha haa)
   refine⟨h8,fun id' b'' hne hg he=> ?_⟩
   obtain⟨b0,h10,h11⟩:=h id' b'' hg;obtain⟨h12,h13⟩:=h9 id' b0 hne h10 he;cases b'' with
   |map es=>exact⟨Nat.zero_le _,rfl⟩
   |rcd=>exact⟨Nat.zero_le _,rfl⟩
   |iter=>exact⟨Nat.zero_le _,rfl⟩
   |cells e1 s1 r1 w1 a1=>
   cases b0 with
   |map es=>exact h11.elim
   |rcd=>exact h11.elim
   |iter=>exact h11.elim
   |cells e2 s2 r2 w2 a2=>
   obtain⟨rfl,rfl,rfl,_,ha'⟩:=h11;refine⟨h12,?_⟩;simp only[Blk.app]at h13⊢;cases a1
   ·rfl
   ·simp_all
theorem Evo.share{E:Env}{W:World}{id nid:Nat}(hU:E.U id)(hn:¬E.U nid)(s:Nat):Evo E W (E.more nid (E.ι id) s) W where
 os:=rfl
 tape:=rfl
 output:=rfl
 size:=Nat.le_refl _
 used:=fun id h=> .inl h
 ren:=fun id h=>by
  have:id≠nid:=fun e=>hn (e▸h)
  simp[Env.more,this]
 lim:=fun b=>Nat.le_refl _
 prot:=fun b k hk=>rfl
 foreign:=fun b hb _=>rfl
 sizes:=fun b cur e f h=>⟨cur,f,h,rfl⟩
 still:=fun _ _ _=>rfl
 fresh:=fun id' h1 h2=>by
  rcases h2 with h2|h2
  ·exact absurd h2 h1
  ·subst h2;right;exact⟨id,hU,by simp[Env.more]⟩
 loops:=fun b r h=>⟨r,h,rfl⟩
def past(e:TypeId)(k:Nat)(rows:List (List AV))(w:Bool):Option Blk:=if w then none else some (.cells e k rows false false)
theorem RC.share{E:Env}{W:World}{G:Nat→Option Blk}(hG:RC E W G){id nid:Nat}(hn:¬E.U nid){e:TypeId}{k:Nat}{rows rowsN:List (List AV)}{w:Bool}(hg:G id=some (.cells e k rows w true))
  {cur cur':Array Value} (hcur:W.heap[E.ι id]? =some (Obj.cells cur e (0,0))) (hsz:cur'.size=cur.size) (hp:∀q,q<rows.length*k→cur'[q]? =cur[q]?)
  (hs:∀(i:Nat) row,rowsN[i]? =some row→row.length=k) (hle:rows.length≤rowsN.length) (hle2:rowsN.length*k≤cur.size)
  (hc:∀(i j:Nat) row x,rowsN[i]? =some row→row[j]? =some x→∃v,cur'[i*k+j]? =some v∧RV E W x v):
  Evo E W (E.more nid (E.ι id) k) (W.setRow (E.ι id) cur')∧RC (E.more nid (E.ι id) k) (W.setRow (E.ι id) cur') (upd G [(id,past e k rows w),(nid,some (.cells e k rowsN w true))]):=by
 obtain⟨hU,hszk,hlen,⟨cur0,hcur0,hsize,hcells⟩,hw,ha⟩:=hG.ok id _ hg;rw[hcur]at hcur0;injection hcur0 with hcur0
 injection hcur0 with hcur0
 subst hcur0;obtain⟨hL,hoth⟩:=ha rfl;have hidn:id≠nid:=fun h=>hn (h▸hU)
 have hv1:=Evo.setRow hG hU hcur hsz (fun q hq=>hp q (by omega))
 have hv:=hv1.trans (Evo.share (W:=W.setRow (E.ι id) cur') hU hn k);have hmul:rows.length*k≤rowsN.length*k:=Nat.mul_le_mul_right k hle;have hιold:∀id',E.U id'→(E.more nid (E.ι id) k).ι id'=E.ι id':=fun id' h=>(hv.ren id' h).1
 refine⟨hv,fun b hb=>hG.lim b (by simpa using hb),fun id' h=> ?_,fun id' b' hb=> ?_⟩
 ·rcases h with h|h
  ·rw[hιold id' h];simpa using hG.inW id' h
  ·subst h;simp only[Env.more,if_true];simpa using hG.inW id hU
 ·have hG':∀id'' b'',upd G [(id,past e k rows w),(nid,some (.cells e k rowsN w true))] id''=some b''→
    (id''=nid∧b''= .cells e k rowsN w true)∨(id''≠nid∧id''=id∧w=false∧b''= .cells e k rows false false)∨(id''≠nid∧id''≠id∧G id''=some b''):=by
   intro id'' b'' h;simp only[upd]at h;split at h
   ·rename_i h1;injection h with h;exact .inl ⟨h1,h.symm⟩
   ·rename_i h1
    split at h
    ·rename_i h2
     unfold past at h;split at h
     ·cases h
     ·rename_i h3;injection h with h;exact .inr (.inl ⟨h1,h2,by simpa using h3,h.symm⟩)
    ·rename_i h2;exact .inr (.inr ⟨h1,h2,h⟩)
  rcases hG' id' b' hb with⟨rfl,rfl⟩|⟨h1,rfl,hwf,rfl⟩|⟨h1,h2,h3⟩
  ·refine⟨.inr rfl,by simp[Env.more],hs,⟨cur',by simp only[Env.more,if_true];exact setRow_heap W _ cur cur' e (0,0) hcur,by omega,fun i j row x hr hx=> ?_⟩,fun hww=>⟨?_,fun id'' b'' hne hb''=> ?_⟩,fun _=>⟨?_,fun id'' b'' hne hb'' he=> ?_⟩⟩
   ·obtain⟨v,h1,h2⟩:=hc i j row x hr hx
    exact⟨v,h1,h2.mono hv⟩
   ·simp only[Env.more,if_true];exact(hw hww).1
   ·rcases hG' id'' b'' hb'' with⟨h4,_⟩|⟨_,_,h4,_⟩|⟨h4,h5,h6⟩
    ·exact absurd h4 hne
    ·rw[h4]at hww;cases hww
    ·rw[hιold id'' (hG.ok id'' b'' h6).1]
     simp only[Env.more,if_true];exact(hw hww).2 id'' b'' h5 h6
   ·simp only[Env.more,if_true];omega
   ·rcases hG' id'' b'' hb'' with⟨h4,_⟩|⟨_,h4,_,h5⟩|⟨h4,h5,h6⟩
    ·exact absurd h4 hne
    ·subst h5;exact⟨hmul,rfl⟩
    ·rw[hιold id'' (hG.ok id'' b'' h6).1]at he
     simp only[Env.more,if_true]at he;obtain⟨h7,h8⟩:=hoth id'' b'' h5 h6 he;exact⟨by omega,h8⟩
  ·refine⟨.inl hU,by rw[(hv.ren _ hU).2];exact hszk,hlen,⟨cur',by rw[hιold _ hU];exact setRow_heap W _ cur cur' e (0,0) hcur,by omega,fun i j row x hr hx=> ?_⟩,fun h=>(by cases h),fun h=>(by cases h)⟩
   obtain⟨v,h4,h5⟩:=hcells i j row x hr hx;refine⟨v,?_,h5.mono hv⟩;rw[hp,h4];have hl:=hlen i row hr;exact idx_lt (List.getElem?_eq_some_iff.1 hr).1 (by rw[←hl];exact(List.getElem?_eq_some_iff.1 hx).1)
  ·obtain⟨h4,h5⟩:=hG.ok id' b' h3
   refine⟨.inl h4,?_⟩;by_cases hι:E.ι id'=E.ι id
   ·obtain⟨h6,h7⟩:=hoth id' b' h2 h3 hι
    cases b' with
    |map es=>exact absurd hι.symm (h5.2.2 id _ (Ne.symm h2) hg)
    |rcd=>exact absurd hι.symm (h5.2.2 id _ (Ne.symm h2) hg)
    |iter=>exact absurd hι.symm (h5.2.2 id _ (Ne.symm h2) hg)
    |cells e2 s2 r2 w2 a2=>
    obtain⟨h8,h9,⟨cur2,h10,h11,h12⟩,h13,h14⟩:=h5;rw[hι,hcur]at h10;injection h10 with h10
    injection h10 with h10 h15
    subst h10;subst h15;simp only[Blk.app]at h7;subst h7;simp only[Blk.upto]at h6;refine⟨by rw[(hv.ren _ h4).2];exact h8,h9,⟨cur',by rw[hιold _ h4,hι];exact setRow_heap W _ cur cur' e (0,0) hcur,by omega,fun i j row x hr hx=> ?_⟩,fun hww=>absurd hι.symm ((h13 hww).2 id _ (Ne.symm h2) hg),fun h=>(by cases h)⟩
    obtain⟨v,h16,h17⟩:=h12 i j row x hr hx;refine⟨v,?_,h17.mono hv⟩;rw[hp,h16];have hl:=h9 i row hr;have:=idx_lt (List.getElem?_eq_some_iff.1 hr).1 (show j<s2 by rw[←hl];exact(List.getElem?_eq_some_iff.1 hx).1)
    omega
   ·refine h5.mono hv h4 (setRow_other W _ _ cur' hι) rfl fun id'' b'' hne hg' he=> ?_
    rcases hG' id'' b'' hg' with⟨rfl,_⟩|⟨_,rfl,_,_⟩|⟨h6,h7,h8⟩
    ·simp only[Env.more,if_true]at he;exact absurd he.symm hι
    ·rw[hιold _ hU]at he;exact absurd he.symm hι
    ·rw[hιold _ (hG.ok id'' b'' h8).1]at he
     exact⟨b'',h8,he,rfl,fun h=>h⟩
theorem rows_flat{E:Env}{W:World}{G:Nat→Option Blk}(hG:RC E W G){a:AV}{v:Value}(r:RV E W a v){rows:List (List AV)}{rd:List Nat}(h:rowsOf G a=some (rows,rd))(hne:rows≠[]){k:Nat}
  (hk:rows.all (fun r=>r.length==k&&r.all AV.one)=true):
  ∃b p cap,v= .slice (some ⟨b,p,none⟩) rows.length cap∧∃news:List Value,news.length=rows.length*k∧(∀(j:Nat) u,news[j]? =some u→W.cell? ⟨b,p+j,none⟩=some u)∧(∀u∈news,u.oneCell'=true)∧
   (∀(i j:Nat) row x,rows[i]? =some row→row[j]? =some x→∃u,news[i*k+j]? =some u∧RV E W x u):=by
 obtain⟨base,n,cap,hv,hn,hcap,hr⟩:=rowsOf_ok hG r h;obtain⟨b,p,s,hb,hs,hc⟩:=hr hne;subst hn;subst hb
 have hsk:s=k:=by
  cases rows with
  |nil=>exact absurd rfl hne
  |cons r0 rs=>
   have h1:=hs 0 r0 rfl;simp at hk;omega
 subst hsk
 have hcell:∀q,q<rows.length*s→∃u,W.cell? ⟨b,p+q,none⟩=some u∧u.oneCell'=true∧∀(i j:Nat) row x,i*s+j=q→j<s→rows[i]? =some row→row[j]? =some x→RV E W x u:=by
  intro q hq
  have hs0:0<s:=by
   rcases Nat.eq_zero_or_pos s with h0|h0
   ·subst h0;simp at hq
   ·exact h0
  have hi:q/s<rows.length:=Nat.div_lt_of_lt_mul (by rw[Nat.mul_comm];exact hq)
  have hj:q % s<s:=Nat.mod_lt _ hs0;have hrow:=List.getElem?_eq_getElem hi;have hlen:=hs _ _ hrow;have hj2:q % s<(rows[q/s]).length:=by omega
  have hx:=List.getElem?_eq_getElem hj2;have hqq:q/s*s+q % s=q:=by rw[Nat.mul_comm];exact Nat.div_add_mod q s
  obtain⟨u,h1,h2⟩:=hc _ _ _ _ hrow hx;rw[hqq]at h1;refine⟨u,h1,?_,fun i j row x he hjs hr' hx'=> ?_⟩
  ·have h3:=List.all_eq_true.1 hk _ (List.getElem_mem hi)
   simp only[Bool.and_eq_true]at h3;exact h2.oneOf (List.all_eq_true.1 h3.2 _ (List.getElem_mem hj2))
  ·have h4:i=q/s:=by
    rw[←he,Nat.mul_comm,Nat.mul_add_div hs0,Nat.div_eq_of_lt hjs];omega
   subst h4;have h5:j=q % s:=by omega
   subst h5;rw[hr']at hrow;injection hrow with hrow;subst hrow
   rw[hx']at hx;injection hx with hx;subst hx
   exact h2
 let f:Nat→Value:=fun q=>(W.cell? ⟨b,p+q,none⟩).getD undef
 have hf:∀q,q<rows.length*s→W.cell? ⟨b,p+q,none⟩=some (f q):=fun q hq=>by
  obtain⟨u,h1,_⟩:=hcell q hq;simp only[f,h1,Option.getD_some]
 refine⟨b,p,cap,hv,(List.range (rows.length*s)).map f,by simp,fun j u hu=> ?_,fun u hu=> ?_,fun i j row x hr' hx'=> ?_⟩
 ·have hj:j<rows.length*s:=by have:=(List.getElem?_eq_some_iff.1 hu).1;simpa using this
  simp[hj]at hu;subst hu;exact hf j hj
 ·simp only[List.mem_map,List.mem_range]at hu
  obtain⟨q,hq,rfl⟩:=hu;obtain⟨u,h1,h2,_⟩:=hcell q hq;simp only[f,h1,Option.getD_some];exact h2
 ·have hjs:j<s:=by rw[←hs i row hr'];exact(List.getElem?_eq_some_iff.1 hx').1
  have hq:=idx_lt (List.getElem?_eq_some_iff.1 hr').1 hjs;obtain⟨u,h1,_,h3⟩:=hcell _ hq;refine⟨u,?_,h3 i j row x rfl hjs hr' hx'⟩;simp[hq,f,h1]
section
variable {P : Program} {g : Operand → Option AV} {G : Nat → Option Blk} {nid : Nat} {dst : Option Tmp} {ty : TypeId} {pos : String} {after : Array Edge} {guard : Option (Nat × Bool)}
theorem run_append_zero{t e:TypeId}{k:Nat}(ht:sliceT P t=some (e,k))(ty:TypeId)(base b2:Option Addr)(n c c2:Nat)(hnc:n≤c)(w:World):
  (Builtin.append_ #[t,t] ty #[.slice base n c,.slice b2 0 c2]).run P w= .ok (.slice base n c) w:=by
 obtain⟨hu,hk⟩:=sliceT_ok ht
 have hf:(Builtin.firstCells k 0 (.slice b2 0 c2)).run P w= .ok #[] w:=by
  cases b2<;>simp[Builtin.firstCells,loadCells,loadCellsFrom]
 cases base<;>simp[Builtin.append_,run_underlying hu,run_sizeOf hk,Builtin.lenOf,hnc,hf,storeCells]
theorem szT_info{e:TypeId}{i:TypeInfo}{k:Nat}(hi:P.info? e=some i)(hk:szT P e=some k):i.size=k:=by simp[szT,hi]at hk;exact hk
theorem grown_cells{olds news:List Value}{rest:Array Value}{n m k:Nat}(ho:olds.length=n*k)(hn:news.length=m*k):
  (∀q,q<n*k→(olds.toArray++news.toArray++rest)[q]? =olds[q]?)∧(∀q,q<m*k→(olds.toArray++news.toArray++rest)[n*k+q]? =news[q]?):=by
 refine⟨fun q hq=> ?_,fun q hq=> ?_⟩
 ·rw[Array.getElem?_append_left (by simp;omega),Array.getElem?_append_left (by simp;omega)];simp
 ·rw[Array.getElem?_append_left (by simp;omega),Array.getElem?_append_right (by simp;omega)];simp[ho]
theorem rows_app{E:Env}{W:World}{rows rows2:List (List AV)}{k:Nat}{olds news:List Value}{cur:Array Value}(hl:∀(i:Nat) row,rows[i]? =some row→row.length=k)(hl2:∀(i:Nat) row,rows2[i]? =some row→row.length=k)
  (ho:∀(i j:Nat) row x,rows[i]? =some row→row[j]? =some x→∃v,olds[i*k+j]? =some v∧RV E W x v) (hn:∀(i j:Nat) row x,rows2[i]? =some row→row[j]? =some x→∃v,news[i*k+j]? =some v∧RV E W x v)
  (h1:∀q,q<rows.length*k→cur[q]? =olds[q]?) (h2:∀q,q<rows2.length*k→cur[rows.length*k+q]? =news[q]?):
  (∀(i:Nat) row,(rows++rows2)[i]? =some row→row.length=k)∧∀(i j:Nat) row x,(rows++rows2)[i]? =some row→row[j]? =some x→∃v,cur[i*k+j]? =some v∧RV E W x v:=by
 refine⟨fun i row hr=> ?_,fun i j row x hr hx=> ?_⟩
 ·by_cases hi:i<rows.length
  ·rw[List.getElem?_append_left hi]at hr;exact hl i row hr
  ·rw[List.getElem?_append_right (by omega)]at hr;exact hl2 _ row hr
 ·by_cases hi:i<rows.length
  ·rw[List.getElem?_append_left hi]at hr
   obtain⟨v,h3,h4⟩:=ho i j row x hr hx;refine⟨v,?_,h4⟩;rw[h1,h3];exact idx_lt hi (by rw[←hl i row hr];exact(List.getElem?_eq_some_iff.1 hx).1)
  ·rw[List.getElem?_append_right (by omega)]at hr
   obtain⟨v,h3,h4⟩:=hn _ j row x hr hx;refine⟨v,?_,h4⟩;have hlt:i-rows.length<rows2.length:=(List.getElem?_eq_some_iff.1 hr).1;have:=h2 ((i-rows.length)*k+j) (idx_lt hlt (by rw[←hl2 _ row hr];exact(List.getElem?_eq_some_iff.1 hx).1))
   rw[h3]at this;rw[←this];congr 1;have:i*k=rows.length*k+(i-rows.length)*k:=by rw[←Nat.add_mul];congr 1;omega
   omega
theorem all_len{rows:List (List AV)}{k:Nat}(hk:rows.all (fun r=>r.length==k&&r.all AV.one)=true):∀(i:Nat) row,rows[i]? =some row→row.length=k:=fun i row hr=>by
 have:=List.all_eq_true.1 hk row (List.mem_of_getElem? hr);simp only[Bool.and_eq_true,beq_iff_eq]at this;exact this.1
theorem own_inv{E:Env}{W:World}{id off len:Nat}{v:Value}(r:RV E W (.own id off len) v):E.U id∧
  ((∃cap,v= .slice (some ⟨E.ι id,off*E.sz id,none⟩) len cap∧len≤cap∧∃(cur:Array Value) (e:TypeId) (f:Nat×Nat),W.heap[E.ι id]? =some (Obj.cells cur e f)∧(off+cap)*E.sz id≤cur.size)∨(len=0∧∃a,v= .slice a 0 0)):=by
 cases r with
 |own _ _ _ cap hid hlc hs=>exact⟨hid,.inl ⟨cap,rfl,hlc,hs⟩⟩
 |own0 _ _ a hid=>exact⟨hid,.inr ⟨rfl,a,rfl⟩⟩
set_option maxHeartbeats 1000000 in
theorem ok_appendOwn{t e:TypeId}{k by_:Nat}{zs:List AV}{x y:Operand}{id n:Nat}{rows rows2:List (List AV)}{w:Bool}{b:AV}{rd:List Nat}(ht:sliceT P t=some (e,k))(hz:zeroT P e=some zs)(hzk:zs.length=k)(hby:bytesT P e=some by_)
  (hx:g x=some (.own id 0 n)) (hg:G id=some (.cells e k rows w true)) (hn:n=rows.length) (hy:g y=some b) (hb:rowsOf G b=some (rows2,rd)) (h1:rows2.all (fun r=>r.length==k&&r.all AV.one)=true)
  (h63:n+rows2.length≤9223372036854775807) (hfit:(n+rows2.length)*by_≤140737488355328):
  OpOK P g G nid ⟨dst,.call ⟨.builtin .append,#[x,y],#[t,t]⟩,ty,pos,after,guard⟩ (.own nid 0 (n+rows2.length)) (upd G [(id,past e k rows w),(nid,some (.cells e k (rows++rows2) w true))]):=fun E W ρ hG hnid hρ=>by
 have hx1:=hρ x _ hx;have hy1:=hρ y _ hy;generalize hρx:ρ x=vx at hx1;generalize hρy:ρ y=vy at hy1;obtain⟨hu,hk⟩:=sliceT_ok ht;obtain⟨i,z,hi,hz',hzr⟩:=zeroT_ok hz;have hik:=szT_info hi hk;have hibk:i.bytes=by_:=by simp[bytesT,hi]at hby;exact hby
 have hG0:=hG;obtain⟨hU,hszk,hlen,⟨cur,hcur,hsize,hcells⟩,hw,ha⟩:=hG.ok id _ hg;subst hn
 have hrun:∀(r:Result Value),(Builtin.append_ #[t,t] ty #[vx,vy]).run P W=r→(execOp ρ ⟨dst,.call ⟨.builtin .append,#[x,y],#[t,t]⟩,ty,pos,after,guard⟩).run P W=r.andThen fun v w'=> .ok (.value v) w':=by
  intro r hr;rw[run_callB];simp only[builtin,List.map_toArray,List.map_cons,List.map_nil,hρx,hρy];rw[Sem.run_bind,hr];rfl
 have h8:z.cells.size=k:=by have:=(hzr E W).1;simp at this;omega
 have hl2:=all_len h1
 have hoC:∀(i j:Nat) row x,rows[i]? =some row→row[j]? =some x→∃v,(cur.toList.take (rows.length*k))[i*k+j]? =some v∧RV E W x v:=fun i j row x hr hx=>by
  obtain⟨v,h3,h4⟩:=hcells i j row x hr hx;refine⟨v,?_,h4⟩;have:=idx_lt (List.getElem?_eq_some_iff.1 hr).1 (show j<k by rw[←hlen i row hr];exact(List.getElem?_eq_some_iff.1 hx).1)
  rw[List.getElem?_take,if_pos this];simpa using h3
 --a new array
 have grow:∀(v2:Value),(∃cap0 rest,v2= .slice (some ⟨W.heap.size,0,none⟩) (rows.length+rows2.length) cap0∧rows.length+rows2.length≤cap0∧∃news:List Value,news.length=rows2.length*k∧
   (∀(i j:Nat) row x,rows2[i]? =some row→row[j]? =some x→∃u,news[i*k+j]? =some u∧RV E W x u)∧rest.size=(cap0-(rows.length+rows2.length))*k∧
   (Builtin.append_ #[t,t] ty #[vx,vy]).run P W= .ok v2 (W.drew.alloc (.cells ((cur.toList.take (rows.length*k)).toArray++news.toArray++rest) e)))→
   ∃W' v E',((execOp ρ ⟨dst,.call ⟨.builtin .append,#[x,y],#[t,t]⟩,ty,pos,after,guard⟩).run P W= .ok (.value v) W'∨((execOp ρ ⟨dst,.call ⟨.builtin .append,#[x,y],#[t,t]⟩,ty,pos,after,guard⟩).run P W= .ok .skip W'∧v=undef))∧Evo E W E' W'∧
    RC E' W' (upd G [(id,past e k rows w),(nid,some (.cells e k (rows++rows2) w true))])∧RV E' W' (.own nid 0 (rows.length+rows2.length)) v∧(∀q,E'.U q→E.U q∨(q=nid∧(upd G [(id,past e k rows w),(nid,some (.cells e k (rows++rows2) w true))] nid).isSome=true)):=by
  rintro v2 ⟨cap0,rest,rfl,hcap0,news,hnl,hnc,hrest,hr⟩;have hol:(cur.toList.take (rows.length*k)).length=rows.length*k:=by simp;omega
  obtain⟨g1,g2⟩:=grown_cells (rest:=rest) hol hnl;obtain⟨g3,g4⟩:=rows_app hlen hl2 hoC hnc g1 g2
  have hGd:RC E W.drew (upd G [(id,past e k rows w)]):=hG.drew.weaker fun id' b' hb'=>by
   simp only[upd]at hb';split at hb'
   ·rename_i h2;subst h2
    unfold past at hb';split at hb'
    ·cases hb'
    ·injection hb' with hb';subst hb';exact⟨_,hg,rfl,rfl,rfl,(fun h=>by cases h),(fun h=>by cases h)⟩
   ·refine⟨b',hb',?_⟩
    exact Blk.le_refl b'
  have hsz2:((cur.toList.take (rows.length*k)).toArray++news.toArray++rest).size=cap0*k:=by
   simp only[Array.size_append,List.size_toArray,hol,hnl,hrest,←Nat.add_mul];congr 1;omega
  have hle3:(rows++rows2).length*k≤cap0*k:=Nat.mul_le_mul_right k (by simpa using hcap0)
  have hal:=hGd.alloc hnid e ((cur.toList.take (rows.length*k)).toArray++news.toArray++rest) k (rows++rows2) w true g3 (by omega) (fun i j row x h5 h6=>by
   obtain⟨v,h7,h8⟩:=g4 i j row x h5 h6
   exact⟨v,h7,h8.mono (Evo.drew E W)⟩)
  have hv:=(Evo.drew E W).trans (Evo.alloc hGd hnid (.cells ((cur.toList.take (rows.length*k)).toArray++news.toArray++rest) e) k);refine⟨_,_,_,.inl (by rw[hrun _ hr];rfl),hv,hal,?_,fun id h=>h.imp (fun h=>h) (fun e=>⟨e,by simp[upd]⟩)⟩
  have:=RV.own (E:=E.more nid W.drew.heap.size k) (W:=W.drew.alloc (.cells ((cur.toList.take (rows.length*k)).toArray++news.toArray++rest) e)) nid 0 (rows.length+rows2.length) cap0 (.inr rfl) hcap0
   ⟨_,e,(0,0),by simp only[Env.more,if_true];exact heap_alloc_new W.drew _,by simp only[Env.more,if_true];rw[hsz2];simp⟩
  simpa[Env.more]using this
 --the same array
 have keep:∀(cap:Nat) (base:Option Addr) (cur':Array Value),RV (E.more nid (E.ι id) k) (W.setRow (E.ι id) cur') (.own nid 0 (rows.length+rows2.length)) (.slice base (rows.length+rows2.length) cap)→
   cur'.size=cur.size→(∀q,q<rows.length*k→cur'[q]? =cur[q]?)→(rows++rows2).length*k≤cur.size→(∀(i j:Nat) row x,(rows++rows2)[i]? =some row→row[j]? =some x→∃v,cur'[i*k+j]? =some v∧RV E W x v)→
   (Builtin.append_ #[t,t] ty #[vx,vy]).run P W= .ok (.slice base (rows.length+rows2.length) cap) (W.setRow (E.ι id) cur')→
   ∃W' v E',((execOp ρ ⟨dst,.call ⟨.builtin .append,#[x,y],#[t,t]⟩,ty,pos,after,guard⟩).run P W= .ok (.value v) W'∨((execOp ρ ⟨dst,.call ⟨.builtin .append,#[x,y],#[t,t]⟩,ty,pos,after,guard⟩).run P W= .ok .skip W'∧v=undef))∧Evo E W E' W'∧
    RC E' W' (upd G [(id,past e k rows w),(nid,some (.cells e k (rows++rows2) w true))])∧RV E' W' (.own nid 0 (rows.length+rows2.length)) v∧(∀q,E'.U q→E.U q∨(q=nid∧(upd G [(id,past e k rows w),(nid,some (.cells e k (rows++rows2) w true))] nid).isSome=true)):=by
  intro cap base cur' hrv hs' hp' hle' hc' hr
  obtain⟨h2,h3⟩:=hG.share hnid hg hcur hs' hp' (fun i row hr=>by
   by_cases hi:i<rows.length
   ·rw[List.getElem?_append_left hi]at hr;exact hlen i row hr
   ·rw[List.getElem?_append_right (by omega)]at hr;exact hl2 _ row hr) (by simp) hle' hc'
  exact⟨_,_,_,.inl (by rw[hrun _ hr];rfl),h2,h3,hrv,fun id h=>h.imp (fun h=>h) (fun e=>⟨e,by simp[upd]⟩)⟩
 by_cases hne:rows2=[]
 ·subst hne
  obtain⟨base2,n2,cap2,hv2,hn2,_,_⟩:=rowsOf_ok hG hy1 hb;simp at hn2;subst hn2;subst hv2;simp only[List.length_nil,Nat.add_zero,List.append_nil]at grow keep⊢;rcases(own_inv hx1).2 with⟨cap,rfl,hlc,cur2,e2,f2,h4,h5⟩|⟨hl0,a,rfl⟩
  ·
   rw[hcur]at h4;injection h4 with h4
   injection h4 with h4 h6 h7
   subst h4;subst h6;subst h7;refine keep cap _ cur ?_ rfl (fun _ _=>rfl) hsize hcells (by rw[run_append_zero ht ty _ _ _ _ _ hlc,setRow_self W _ cur _ _ hcur])
   rw[setRow_self W _ cur _ _ hcur];have:=RV.own (E:=E.more nid (E.ι id) k) (W:=W) nid 0 rows.length cap (.inr rfl) hlc ⟨cur,_,_,by simp only[Env.more,if_true];exact hcur,by simp only[Env.more,if_true];rw[hszk]at h5;exact h5⟩
   simpa[Env.more,hszk]using this
  ·have h0:rows=[]:=List.length_eq_zero_iff.1 hl0
   subst h0;refine keep 0 a cur ?_ rfl (fun _ _=>rfl) hsize hcells (by rw[setRow_self W _ cur _ _ hcur];exact run_append_zero ht ty _ _ _ _ _ (Nat.le_refl _) _)
   exact .own0 _ _ _ (.inr rfl)
 ·obtain⟨b2,p2,cap2,hv2,news,hnl,hnc,hn1,hnr⟩:=rows_flat hG hy1 hb hne h1
  subst hv2;have hm0:0<rows2.length:=List.length_pos_iff.2 hne;have hnews:∀(j:Nat) u,news[j]? =some u→W.cell? ((⟨b2,p2,none⟩:Addr).add j)=some u:=fun j u hu=>by rw[Addr.add_lit];exact hnc j u hu
  have hnl':news.length=rows2.length*i.size:=by rw[hik];exact hnl
  rcases(own_inv hx1).2 with⟨cap,rfl,hlc,cur2,e2,f2,h4,h5⟩|⟨hl0,a,rfl⟩
  ·
   rw[hcur]at h4;injection h4 with h4
   injection h4 with h4 h6 h7
   subst h4;subst h6;subst h7;rw[hszk]at h5;simp only[Nat.zero_add,Nat.zero_mul]at h5 grow keep⊢;by_cases hroom:rows.length+rows2.length≤cap
   ·have hmul:(rows.length+rows2.length)*k≤cap*k:=Nat.mul_le_mul_right k hroom
    rw[Nat.add_mul]at hmul;have hr:=run_append_room (P:=P) W t ty e i hu hi (E.ι id) rows.length cap cur hcur ⟨b2,p2,none⟩ rows2.length cap2 news hnl' hnews hn1 hroom (by rw[hik];omega)
    rw[hik]at hr;refine keep cap _ _ ?_ ?_ ?_ ?_ ?_ hr
    ·have:=RV.own (E:=E.more nid (E.ι id) k) (W:=W.setRow (E.ι id) (cur.toList.take (rows.length*k)++news++cur.toList.drop (rows.length*k+news.length)).toArray) nid 0 (rows.length+rows2.length) cap (.inr rfl) hroom
      ⟨_,e,(0,0),by simp only[Env.more,if_true];exact setRow_heap W _ cur _ e (0,0) hcur,by simp only[Env.more,if_true];simp;omega⟩
     simpa[Env.more]using this
    ·simp;omega
    ·intro q hq
     rw[List.getElem?_toArray,List.append_assoc,List.getElem?_append_left (by simp;omega),List.getElem?_take,if_pos hq];simp
    ·simp[Nat.add_mul];omega
    ·have hol:(cur.toList.take (rows.length*k)).length=rows.length*k:=by simp;omega
     refine(rows_app hlen hl2 hoC hnr (fun q hq=> ?_) (fun q hq=> ?_)).2
     ·rw[List.getElem?_toArray,List.append_assoc,List.getElem?_append_left (by omega)]
     ·rw[List.getElem?_toArray,List.append_assoc,List.getElem?_append_right (by omega),List.getElem?_append_left (by omega)]
      congr 1;omega
   ·have hol:(cur.toList.take (rows.length*k)).length=rows.length*i.size:=by rw[hik];simp;omega
    have hr:=run_append_grow (P:=P) W t ty e i z hu hi hz' ⟨E.ι id,0,none⟩ rows.length cap (cur.toList.take (rows.length*k)) hol (fun j u hu=>by
      rw[Addr.add_lit,Nat.zero_add,cell_of_row W _ j cur e (0,0) hcur];rw[List.getElem?_take]at hu;split at hu
      ·simpa using hu
      ·cases hu) ⟨b2,p2,none⟩ rows2.length cap2 news hnl' hnews (by omega) (by omega) (growslice_fits (by omega) (by rw[hibk];exact hfit))
    refine grow _ ⟨_,_,rfl,grownCap_ge W _ _ e,news,hnl,hnr,?_,hr⟩;rw[size_zeroCells];rw[h8]
  ·have h0:rows=[]:=List.length_eq_zero_iff.1 hl0
   subst h0;simp only[List.length_nil,Nat.zero_add,Nat.zero_mul,List.take_zero]at grow⊢;cases a with
   |none=>
    have hr:=run_append_nil (P:=P) W t ty e i z hu hi hz' ⟨b2,p2,none⟩ rows2.length cap2 news hnl' hnews hm0 (by simp at h63;omega) (by simp at hfit;rw[hibk];omega)
    refine grow _ ⟨grownCap W rows2.length 0 e,Builtin.zeroCells z.cells (grownCap W rows2.length 0 e-rows2.length),rfl,grownCap_ge W rows2.length 0 e,news,hnl,hnr,by rw[size_zeroCells,h8],?_⟩
    simpa using hr
   |some a=>
   have hr:=run_append_grow (P:=P) W t ty e i z hu hi hz' a 0 0 [] (by simp) (fun j u hu=>by simp at hu) ⟨b2,p2,none⟩ rows2.length cap2 news hnl' hnews (by omega) (by simp at h63;omega) (growslice_fits (by omega) (by rw[hibk];exact hfit))
   refine grow _ ⟨grownCap W rows2.length 0 e,Builtin.zeroCells z.cells (grownCap W rows2.length 0 e-rows2.length),rfl,grownCap_ge W rows2.length 0 e,news,hnl,hnr,by rw[size_zeroCells,h8],?_⟩
   simp only[Nat.zero_add]at hr;exact hr
end
end Go.AL
namespace Go.AL
open Go.RowKit
section
variable (P : Program)
def eqFs(f:TypeId→AV→AV→Option Bool)(xs ys:List AV):List Field→Option Bool
 |[]=>some true
 |fd::r=>if fd.name= "_" then none else match partA P fd.type xs fd.offset,partA P fd.type ys fd.offset with
  |some a,some b=>match f fd.type a b,eqFs f xs ys r with
   |some p,some q=>some (p&&q)
   |_,_=>none
  |_,_=>none
def eqIs(f:TypeId→AV→AV→Option Bool)(e:TypeId)(k:Nat)(xs ys:List AV):List Nat→Option Bool
 |[]=>some true
 |i::r=>match partA P e xs (i*k),partA P e ys (i*k)with
  |some a,some b=>match f e a b,eqIs f e k xs ys r with
   |some p,some q=>some (p&&q)
   |_,_=>none
  |_,_=>none
def eqA:Nat→TypeId→AV→AV→Option Bool
 |0,_,_,_=>none
 |d+1,t,x,y=>match P.underlying t,x,y with
  |some (.int _),.c (.int k a),.c (.int k' b)=>if k=k' then some (a==b)else none
  |some .bool,.c (.bool a),.c (.bool b)=>some (a==b)
  |some .string,.c (.string a),.c (.string b)=>some (a.toList==b.toList)
  |some (.struct fs),.agg xs,.agg ys=>if P.stoodInHeld t=true then none else eqFs P (eqA d) xs ys fs.toList
  |some (.array n e),.agg xs,.agg ys=>match szT P e with
   |some k=>eqIs P (eqA d) e k xs ys (List.range n)
   |none=>none
  |_,_,_=>none
def eqTop(t:TypeId)(x y:AV):Option Bool:=if P.eqGuardType P.depth t=true then none else eqA P 10000 t x y
end
section
variable {P : Program} {E : Env} {W : World}
theorem eqFs_ok{d:Nat}{xs ys:List AV}{vs us:Array Value}(hx:RVs E W xs vs.toList)(hy:RVs E W ys us.toList)
  (ih:∀t x y v u r,RV E W x v→RV E W y u→eqA P d t x y=some r→(Op.equalIn d t v u).run P W= .ok r W):
  ∀(fs:List Field) (r:Bool),eqFs P (eqA P d) xs ys fs=some r→(Op.eqFields d vs us fs).run P W= .ok r W
 |[],r,h=>by simp only[eqFs,Option.some.injEq]at h;subst h;simp[Op.eqFields]
 |fd::fs,r,h=>by
  simp only[eqFs]at h;split at h
  ·cases h
  ·rename_i hn
   split at h
   ·rename_i a b ha hb
    split at h
    ·rename_i p q hp hq
     simp only[Option.some.injEq]at h;subst h;obtain⟨v,h1,h2⟩:=part_ok (P:=P) hx ha;obtain⟨u,h3,h4⟩:=part_ok (P:=P) hy hb;have h5:=ih _ _ _ _ _ _ h2 h4 hp;have h6:=eqFs_ok hx hy ih fs q hq;simp only[Op.eqFields,ne_eq,hn,not_false_eq_true,if_true,Sem.run_bind,Array.toArray_toList,h1,h3,h5,Result.andThen_ok]at*;cases p<;>simp[h1,h3,h5,h6]
    ·cases h
   ·cases h
theorem eqIs_ok{d:Nat}{e:TypeId}{k:Nat}{xs ys:List AV}{vs us:Array Value}(hx:RVs E W xs vs.toList)(hy:RVs E W ys us.toList)
  (ih:∀t x y v u r,RV E W x v→RV E W y u→eqA P d t x y=some r→(Op.equalIn d t v u).run P W= .ok r W):
  ∀(is:List Nat) (r:Bool),eqIs P (eqA P d) e k xs ys is=some r→(Op.eqItems d e k vs us is).run P W= .ok r W
 |[],r,h=>by simp only[eqIs,Option.some.injEq]at h;subst h;simp[Op.eqItems]
 |i::is,r,h=>by
  simp only[eqIs]at h;split at h
  ·rename_i a b ha hb
   split at h
   ·rename_i p q hp hq
    simp only[Option.some.injEq]at h;subst h;obtain⟨v,h1,h2⟩:=part_ok (P:=P) hx ha;obtain⟨u,h3,h4⟩:=part_ok (P:=P) hy hb;have h5:=ih _ _ _ _ _ _ h2 h4 hp;have h6:=eqIs_ok hx hy ih is q hq;simp only[Op.eqItems,Sem.run_bind,Array.toArray_toList,h1,h3,h5,Result.andThen_ok]at*;cases p<;>simp[h1,h3,h5,h6]
   ·cases h
  ·cases h
theorem eqA_ok:∀(d:Nat) (t:TypeId) (x y:AV) (v u:Value) (r:Bool),RV E W x v→RV E W y u→eqA P d t x y=some r→(Op.equalIn d t v u).run P W= .ok r W
 |0,t,x,y,v,u,r,hx,hy,h=>by simp[eqA]at h
 |d+1,t,x,y,v,u,r,hx,hy,h=>by
  simp only[eqA]at h;split at h
  ·rename_i k0 k a k' b hu
   split at h
   ·rename_i hk
    subst hk;simp only[Option.some.injEq]at h;subst h;cases hx;cases hy;exact run_equalIn_int W d t k k0 a b hu
   ·cases h
  ·rename_i a b hu
   simp only[Option.some.injEq]at h;subst h;cases hx;cases hy;exact run_equalIn_bool' W d t a b hu
  ·rename_i a b hu
   simp only[Option.some.injEq]at h;subst h;cases hx;cases hy;exact run_equalIn_string W d t a b hu
  ·rename_i fs xs ys hu
   split at h
   ·cases h
   ·rename_i hp
    cases hx with
    |agg _ vs hl1 hx=>
    cases hy with
    |agg _ us hl2 hy=>
    have hfo:P.fieldsOf t=fs:=by simp[Program.fieldsOf,hu]
    rw[run_equalIn_struct W d t vs us (by rw[hfo];exact hu) (by simpa using hp),hfo]
    exact eqFs_ok ⟨by simpa using hl1,fun i x v h1 h2=>hx i x v h1 (by simpa using h2)⟩ ⟨by simpa using hl2,fun i x v h1 h2=>hy i x v h1 (by simpa using h2)⟩ (eqA_ok d) _ _ h
  ·rename_i n e xs ys hu
   split at h
   ·rename_i k hk
    cases hx with
    |agg _ vs hl1 hx=>
    cases hy with
    |agg _ us hl2 hy=>
    cases hi:P.info? e with
    |none=>simp[szT,hi]at hk
    |some i=>
     have hc:P.cellsOf e=k:=by simp[szT,hi]at hk;simp[Program.cellsOf,hi,hk]
     rw[run_equalIn_array W d vs us hu hi,hc];exact eqIs_ok ⟨by simpa using hl1,fun i x v h1 h2=>hx i x v h1 (by simpa using h2)⟩ ⟨by simpa using hl2,fun i x v h1 h2=>hy i x v h1 (by simpa using h2)⟩ (eqA_ok d) _ _ h
   ·cases h
  ·cases h
end
section
variable {P : Program} {g : Operand → Option AV} {G : Nat → Option Blk} {nid : Nat} {dst : Option Tmp} {ty : TypeId} {pos : String} {after : Array Edge} {guard : Option (Nat × Bool)}
def eqOut(op:BinOp)(r:Bool):Option Value:=
 match op with
 | .eql=>some (.bool r)
 | .neq=>some (.bool (!r))
 |_=>none
theorem ok_eqAgg{op:BinOp}{t yt:TypeId}{x y:Operand}{xs ys:List AV}{r:Bool}{v:Value}(hx:g x=some (.agg xs))(hy:g y=some (.agg ys))(h:eqTop P t (.agg xs) (.agg ys)=some r)(hv:eqOut op r=some v):
  OpOK P g G nid ⟨dst,.binOp op t x y yt,ty,pos,after,guard⟩ (.c v) G:=
 .still fun E W ρ hG hρ=>by
   have h1:=hρ x _ hx;have h2:=hρ y _ hy;generalize hρx:ρ x=vx at h1;generalize hρy:ρ y=vy at h2;unfold eqTop at h;split at h
   ·cases h
   ·rename_i hgd
    have heq:=eqA_ok 10000 t _ _ _ _ r h1 h2 h;cases h1 with
    |agg _ vs hl1 h1=>
    cases h2 with
    |agg _ us hl2 h2=>
    refine⟨v,?_,.c v ?_⟩
    ·simp only[execOp,hρx,hρy,Sem.run_bind,run_eqGuard_agg W op t x y vs us (by simpa using hgd),Result.andThen_ok]
     cases op<;>simp only[eqOut,reduceCtorEq,Option.some.injEq]at hv
     ·subst hv;rw[run_eql_struct,heq];rfl
     ·subst hv;rw[run_neq_struct,heq];rfl
    ·cases op<;>simp only[eqOut,reduceCtorEq,Option.some.injEq]at hv<;>subst hv<;>rfl
def nilA(a:AV):Option Bool:=
 match a with
 | .c (.slice a _ _)=>some a.isNone
 | .snap rows=>if rows.isEmpty=true then none else some false
 | .own _ _ n=>if n=0 then none else some false
 |_=>none
theorem nilA_ok{E:Env}{W:World}{a:AV}{v:Value}{r:Bool}(hr:RV E W a v)(h:nilA a=some r):∃p n c,v= .slice p n c∧p.isNone=r:=by
 unfold nilA at h;split at h
 ·simp only[Option.some.injEq]at h;subst h;cases hr;exact⟨_,_,_,rfl,rfl⟩
 ·rename_i rows
  split at h
  ·cases h
  ·rename_i hne
   simp only[Option.some.injEq]at h;subst h;cases hr with
   |snap=>exact⟨_,_,_,rfl,rfl⟩
   |snap0=>exact absurd rfl hne
 ·split at h
  ·cases h
  ·rename_i hne
   simp only[Option.some.injEq]at h;subst h;cases hr with
   |own=>exact⟨_,_,_,rfl,rfl⟩
   |own0=>exact absurd rfl hne
 ·cases h
theorem run_equalIn_nil(d:Nat){t e:TypeId}(hu:P.underlying t=some (.slice e))(p:Option Addr)(n c:Nat)(w:World):
  (Op.equalIn (d+1) t (.slice p n c) (.slice none 0 0)).run P w= .ok p.isNone w:=by
 cases p<;>simp[Op.equalIn,run_underlying hu]
theorem run_eq_nil{op:BinOp}{t e:TypeId}(hu:P.underlying t=some (.slice e))(p:Option Addr)(n c:Nat)(w:World){v:Value}(hv:eqOut op p.isNone=some v):
  (binOp op t (.slice p n c) (.slice none 0 0)).run P w= .ok v w:=by
 have h:=run_equalIn_nil (P:=P) 9999 hu p n c w;cases op<;>simp only[eqOut,reduceCtorEq,Option.some.injEq]at hv<;>subst hv<;>simp only[binOp,Op.equal,Op.maxDepth,Sem.run_bind,h,Result.andThen_ok,Sem.run_pure]
theorem ok_eqNil{op:BinOp}{t e yt:TypeId}{k:Nat}{x y:Operand}{a:AV}{r:Bool}{v:Value}(ht:sliceT P t=some (e,k))(hx:g x=some a)(hy:g y=some (.c (.slice none 0 0)))(h:nilA a=some r)(hv:eqOut op r=some v):
  OpOK P g G nid ⟨dst,.binOp op t x y yt,ty,pos,after,guard⟩ (.c v) G:=
 .still fun E W ρ hG hρ=>by
   obtain⟨p,n,c,h1,h2⟩:=nilA_ok (hρ x _ hx) h;have h3:=hρ y _ hy;generalize hρy:ρ y=vy at h3;cases h3;obtain⟨hu,_⟩:=sliceT_ok ht;refine⟨v,?_,.c v ?_⟩
   ·simp only[execOp,h1,hρy,Sem.run_bind]
    subst h2
    have hg1:(eqGuard op t x y (.slice p n c) (.slice none 0 0)).run P W= .ok () W:=by
     cases op<;>simp[eqGuard,run_program,run_underlying hu]
    rw[hg1,Result.andThen_ok,run_eq_nil hu p n c W hv];rfl
   ·cases op<;>simp only[eqOut,reduceCtorEq,Option.some.injEq]at hv<;>subst hv<;>rfl
theorem run_sliceAt_max{ρ:Operand→Value}{E:Env}{W:World}(hρ:∀x b,g x=some b→RV E W b (ρ x)){t e:TypeId}{k:Nat}(ht:sliceT P t=some (e,k))(base:Option Addr)(len cap:Nat){lo:Option Operand}{hi mx:Operand}{l h m:Int}
  (hl:boundA g 0 lo=some l) (hh:boundA g len (some hi)=some h) (hm:boundA g len (some mx)=some m) (h0:0≤l) (h1:l≤h) (h2:h≤m) (h3:m≤cap):
  (Instr.sliceAt t (.slice base len cap) (lo.map ρ) (some (ρ hi)) (some (ρ mx))).run P W= .ok (.slice (if m=l then base else base.map (·.add (l.toNat*k))) (h-l).toNat (m-l).toNat) W:=by
 obtain⟨hu,hk⟩:=sliceT_ok ht;have hb:(m.toNat=l.toNat)↔(m=l):=by omega
 have e1:h.toNat-l.toNat=(h-l).toNat:=by omega
 have e2:m.toNat-l.toNat=(m-l).toNat:=by omega
 rcases boundA_ok hρ hh with⟨hc,_⟩|⟨kh,hkh⟩
 ·cases hc
 rcases boundA_ok hρ hm with⟨hc,_⟩|⟨km,hkm⟩
 ·cases hc
 simp only[Option.map_some,Option.some.injEq]at hkh hkm;have h5:0≤h:=by omega
 have h6:0≤m:=by omega
 have h7:h≤max m 0:=by omega
 have h8:l≤max h 0:=by omega
 rcases boundA_ok hρ hl with⟨rfl,rfl⟩|⟨kl,hkl⟩
 ·simp[Instr.sliceAt,run_underlying hu,Instr.slice,Instr.sliceBounds,run_sizeOf hk,hkh,hkm,Instr.sliceBound,asIntOf,h5,h6,h7,h3]
  by_cases hc:m=0
  ·rw[if_pos (by omega),if_pos hc]
  ·rw[if_neg (by omega),if_neg hc]
 ·simp[Instr.sliceAt,run_underlying hu,Instr.slice,Instr.sliceBounds,run_sizeOf hk,hkl,hkh,hkm,Instr.sliceBound,asIntOf,h0,h5,h6,h7,h8,h3]
  by_cases hc:m=l
  ·rw[if_pos (by omega),if_pos hc];simp;omega
  ·rw[if_neg (by omega),if_neg hc];simp;omega
theorem ok_sliceMax{t e:TypeId}{k:Nat}{x:Operand}{rows:List (List AV)}{lo:Option Operand}{hi mx:Operand}{l h m:Int}(ht:sliceT P t=some (e,k))(hx:g x=some (.snap rows))(hl:boundA g 0 lo=some l)(hh:boundA g rows.length (some hi)=some h)
  (hm:boundA g rows.length (some mx)=some m) (h0:0≤l) (h1:l≤h) (h2:h≤m) (h3:m≤rows.length) (hw:rows.all (fun r=>r.length==k)=true):
  OpOK P g G nid ⟨dst,.slice t x lo (some hi) (some mx),ty,pos,after,guard⟩ (.snap ((rows.drop l.toNat).take (h-l).toNat)) G:=
 .still fun E W ρ hG hρ=>by
   have h4:=hρ x _ hx;generalize hρx:ρ x=vx at h4;cases h4 with
   |snap0 a cap=>
    simp at h3;refine⟨_,by simp only[execOp,hρx,Option.map_some];rw[Sem.run_bind,run_sliceAt_max hρ ht a 0 cap hl (show boundA g ((0:Nat):Int) (some hi)=some h from hh) (show boundA g ((0:Nat):Int) (some mx)=some m from hm) h0 h1 h2 (by omega)];rfl,?_⟩
    have:(h-l).toNat=0:=by omega
    rw[this];simp;exact .snap0 _ _
   |snap _ b off s n cap vs hn hcap hs hL hc hr=>
    subst hn;refine⟨_,by simp only[execOp,hρx,Option.map_some];rw[Sem.run_bind,run_sliceAt_max hρ ht _ rows.length cap hl hh hm h0 h1 h2 (by omega)];rfl,?_⟩
    by_cases hz:h=l
    ·have:(h-l).toNat=0:=by omega
     rw[this];simp;exact .snap0 _ _
    ·have hne:¬(m=l):=by omega
     rw[if_neg hne];have hlt:l.toNat<rows.length:=by omega
     have hsk:s=k:=by
      have h4:=hs l.toNat _ (List.getElem?_eq_getElem hlt);have h5:=List.all_eq_true.1 hw _ (List.getElem_mem hlt);simp at h5;omega
     subst hsk
     have hmul:l.toNat*s+(h-l).toNat*s≤rows.length*s:=by
      rw[←Nat.add_mul];exact Nat.mul_le_mul_right s (by omega)
     have hlen:((rows.drop l.toNat).take (h-l).toNat).length=(h-l).toNat:=by simp;omega
     have hget:∀(i:Nat) row,((rows.drop l.toNat).take (h-l).toNat)[i]? =some row→rows[l.toNat+i]? =some row:=fun i row hr=>by
      rw[List.getElem?_take]at hr;split at hr
      ·rwa[List.getElem?_drop]at hr
      ·cases hr
     have:=RV.snap (E:=E) (W:=W) ((rows.drop l.toNat).take (h-l).toNat) b (off+l.toNat*s) s (h-l).toNat (m-l).toNat (fun i j=>vs (l.toNat+i) j) hlen.symm (by omega) (fun i row hr=>hs _ row (hget i row hr)) (by rw[hlen];omega)
      (fun i j row x h4 h5=>by rw[←hc _ j row x (hget i row h4) h5];congr 2;rw[Nat.add_mul];omega) (fun i j row x h4 h5=>hr _ j row x (hget i row h4) h5)
     simpa[Addr.add_lit]using this
end
end Go.AL
namespace Go.AL
open Go.RowKit
def flatF(P:Program):List Field→Nat→Option Nat
 |[],i=>some i
 |f::r,i=>match P.underlying f.type,szT P f.type with
  |some (.int .i64),some 1=>if f.name= "_" ∨f.offset≠i then none else flatF P r (i+1)
  |_,_=>none
def keyD(P:Program)(kt:TypeId):Option TypeDesc:=
 match P.underlying kt with
 |some (.struct fs)=>if P.stoodInHeld kt=true then none else(flatF P fs.toList 0).map fun n=> .array n 0
 |some (.array _ _)=>none
 |d=>d
def mapT(P:Program)(t:TypeId):Option (TypeId×TypeId×TypeDesc):=
 match P.underlying t with
 |some (.map k e)=>(keyD P k).map fun d=>(k,e,d)
 |_=>none
theorem mapT_ok{P:Program}{t k e:TypeId}{d:TypeDesc}(h:mapT P t=some (k,e,d)):P.underlying t=some (.map k e)∧keyD P k=some d:=by
 unfold mapT at h;split at h
 ·rename_i k' e' hu
  cases hk:keyD P k' with
  |none=>rw[hk]at h;cases h
  |some d'=>
   rw[hk]at h;simp only[Option.map_some,Option.some.injEq,Prod.mk.injEq]at h;obtain⟨rfl,rfl,rfl⟩:=h;exact⟨hu,hk⟩
 ·cases h
def zeroA(P:Program)(e:TypeId):Option AV:=
 match(P.info? e).bind (·.zero)with
 |some z=>ofV z
 |none=>none
theorem zeroA_ok{P:Program}{e:TypeId}{a:AV}(h:zeroA P e=some a):∃z,(∀W,(zeroValue e).run P W= .ok z W)∧∀E W,RV E W a z:=by
 unfold zeroA at h;split at h
 ·rename_i z hz
  cases hi:P.info? e with
  |none=>rw[hi]at hz;cases hz
  |some i=>
   rw[hi]at hz;simp only[Option.bind_some]at hz;exact⟨z,fun W=>by simp[zeroValue,run_typeInfo hi,hz],fun E W=>RV.ofV h⟩
 ·cases h
def iV(a:Int):Value:= .int .i64 a
def IsK:TypeDesc→Value→Prop
 | .array n _,.agg cs=>∃l:List Int,l.length=n∧cs=(l.map iV).toArray
 |d,v=>MapKept.IsKey d v
def isI64:Value→Bool
 | .int k _=>k== .i64
 |_=>false
def isKeyB:TypeDesc→Value→Bool
 | .bool,.bool _=>true
 | .int k,.int k' _=>k'==k
 | .string,.string _=>true
 | .array n _,.agg cs=>cs.toList.length==n&&cs.toList.all isI64
 |_,_=>false
theorem isI64_ok:∀(l:List Value),l.all isI64=true→∃as:List Int,l=as.map iV
 |[],_=>⟨[],rfl⟩
 |v::r,h=>by
  simp only[List.all_cons,Bool.and_eq_true]at h;obtain⟨as,h2⟩:=isI64_ok r h.2;cases v with
  |int k n=>
   obtain rfl:=eq_of_beq (show(k==IntKind.i64)=true from h.1)
   exact⟨n::as,by rw[h2];rfl⟩
  |_=>exact absurd h.1 (by simp[isI64])
theorem isKeyB_ok{d:TypeDesc}{k:Value}(h:isKeyB d k=true):IsK d k:=by
 unfold isKeyB at h;split at h
 ·trivial
 ·exact eq_of_beq h
 ·trivial
 ·rename_i n e cs
  simp only[Bool.and_eq_true,beq_iff_eq]at h;obtain⟨as,h2⟩:=isI64_ok _ h.2;refine⟨as,?_,?_⟩
  ·rw[h2,List.length_map]at h;exact h.1
  ·rw[←h2]
 ·cases h
def keysB(d:TypeDesc)(es:List (Value×AV)):Bool:=es.all fun p=>isKeyB d p.1
def sameI:List Value→List Value→Bool
 |[],[]=>true
 | .int k a::r,.int k' b::s=>k==k'&&a==b&&sameI r s
 |_,_=>false
def sameK:Value→Value→Bool
 | .int k a,.int k' b=>k==k'&&a==b
 | .bool a,.bool b=>a==b
 | .string a,.string b=>a==b
 | .agg a,.agg b=>sameI a.toList b.toList
 |_,_=>false
theorem sameI_iff:∀(a b:List Int),sameI (a.map iV) (b.map iV)=true↔a=b
 |[],[]=>by simp[sameI]
 |[],_::_=>by simp[sameI]
 |_::_,[]=>by simp[sameI]
 |x::a,y::b=>by
  simp only[List.map_cons,iV,sameI,Bool.and_eq_true,beq_iff_eq,true_and,List.cons.injEq,beq_self_eq_true];exact and_congr_right fun _=>sameI_iff a b
theorem iV_inj{a b:List Int}(h:(a.map iV)=(b.map iV)):a=b:=(sameI_iff a b).1 (h▸(sameI_iff a a).2 rfl)
theorem isK_prim{d:TypeDesc}{v:Value}(hd:∀n e,d≠ .array n e)(h:IsK d v):MapKept.IsKey d v:=by
 cases d<;>first|exact h|(rename_i n e;exact absurd rfl (hd n e))
theorem isK_arr{n:Nat}{e:TypeId}{v:Value}(h:IsK (.array n e) v):∃l:List Int,l.length=n∧v= .agg (l.map iV).toArray:=by
 cases v<;>simp only[IsK,MapKept.IsKey]at h
 obtain⟨l,h1,h2⟩:=h;exact⟨l,h1,by rw[h2]⟩
theorem sameK_iff{d:TypeDesc}{a b:Value}(ha:IsK d a)(hb:IsK d b):sameK a b=true↔a=b:=by
 by_cases hd:∃n e,d= .array n e
 ·obtain⟨n,e,rfl⟩:=hd
  obtain⟨l,_,rfl⟩:=isK_arr ha;obtain⟨m,_,rfl⟩:=isK_arr hb;simp only[sameK,sameI_iff];constructor
  ·rintro rfl;rfl
  ·intro h
   simp only[Value.agg.injEq]at h;exact iV_inj (by simpa using congrArg Array.toList h)
 ·have hd':∀n e,d≠ .array n e:=fun n e h=>hd ⟨n,e,h⟩
  have ha:=isK_prim hd' ha;have hb:=isK_prim hd' hb;cases d<;>cases a<;>cases b<;>simp_all [MapKept.IsKey,sameK,MapKept.bytes_beq]
theorem map_some0{α β:Type}{x:Option α}{f:α→β}{b:β}(h:x.map f=some b):∃a,x=some a∧f a=b:=by
 cases x with
 |none=>simp at h
 |some a=>exact⟨a,rfl,by simpa using h⟩
section
variable {P : Program}
theorem eqA_struct{d:Nat}{t:TypeId}{fs:Array Field}{xs ys:List AV}(hu:P.underlying t=some (.struct fs)):eqA P (d+1) t (.agg xs) (.agg ys)=if P.stoodInHeld t=true then none else eqFs P (eqA P d) xs ys fs.toList:=by
 simp only[eqA,hu]
theorem eqFs_flat{d:Nat}:∀(fs:List Field) (i n:Nat) (as bs:List Int),flatF P fs i=some n→as.length=n→bs.length=n→
  eqFs P (eqA P (d+1)) ((as.map iV).map AV.c) ((bs.map iV).map AV.c) fs=some (decide (as.drop i=bs.drop i))
 |[],i,n,as,bs,h,h1,h2=>by
  simp only[flatF,Option.some.injEq]at h;subst h;rw[List.drop_eq_nil_of_le (by omega),List.drop_eq_nil_of_le (by omega)]
  rfl
 |f::fs,i,n,as,bs,h,h1,h2=>by
  simp only[flatF]at h;split at h
  ·rename_i hu hs
   split at h
   ·cases h
   ·rename_i hn
    simp only[not_or,ne_eq,Decidable.not_not]at hn
    have hge:∀(fs:List Field) (i n:Nat),flatF P fs i=some n→i≤n:=by
     intro fs
     induction fs with
     |nil=>intro i n h;simp only[flatF,Option.some.injEq]at h;omega
     |cons f fs ih=>
      intro i n h;simp only[flatF]at h;split at h
      ·split at h
       ·cases h
       ·have:=ih _ _ h;omega
      ·cases h
    have hi:=hge _ _ _ h;have ih:=eqFs_flat (d:=d) fs (i+1) n as bs h h1 h2;have hag:isAggT P f.type=some false:=by unfold isAggT;rw[hu]
    have p1:∀l:List Int,l.length=n→partA P f.type ((l.map iV).map AV.c) f.offset=some (.c (iV (l.getD i 0))):=fun l hl=>by
     have hil:i<l.length:=by omega
     unfold partA;rw[hag,hs];simp[hn.2,hil]
    have e1:∀x y:Int,eqA P (d+1) f.type (.c (iV x)) (.c (iV y))=some (x==y):=fun x y=>by
     simp only[eqA,hu,iV,if_true]
    rw[eqFs,if_neg hn.1,p1 as h1,p1 bs h2];simp only[e1,ih]
    have hd:∀l:List Int,l.length=n→l.drop i=l.getD i 0::l.drop (i+1):=fun l hl=>by
     have hil:i<l.length:=by omega
     rw[List.drop_eq_getElem_cons hil];simp[hil]
    rw[hd as h1,hd bs h2];rw[show(as.getD i 0==bs.getD i 0)=decide (as.getD i 0=bs.getD i 0)from rfl]
    by_cases h5:as.getD i 0=bs.getD i 0
    ·by_cases h6:as.drop (i+1)=bs.drop (i+1)
     ·rw[decide_eq_true h5,decide_eq_true h6,decide_eq_true (by rw[h5,h6])];rfl
     ·rw[decide_eq_true h5,decide_eq_false h6,decide_eq_false (fun q=>h6 (List.cons.inj q).2)];rfl
    ·rw[decide_eq_false h5,decide_eq_false (fun q=>h5 (List.cons.inj q).1)];rfl
  ·cases h
theorem rv_ints(E:Env)(W:World)(l:List Int):RV E W (.agg ((l.map iV).map AV.c)) (.agg (l.map iV).toArray):=
 .agg _ _ (by simp) fun i x v h1 h2=>by
   rw[List.getElem?_map]at h1;rw[List.getElem?_toArray]at h2;rw[h2]at h1;simp only[Option.map_some,Option.some.injEq]at h1;subst h1;rw[List.getElem?_map]at h2;obtain⟨y,_,rfl⟩:=Option.map_eq_some_iff.1 h2;exact .c _ rfl
theorem equal_flat{kt:TypeId}{n:Nat}{W:World}(hk:keyD P kt=some (.array n 0))(as bs:List Int)(h1:as.length=n)(h2:bs.length=n):
  (Op.equal kt (.agg (as.map iV).toArray) (.agg (bs.map iV).toArray)).run P W= .ok (decide (as=bs)) W:=by
 have E0:Env:=⟨fun _=>0,fun _=>0,fun _=>False,fun _=>0⟩
 refine eqA_ok 10000 kt _ _ _ _ _ (rv_ints E0 W as) (rv_ints E0 W bs) ?_;unfold keyD at hk;split at hk
 ·rename_i fs hu
  split at hk
  ·cases hk
  ·rename_i hp
   obtain⟨m,hm,he⟩:=map_some0 hk;simp only[TypeDesc.array.injEq,and_true]at he;subst he;have:=eqFs_flat (P:=P) (d:=9998) fs.toList 0 m as bs hm h1 h2;simp only[List.drop_zero]at this
   show eqA P (9999+1) kt (.agg ((as.map iV).map AV.c)) (.agg ((bs.map iV).map AV.c))=_
   rw[eqA_struct hu,if_neg hp];exact this
 ·cases hk
 ·rename_i hns hna
  exact absurd hk (hna _ _)
theorem find_flat{kt:TypeId}{n:Nat}{W:World}(hk:keyD P kt=some (.array n 0)){k:Value}(hkk:IsK (.array n 0) k):∀(l:List MapEntry) (i:Nat),(∀x∈l,IsK (.array n 0) x.key)→
  ((Instr.findAsking kt k l i).run P W= .ok none W∧∀x∈l,x.key≠k)∨∃j e,(Instr.findAsking kt k l i).run P W= .ok (some (i+j,e.val)) W∧l[j]? =some e∧e.key=k
 |[],i,_=> .inl ⟨by simp[Instr.findAsking],by simp⟩
 |e::es,i,h=>by
  obtain⟨as,h1,rfl⟩:=isK_arr hkk;obtain⟨bs,h2,h3⟩:=isK_arr (h e (.head _));have hr:=equal_flat (W:=W) hk as bs h1 h2;rw[←h3]at hr;by_cases hab:as=bs
  ·rw[decide_eq_true hab]at hr
   exact .inr ⟨0,e,by simp[Instr.findAsking,hr],rfl,by rw[h3,hab]⟩
  ·rw[decide_eq_false hab]at hr
   have hne:e.key≠ .agg (as.map iV).toArray:=fun q=>hab (by
    rw[h3]at q;simp only[Value.agg.injEq]at q
    exact(iV_inj (by simpa using congrArg Array.toList q)).symm)
   rcases find_flat (W:=W) hk hkk es (i+1) (fun x hx=>h x (.tail _ hx))with⟨h1,h2⟩|⟨j,e',h1,h2,h3⟩
   ·exact .inl ⟨by simp[Instr.findAsking,hr,h1],fun x hx=>by
     rcases List.mem_cons.1 hx with rfl|hx
     ·exact hne
     ·exact h2 x hx⟩
   ·exact .inr ⟨j+1,e',by simp[Instr.findAsking,hr,h1,Nat.add_assoc,Nat.add_comm 1 j],by simpa using h2,h3⟩
theorem find_keys{kt:TypeId}{d:TypeDesc}{W:World}(hk:keyD P kt=some d){k:Value}(hkk:IsK d k)(l:List MapEntry)(h:∀x∈l,IsK d x.key):
  ((Instr.findKey kt k l).run P W= .ok none W∧∀x∈l,x.key≠k)∨∃j e,(Instr.findKey kt k l).run P W= .ok (some (j,e.val)) W∧l[j]? =some e∧e.key=k:=by
 have hk0:=hk;unfold keyD at hk;split at hk
 ·rename_i fs hu
  split at hk
  ·cases hk
  ·obtain⟨m,hm,he⟩:=map_some0 hk
   subst he;rcases find_flat (W:=W) hk0 hkk l 0 h with⟨h1,h2⟩|⟨j,e,h1,h2,h3⟩
   ·refine .inl ⟨?_,h2⟩
    cases l with
    |nil=>simp[Instr.findKey,run_underlying hu,Result.andThen,Instr.findNow]
    |cons e es=>
     have:Instr.findNow (.struct fs) k (e::es) 0=none:=by simp[Instr.findNow,Instr.sameNow]
     simp[Instr.findKey,run_underlying hu,Result.andThen,this,h1]
   ·refine .inr ⟨j,e,?_,h2,h3⟩
    cases l with
    |nil=>simp at h2
    |cons e0 es=>
     have:Instr.findNow (.struct fs) k (e0::es) 0=none:=by simp[Instr.findNow,Instr.sameNow]
     simp only[Nat.zero_add]at h1;simp[Instr.findKey,run_underlying hu,Result.andThen,this,h1]
 ·cases hk
 ·rename_i d0 hns hna
  have hd':∀n e,d≠ .array n e:=fun n e q=>by subst q;exact hna _ _ hk
  rcases MapKept.findNow_spec (isK_prim hd' hkk) l 0 (fun x hx=>isK_prim hd' (h x hx))with⟨h1,h2⟩|⟨j,e,h1,h2,h3⟩
  ·exact .inl ⟨MapKept.run_findKey hk h1,h2⟩
  ·exact .inr ⟨j,e,by have:=MapKept.run_findKey (P:=P) (w:=W) hk h1;simpa using this,h2,h3⟩
theorem check_flat{m n:Nat}{W:World}{em:Bool}(l:List Int):∀(fs:List Field) (i:Nat),flatF P fs i=some n→l.length=n→
  (forIn fs PUnit.unit fun f _=>do
    if f.name≠ "_" then Instr.checkKey em (m+1) f.type (←part f.type (l.map iV).toArray f.offset)
    pure (ForInStep.yield PUnit.unit):Sem PUnit).run P W= .ok PUnit.unit W
 |[],i,h,hl=>by simp
 |f::fs,i,h,hl=>by
  simp only[flatF]at h;split at h
  ·rename_i hu hs
   split at h
   ·cases h
   ·rename_i hn
    simp only[not_or,ne_eq,Decidable.not_not]at hn;have ih:=check_flat (m:=m) (W:=W) (em:=em) l fs (i+1) h hl
    have hge:∀(fs:List Field) (i n:Nat),flatF P fs i=some n→i≤n:=by
     intro fs
     induction fs with
     |nil=>intro i n h;simp only[flatF,Option.some.injEq]at h;omega
     |cons f fs ih=>
      intro i n h;simp only[flatF]at h;split at h
      ·split at h
       ·cases h
       ·have:=ih _ _ h;omega
      ·cases h
    have hi:=hge _ _ _ h;have hil:i<l.length:=by omega
    have hag:isAggT P f.type=some false:=by unfold isAggT;rw[hu]
    have hp:(part f.type (l.map iV).toArray f.offset).run P W= .ok (iV l[i]) W:=by
     simp[part,run_isAgg hag,hn.2,hil]
    have hc:(Instr.checkKey em (m+1) f.type (iV l[i])).run P W= .ok () W:=MapKept.run_checkKey hu (show MapKept.IsKey (.int .i64) (.int .i64 l[i])from rfl) em m
    simp only[List.forIn_cons,Sem.run_bind,hn.1,ne_eq,not_false_eq_true,if_true,Result.andThen_ok,hp,hc,Sem.run_pure];exact ih
  ·cases h
theorem check_keys{kt:TypeId}{d:TypeDesc}{W:World}(hk:keyD P kt=some d){k:Value}(hkk:IsK d k)(em:Bool):(Instr.checkKey em 10000 kt k).run P W= .ok () W:=by
 unfold keyD at hk;split at hk
 ·rename_i fs hu
  split at hk
  ·cases hk
  ·obtain⟨m,hm,he⟩:=map_some0 hk
   subst he;obtain⟨l,h1,rfl⟩:=isK_arr hkk;rw[show(10000:Nat)=9998+1+1 from rfl,Instr.checkKey]
   simp only[Sem.run_bind,run_underlying hu,Result.andThen_ok];rw[←Array.forIn_toList];have:=check_flat (m:=9998) (W:=W) (em:=em) l fs.toList 0 hm h1;simp only[Sem.run_bind]at this⊢;rw[this];rfl
 ·cases hk
 ·rename_i d0 hns hna
  have hd':∀n e,d≠ .array n e:=fun n e q=>by subst q;exact hna _ _ hk
  exact MapKept.run_checkKey hk (isK_prim hd' hkk) em 9999
theorem stays_keys{d:TypeDesc}{W:World}{k:Value}(hkk:IsK d k):(Instr.keyThatStays k k).run P W= .ok k W:=by
 by_cases hd:∃n e,d= .array n e
 ·obtain⟨n,e,rfl⟩:=hd
  obtain⟨l,_,rfl⟩:=isK_arr hkk
  have hs:Instr.sameBits 10000 (.agg (l.map iV).toArray) (.agg (l.map iV).toArray)=true:=by
   show Instr.sameBits (9999+1) (.agg (l.map iV).toArray) (.agg (l.map iV).toArray)=true
   simp only[Instr.sameBits,beq_self_eq_true,Bool.true_and,List.all_eq_true];intro p hp;obtain⟨i,hi,e⟩:=List.getElem_of_mem hp;rw[List.getElem_zip]at e;rw[←e];simp[iV,Instr.sameBits]
  simp[Instr.keyThatStays,hs]
 ·exact MapKept.run_keyThatStays (isK_prim (fun n e h=>hd ⟨n,e,h⟩) hkk)
end
def lookM(k:Value):List (Value×AV)→Option AV
 |[]=>none
 |(k',x)::r=>if sameK k' k=true then some x else lookM k r
def putM(k:Value)(x:AV):List (Value×AV)→List (Value×AV)
 |[]=> [(k,x)]
 |(k',y)::r=>if sameK k' k=true then(k',x)::r else(k',y)::putM k x r
theorem lookM_none{k:Value}:∀{es:List (Value×AV)},(∀p∈es,sameK p.1 k=false)→lookM k es=none
 |[],_=>rfl
 |(k',x)::r,h=>by
  simp only[lookM,h _ (.head _),Bool.false_eq_true,if_false];exact lookM_none fun p hp=>h p (.tail _ hp)
theorem putM_none{k:Value}{x:AV}:∀{es:List (Value×AV)},(∀p∈es,sameK p.1 k=false)→putM k x es=es++[(k,x)]
 |[],_=>rfl
 |(k',y)::r,h=>by
  simp only[putM,h _ (.head _),Bool.false_eq_true,if_false,List.cons_append];rw[putM_none fun p hp=>h p (.tail _ hp)]
theorem lookM_some{k:Value}{x:AV}{k':Value}:∀{es:List (Value×AV)} {j:Nat},es[j]? =some (k',x)→sameK k' k=true→(∀i,i<j→∀p,es[i]? =some p→sameK p.1 k=false)→lookM k es=some x
 |[],j,h,_,_=>by simp at h
 |(k0,y)::r,0,h,hs,_=>by
  simp only[List.getElem?_cons_zero,Option.some.injEq,Prod.mk.injEq]at h;obtain⟨rfl,rfl⟩:=h;simp only[lookM,hs,if_true]
 |(k0,y)::r,j+1,h,hs,hn=>by
  have h0:=hn 0 (by omega) (k0,y) rfl
  simp only[lookM,h0,Bool.false_eq_true,if_false];exact lookM_some (by simpa using h) hs fun i hi p hp=>hn (i+1) (by omega) p (by simpa using hp)
theorem putM_some{k:Value}{x y:AV}{k':Value}:∀{es:List (Value×AV)} {j:Nat},es[j]? =some (k',x)→sameK k' k=true→(∀i,i<j→∀p,es[i]? =some p→sameK p.1 k=false)→putM k y es=es.set j (k',y)
 |[],j,h,_,_=>by simp at h
 |(k0,z)::r,0,h,hs,_=>by
  simp only[List.getElem?_cons_zero,Option.some.injEq,Prod.mk.injEq]at h;obtain⟨rfl,rfl⟩:=h;simp only[putM,hs,if_true,List.set_cons_zero]
 |(k0,z)::r,j+1,h,hs,hn=>by
  have h0:=hn 0 (by omega) (k0,z) rfl
  simp only[putM,h0,Bool.false_eq_true,if_false,List.set_cons_succ];rw[putM_some (by simpa using h) hs fun i hi p hp=>hn (i+1) (by omega) p (by simpa using hp)]
section
variable {P : Program} {g : Operand → Option AV} {G : Nat → Option Blk} {nid : Nat} {dst : Option Tmp} {ty : TypeId} {pos : String} {after : Array Edge} {guard : Option (Nat × Bool)}
theorem findM_ok{E:Env}{W:World}{es:List (Value×AV)}{ms:Array MapEntry}{clock:Nat}{kt:TypeId}{d:TypeDesc}{k:Value}(hkd:keyD P kt=some d)(hs:MapKept.Stamped ms clock)(hl:ms.size=es.length)
  (hc:∀(i:Nat) k x,es[i]? =some (k,x)→∃e,ms[i]? =some e∧e.key=k∧RV E W x e.val) (hk:isKeyB d k=true) (hes:keysB d es=true):
  (∀x∈ms.toList,IsK d x.key)∧
  (((Instr.findKey kt k ms.toList).run P W= .ok none W∧(∀x∈ms.toList,x.key≠k)∧lookM k es=none∧∀x,putM k x es=es++[(k,x)])∨
  ∃j e x,(Instr.findKey kt k ms.toList).run P W= .ok (some (j,e.val)) W∧ms[j]? =some e∧e.key=k∧es[j]? =some (k,x)∧RV E W x e.val∧lookM k es=some x∧∀y,putM k y es=es.set j (k,y)):=by
 have hk':=isKeyB_ok hk
 have hget:∀(i:Nat) e,ms[i]? =some e→∃x,es[i]? =some (e.key,x)∧RV E W x e.val:=fun i e he=>by
  have hi:i<es.length:=by rw[←hl];exact(Array.getElem?_eq_some_iff.1 he).1
  obtain⟨e',h1,h2,h3⟩:=hc i es[i].1 es[i].2 (by rw[List.getElem?_eq_getElem hi])
  rw[he]at h1;injection h1 with h1
  subst h1;exact⟨_,by rw[List.getElem?_eq_getElem hi,h2],h3⟩
 have hall:∀x∈ms.toList,IsK d x.key:=fun x hx=>by
  obtain⟨i,hi⟩:=List.mem_iff_getElem?.1 hx;rw[Array.getElem?_toList]at hi;obtain⟨y,hy,_⟩:=hget i x hi;exact isKeyB_ok (List.all_eq_true.1 hes _ (List.mem_of_getElem? hy))
 refine⟨hall,?_⟩;rcases find_keys (W:=W) hkd hk' ms.toList hall with⟨h1,h2⟩|⟨j,e,h1,h2,h3⟩
 ·have hno:∀p∈es,sameK p.1 k=false:=fun p hp=>by
   obtain⟨i,hi⟩:=List.mem_iff_getElem?.1 hp;obtain⟨e,he1,he2,_⟩:=hc i p.1 p.2 hi;have hm:e∈ms.toList:=by rw[Array.mem_toList_iff];exact Array.mem_of_getElem? he1
   have hne:=h2 e hm;rw[he2]at hne;cases hsk:sameK p.1 k with
   |false=>rfl
   |true=>exact absurd ((sameK_iff (he2▸hall e hm) hk').1 hsk) hne
  exact .inl ⟨h1,h2,lookM_none hno,fun x=>putM_none hno⟩
 ·rw[Array.getElem?_toList]at h2
  obtain⟨x,hx,hr⟩:=hget j e h2;rw[h3]at hx;have hsk:sameK k k=true:=(sameK_iff hk' hk').2 rfl
  have hlt:∀i,i<j→∀p,es[i]? =some p→sameK p.1 k=false:=fun i hij p hp=>by
   obtain⟨e',he1,he2,_⟩:=hc i p.1 p.2 hp;have hm:e'∈ms.toList:=by rw[Array.mem_toList_iff];exact Array.mem_of_getElem? he1
   cases hsk:sameK p.1 k with
   |false=>rfl
   |true=>
    have heq:=(sameK_iff (he2▸hall e' hm) hk').1 hsk;have hnd:=hs.2.2;have g1:(ms.toList.map (·.key))[i]? =some k:=by rw[List.getElem?_map,Array.getElem?_toList,he1,Option.map_some,he2,heq]
    have g2:(ms.toList.map (·.key))[j]? =some k:=by rw[List.getElem?_map,Array.getElem?_toList,h2,Option.map_some,h3]
    have hi':i<(ms.toList.map (·.key)).length:=(List.getElem?_eq_some_iff.1 g1).1
    have:=(List.getElem?_inj hi' hnd).1 (g1.trans g2.symm);omega
  exact .inr ⟨j,e,x,h1,h2,h3,hx,hr,lookM_some hx hsk hlt,fun y=>putM_some hx hsk hlt⟩
def constsA:List AV→Option (List Value)
 |[]=>some []
 | .c v::r=>if isAggV v=true then none else(constsA r).map (v:: ·)
 |_=>none
def keyA:AV→Option Value
 | .c v=>some v
 | .agg xs=>(constsA xs).map fun vs=> .agg vs.toArray
 |_=>none
theorem constsA_ok{E:Env}{W:World}:∀(xs:List AV) (vs us:List Value),constsA xs=some vs→xs.length=us.length→(∀(i:Nat) x v,xs[i]? =some x→us[i]? =some v→RV E W x v)→us=vs
 |[],vs,us,h,hl,_=>by
  simp only[constsA,Option.some.injEq]at h;subst h;exact List.eq_nil_of_length_eq_zero hl.symm
 |x::xs,vs,us,h,hl,hr=>by
  cases us with
  |nil=>simp at hl
  |cons u us=>
   cases x<;>simp only[constsA,reduceCtorEq]at h
   rename_i v;split at h
   ·cases h
   ·obtain⟨ws,h1,h2⟩:=map_some0 h
    subst h2;have h3:=hr 0 _ u rfl rfl;cases h3;rw[constsA_ok xs ws us h1 (by simpa using hl) fun i x v g1 g2=>hr (i+1) x v (by simpa using g1) (by simpa using g2)]
theorem keyA_ok{E:Env}{W:World}{a:AV}{k v:Value}(h:keyA a=some k)(r:RV E W a v):v=k:=by
 cases a<;>simp only[keyA,reduceCtorEq]at h
 ·injection h with h;subst h;cases r;rfl
 ·obtain⟨vs,h1,h2⟩:=map_some0 h
  subst h2;cases r with
  |agg _ us hl hc=>
  have:=constsA_ok _ _ us.toList h1 (by simpa using hl) fun i x v g1 g2=>hc i x v g1 (by simpa using g2)
  rw[←this]
theorem ok_lookup{t kt e:TypeId}{d:TypeDesc}{m x:Operand}{ok:Bool}{id:Nat}{es:List (Value×AV)}{kv:Value}{z:AV}(ht:mapT P t=some (kt,e,d))(hz:zeroA P e=some z)(hm:g m=some (.omap id))(hg:G id=some (.map es))
  {xa:AV} (hx:g x=some xa) (hxk:keyA xa=some kv) (hk:isKeyB d kv=true) (hes:keysB d es=true):
  OpOK P g G nid ⟨dst,.lookup t m x ok,ty,pos,after,guard⟩ (if ok=true then .tup [(lookM kv es).getD z,.c (.bool (lookM kv es).isSome)]else(lookM kv es).getD z) G:=
 .still fun E W ρ hG hρ=>by
   have hm1:=hρ m _ hm;have hx1:=hρ x _ hx;generalize hρm:ρ m=vm at hm1;generalize hρx:ρ x=vx at hx1;obtain rfl:=(keyA_ok hxk hx1).symm;cases hm1;obtain⟨hu,hku⟩:=mapT_ok ht;obtain⟨zv,hzr,hzv⟩:=zeroA_ok hz;obtain⟨⟨ms,clock,h1,h2,h3,h4⟩,_,_⟩:=(hG.ok id _ hg).2;obtain⟨hall,hf⟩:=findM_ok hku h2.1 h3 h4 hk hes;have e1:=MapKept.run_getObj_map (P:=P) h1;have e3:=check_keys (P:=P) (W:=W) hku (isKeyB_ok hk) ms.isEmpty
   rcases hf with⟨f1,f2,f3,_⟩|⟨j,e',y,f1,f2,f3,f4,f5,f6,_⟩
   ·have e4:=f1
    have hr:(Instr.lookup t (.map (some (E.ι id))) kv ok).run P W= .ok (if ok=true then .tuple #[zv,.bool false]else zv) W:=by
     simp[Instr.lookup,Sem.run_bind,run_underlying hu,Result.andThen,e1,e3,e4,hzr]
    refine⟨_,by simp only[execOp,hρm,hρx];rw[Sem.run_bind,hr];rfl,?_⟩
    rw[f3];cases ok with
    |false=>exact hzv E W
    |true=>
     refine .tup _ _ rfl fun i a v ha hv=> ?_
     rcases i with _|_|i
     ·simp at ha hv;subst ha;subst hv;exact hzv E W
     ·simp at ha hv;subst ha;subst hv;exact .c _ rfl
     ·simp at ha
   ·have e4:=f1
    have hr:(Instr.lookup t (.map (some (E.ι id))) kv ok).run P W= .ok (if ok=true then .tuple #[e'.val,.bool true]else e'.val) W:=by
     simp[Instr.lookup,Sem.run_bind,run_underlying hu,Result.andThen,e1,e3,e4]
    refine⟨_,by simp only[execOp,hρm,hρx];rw[Sem.run_bind,hr];rfl,?_⟩
    rw[f6];cases ok with
    |false=>exact f5
    |true=>
     refine .tup _ _ rfl fun i a v ha hv=> ?_
     rcases i with _|_|i
     ·simp at ha hv;subst ha;subst hv;exact f5
     ·simp at ha hv;subst ha;subst hv;exact .c _ rfl
     ·simp at ha
theorem ok_lenMap{t kt e:TypeId}{d:TypeDesc}{m:Operand}{id:Nat}{es:List (Value×AV)}(ht:mapT P t=some (kt,e,d))(hm:g m=some (.omap id))(hg:G id=some (.map es)):
  OpOK P g G nid ⟨dst,.call ⟨.builtin .len,#[m],#[t]⟩,ty,pos,after,guard⟩ (.c (.int .i64 es.length)) G:=
 .still fun E W ρ hG hρ=>by
   have hm1:=hρ m _ hm;generalize hρm:ρ m=vm at hm1;cases hm1;obtain⟨hu,hku⟩:=mapT_ok ht;obtain⟨⟨ms,clock,h1,h2,h3,h4⟩,_,_⟩:=(hG.ok id _ hg).2;refine⟨.int .i64 es.length,?_,.c _ rfl⟩;rw[run_callB];simp[builtin,hρm,Builtin.len_,run_underlying hu,MapKept.run_getObj_map h1,goInt,Result.andThen,h3,Sem.run_bind]
theorem Evo.setMap{E:Env}{W:World}{G:Nat→Option Blk}{id:Nat}(hU:E.U id){ms:Array MapEntry}{clock:Nat}(hb:W.heap[E.ι id]? =some (.map ms clock))(hL:E.L (E.ι id)=0)(ms':Array MapEntry)(clock':Nat):
  Evo E W E {W with heap:=W.heap.setIfInBounds (E.ι id) (.map ms' clock')}where
 os:=rfl
 tape:=rfl
 output:=rfl
 size:=by simp
 used:=fun _ h=>h
 ren:=fun _ _=>⟨rfl,rfl⟩
 lim:=fun _=>Nat.le_refl _
 prot:=fun b k hk=>by
  have hne:b≠E.ι id:=fun e=>by subst e;omega
  have:=(MapKept.heap_set (w:=W) (o':= .map ms' clock') hb).2 b hne;unfold World.cell?;simp only[this]
 foreign:=fun b _ hf=>(MapKept.heap_set (w:=W) (o':= .map ms' clock') hb).2 b fun e=>hf id hU e.symm
 sizes:=fun b c e f h=>by
  have hne:b≠E.ι id:=fun e=>by subst e;rw[hb]at h;cases h
  exact⟨c,f,by rw[(MapKept.heap_set (w:=W) (o':= .map ms' clock') hb).2 b hne];exact h,rfl⟩
 still:=fun _ _ _=>rfl
 fresh:=fun id h h'=>absurd h' h
 loops:=fun b r h=>by
  have hne:b≠E.ι id:=fun e=>by subst e;rw[hb]at h;cases h
  exact⟨r,by rw[(MapKept.heap_set (w:=W) (o':= .map ms' clock') hb).2 b hne];exact h,rfl⟩
theorem ok_mapUpdate{t kt e:TypeId}{d:TypeDesc}{m x y:Operand}{id:Nat}{es:List (Value×AV)}{kv:Value}{a:AV}(ht:mapT P t=some (kt,e,d))(hm:g m=some (.omap id))(hg:G id=some (.map es))
  {xa:AV} (hx:g x=some xa) (hxk:keyA xa=some kv) (hy:g y=some a) (hk:isKeyB d kv=true) (hes:keysB d es=true):
  OpOK P g G nid ⟨dst,.mapUpdate t m x y,ty,pos,after,guard⟩ (.c undef) (upd G [(id,some (.map (putM kv a es)))]):=fun E W ρ hG hnid hρ=>by
 have hm1:=hρ m _ hm;have hx1:=hρ x _ hx;have hy1:=hρ y _ hy;generalize hρm:ρ m=vm at hm1;generalize hρx:ρ x=vx at hx1;generalize hρy:ρ y=vy at hy1;obtain rfl:=(keyA_ok hxk hx1).symm;cases hm1;obtain⟨hu,hku⟩:=mapT_ok ht;obtain⟨hU,⟨ms,clock,h1,h2,h3,h4⟩,hL,hone⟩:=hG.ok id _ hg;obtain⟨hall,hf⟩:=findM_ok hku h2.1 h3 h4 hk hes;have e1:=MapKept.run_getObj_map (P:=P) h1;have e3:=check_keys (P:=P) (W:=W) hku (isKeyB_ok hk) false
 have fin:∀(ms':Array MapEntry) (clock':Nat),(Instr.mapUpdate t (.map (some (E.ι id))) kv vy).run P W= .ok () {W with heap:=W.heap.setIfInBounds (E.ι id) (.map ms' clock')}→
   StampedI ms' clock'→ms'.size=(putM kv a es).length→(∀(i:Nat) k x,(putM kv a es)[i]? =some (k,x)→∃e,ms'[i]? =some e∧e.key=k∧RV E W x e.val)→
   ∃W' v E',((execOp ρ ⟨dst,.mapUpdate t m x y,ty,pos,after,guard⟩).run P W= .ok (.value v) W'∨((execOp ρ ⟨dst,.mapUpdate t m x y,ty,pos,after,guard⟩).run P W= .ok .skip W'∧v=undef))∧Evo E W E' W'∧
    RC E' W' (upd G [(id,some (.map (putM kv a es)))])∧RV E' W' (.c undef) v∧(∀q,E'.U q→E.U q∨(q=nid∧(upd G [(id,some (.map (putM kv a es)))] nid).isSome=true)):=by
  intro ms' clock' hr hs' hl' hc';have hv:=Evo.setMap (G:=G) hU h1 hL ms' clock';obtain⟨hs1,hs2⟩:=MapKept.heap_set (w:=W) (o':= .map ms' clock') h1;refine⟨_,undef,E,.inr ⟨?_,rfl⟩,hv,⟨fun b hb=>hG.lim b (by simpa using hb),fun id' h=>by simpa using hG.inW id' h,fun id' b h=> ?_⟩,.c _ rfl,fun _ h=> .inl h⟩
  ·simp only[execOp,hρm,hρx,hρy]
   rw[Sem.run_bind,hr];rfl
  ·by_cases hid:id'=id
   ·subst hid
    simp only[upd,if_true,Option.some.injEq]at h;subst h;refine⟨hU,⟨ms',clock',hs1,hs',hl',fun i k x hx=> ?_⟩,hL,fun id'' b'' hne hg'=> ?_⟩
    ·obtain⟨e,he1,he2,he3⟩:=hc' i k x hx
     exact⟨e,he1,he2,he3.mono hv⟩
    ·simp only[upd,hne,if_false]at hg'
     exact hone id'' b'' hne hg'
   ·simp only[upd,hid,if_false]at h
    obtain⟨g2,g3⟩:=hG.ok id' b h;have hι:E.ι id'≠E.ι id:=hone id' b hid h;refine⟨g2,g3.mono hv g2 (hs2 _ hι) rfl fun id'' b'' hne hg' he=> ?_⟩
    by_cases hid'':id''=id
    ·subst hid'';exact absurd he.symm hι
    ·simp only[upd,hid'',if_false]at hg'
     exact⟨b'',hg',he,rfl,fun h=>h⟩
 rcases hf with⟨f1,f2,f3,f4⟩|⟨j,e',y',f1,f2,f3,f4,f5,f6,f7⟩
 ·have e4:=f1
  refine fin (ms.push ⟨kv,vy,clock⟩) (clock+1) ?_ ⟨MapKept.stamped_push h2.1 f2,by rw[h2.2.1];simp,fun i e he=>by
   rw[Array.getElem?_push]at he;split at he
   ·rename_i q;injection he with he;subst he;rw[q,h2.2.1]
   ·exact h2.2.2 i e he⟩ (by rw[f4];simp[h3]) fun i k x hx=> ?_
  ·have e2:=MapKept.run_setObj_map (P:=P) (w:=W) (.map (ms.push ⟨kv,vy,clock⟩) (clock+1)) h1
   simp only[Instr.mapUpdate,Sem.run_bind,run_underlying hu,Result.andThen,e1,e3,e4,e2]
  ·rw[f4]at hx
   by_cases hi:i<es.length
   ·rw[List.getElem?_append_left hi]at hx
    obtain⟨e,he1,he2,he3⟩:=h4 i k x hx;exact⟨e,by rw[Array.getElem?_push_lt (by omega)];rw[Array.getElem?_eq_getElem (by omega)]at he1;exact he1,he2,he3⟩
   ·have hi2:i=es.length:=by
     have:=(List.getElem?_eq_some_iff.1 hx).1;simp at this;omega
    subst hi2;simp only[List.getElem?_append_right (Nat.le_refl _),Nat.sub_self,List.getElem?_cons_zero,Option.some.injEq,Prod.mk.injEq]at hx;obtain⟨rfl,rfl⟩:=hx;exact⟨⟨kv,vy,clock⟩,by rw[←h3];simp,rfl,hy1⟩
 ·have e4:=f1
  have e5:=stays_keys (P:=P) (W:=W) (isKeyB_ok hk)
  have hjk:∀e∈ms.toList,ms[j]? =some e→({e with key:=kv,val:=vy}:MapEntry).key=e.key:=fun e _ h=>by
   rw[f2]at h;injection h with h;subst h;exact f3.symm
  refine fin (ms.modify j fun e=>{e with key:=kv,val:=vy}) clock ?_ ⟨MapKept.stamped_modify h2.1 j _ (fun _ _=>rfl) hjk,by rw[h2.2.1];simp,fun i e he=>by
   rw[Array.getElem?_modify]at he;split at he
   ·rename_i q
    subst q;rw[f2]at he;simp only[Option.map_some,Option.some.injEq]at he;subst he;exact(h2.2.2 j e' f2:e'.born=j)
   ·exact h2.2.2 i e he⟩ (by rw[f7];simp[h3]) fun i k x hx=> ?_
  ·have e2:=MapKept.run_setObj_map (P:=P) (w:=W) (.map (ms.modify j fun e=>{e with key:=kv,val:=vy}) clock) h1
   have e6:((ms[j]?).map (·.key)).getD kv=kv:=by rw[f2];simp[f3]
   simp only[Instr.mapUpdate,Sem.run_bind,run_underlying hu,Result.andThen,e1,e3,e4,e6,e5,e2]
  ·rw[f7]at hx
   have hj:j<ms.size:=(Array.getElem?_eq_some_iff.1 f2).1;by_cases hij:i=j
   ·subst hij
    rw[List.getElem?_set_self (by omega)]at hx
    injection hx with hx
    obtain⟨rfl,rfl⟩:=Prod.mk.inj hx;refine⟨{e' with key:=kv,val:=vy},by rw[Array.getElem?_modify];simp[f2],rfl,hy1⟩
   ·rw[List.getElem?_set_ne (Ne.symm hij)]at hx
    obtain⟨e,he1,he2,he3⟩:=h4 i k x hx;exact⟨e,by rw[Array.getElem?_modify];simp[Ne.symm hij,he1],he2,he3⟩
theorem ok_makeMap{t:TypeId}:OpOK P g G nid ⟨dst,.makeMap t none,ty,pos,after,guard⟩ (.omap nid) (upd G [(nid,some (.map []))]):=fun E W ρ hG hnid hρ=>by
 have hv:=Evo.alloc hG hnid (.map #[] 0) 0;refine⟨_,.map (some W.heap.size),_,.inl ?_,hv,⟨fun b hb=>hG.lim b (by simp at hb;omega),fun id h=> ?_,fun id b h=> ?_⟩,?_,fun id h=>h.imp (fun h=>h) (fun e=>⟨e,by simp[upd]⟩)⟩
 ·simp only[execOp]
  rfl
 ·rcases h with h|h
  ·have hne:id≠nid:=fun e=>hnid (e▸h)
   have:=hG.inW id h;simp[Env.more,hne];omega
  ·subst h;simp[Env.more]
 ·by_cases hid:id=nid
  ·subst hid
   simp only[upd,if_true,Option.some.injEq]at h;subst h;refine⟨.inr rfl,⟨#[],0,by simp only[Env.more,if_true];exact heap_alloc_new W _,⟨MapKept.stamped_empty 0,rfl,fun i e h=>by simp at h⟩,rfl,fun i k x hx=>by simp at hx⟩,?_,fun id' b' hne hg=> ?_⟩
   ·simp only[Env.more,if_true];exact hG.lim _ (Nat.le_refl _)
   ·simp only[upd,hne,if_false]at hg
    have:=hG.inW id' (hG.ok id' b' hg).1;simp only[Env.more,hne,if_true,if_false];omega
  ·simp only[upd,hid,if_false]at h
   obtain⟨h1,h2⟩:=hG.ok id b h;have hlt:=hG.inW id h1;refine⟨.inl h1,h2.mono hv h1 (Below.heap_alloc W _ _ hlt) rfl fun id' b' hne hg he=> ?_⟩
   by_cases hn':id'=nid
   ·subst hn';simp only[Env.more,if_true]at he;omega
   ·simp only[upd,hn',if_false]at hg
    simp only[Env.more,hn',if_false]at he;exact⟨b',hg,he,rfl,fun h=>h⟩
 ·have:=RV.omap (E:=E.more nid W.heap.size 0) (W:=W.alloc (.map #[] 0)) nid (.inr rfl)
  simpa[Env.more]using this
def avK:Value→AV
 | .agg cs=> .agg (cs.toList.map AV.c)
 |v=> .c v
theorem avK_ok{E:Env}{W:World}{d:TypeDesc}{k:Value}(h:isKeyB d k=true):RV E W (avK k) k:=by
 have h2:=isKeyB_ok h;by_cases hd:∃n e,d= .array n e
 ·obtain⟨n,e,rfl⟩:=hd
  obtain⟨l,_,rfl⟩:=isK_arr h2;exact rv_ints E W l
 ·have h3:=isK_prim (fun n e h=>hd ⟨n,e,h⟩) h2
  cases d<;>cases k<;>simp only[MapKept.IsKey]at h3<;>exact .c _ rfl
theorem ok_range{t kt e:TypeId}{d:TypeDesc}{m:Operand}{id:Nat}{es:List (Value×AV)}(ht:mapT P t=some (kt,e,d))(hm:g m=some (.omap id))(hg:G id=some (.map es)):
  OpOK P g G nid ⟨dst,.range t m,ty,pos,after,guard⟩ (.ptr nid 0 0) (upd G [(nid,some (.iter id es.length []))]):=fun E W ρ hG hnid hρ=>by
 have hm1:=hρ m _ hm;generalize hρm:ρ m=vm at hm1;cases hm1;obtain⟨hu,hku⟩:=mapT_ok ht;obtain⟨hU,⟨ms,clock,h1,h2,h3,h4⟩,_,_⟩:=hG.ok id _ hg;have hcl:clock=es.length:=by rw[h2.2.1,h3]
 subst hcl;have hv:=Evo.alloc hG hnid (.mapIter (some (E.ι id)) es.length #[] es.length) 0;have hidn:id≠nid:=fun e=>hnid (e▸hU)
 refine⟨_,.pointer (some ⟨W.heap.size,0,none⟩),_,.inl ?_,hv,⟨fun b hb=>hG.lim b (by simp at hb;omega),fun id h=> ?_,fun id b h=> ?_⟩,?_,fun id h=>h.imp (fun h=>h) (fun e=>⟨e,by simp[upd]⟩)⟩
 ·simp only[execOp,hρm]
  rw[Sem.run_bind];simp[Instr.range,run_underlying hu,MapKept.run_getObj_map h1]
 ·rcases h with h|h
  ·have hne:id≠nid:=fun e=>hnid (e▸h)
   have:=hG.inW id h;simp[Env.more,hne];omega
  ·subst h;simp[Env.more]
 ·by_cases hid:id=nid
  ·subst hid
   simp only[upd,if_true,Option.some.injEq]at h;subst h;refine⟨.inr rfl,⟨?_,.inl hU⟩,?_,fun id' b' hne hg=> ?_⟩
   ·simp only[Env.more,if_true,hidn,if_false];exact heap_alloc_new W _
   ·simp only[Env.more,if_true];exact hG.lim _ (Nat.le_refl _)
   ·simp only[upd,hne,if_false]at hg
    have:=hG.inW id' (hG.ok id' b' hg).1;simp only[Env.more,hne,if_true,if_false];omega
  ·simp only[upd,hid,if_false]at h
   obtain⟨h1,h2⟩:=hG.ok id b h;have hlt:=hG.inW id h1;refine⟨.inl h1,h2.mono hv h1 (Below.heap_alloc W _ _ hlt) rfl fun id' b' hne hg he=> ?_⟩
   by_cases hn':id'=nid
   ·subst hn';simp only[Env.more,if_true]at he;omega
   ·simp only[upd,hn',if_false]at hg
    simp only[Env.more,hn',if_false]at he;exact⟨b',hg,he,rfl,fun h=>h⟩
 ·have:=RV.ptr (E:=E.more nid W.heap.size 0) (W:=W.alloc (.mapIter (some (E.ι id)) es.length #[] es.length)) nid 0 0 (.inr rfl)
  simpa[Env.more]using this
theorem ok_entry{d:TypeDesc}{x:Operand}{id m n i:Nat}{seen:List Nat}{es:List (Value×AV)}{k:Value}{a:AV}(hx:g x=some (.ptr id 0 0))(hg:G id=some (.iter m n (seen++[i])))(hm:G m=some (.map es))
  (hn:es.length=n) (he:es[i]? =some (k,a)) (hk:isKeyB d k=true):OpOK P g G nid ⟨dst,.entry x,ty,pos,after,guard⟩ (.tup [avK k,a]) G:=
 .still fun E W ρ hG hρ=>by
   have hx1:=hρ x _ hx;generalize hρx:ρ x=vx at hx1;cases hx1;obtain⟨⟨ms,clock,h1,h2,h3,h4⟩,_,_⟩:=(hG.ok m _ hm).2;obtain⟨⟨h5,h7⟩,_,_⟩:=(hG.ok id _ hg).2;have hcl:clock=n:=by rw[h2.2.1,h3,hn]
   subst hcl;obtain⟨en,he1,he2,he3⟩:=h4 i k a he;have hb:en.born=i:=h2.2.2 i en he1;have hmem:en∈ms.toList:=by rw[Array.mem_toList_iff];exact Array.mem_of_getElem? he1
   have hf:ms.find? (·.born==i)=some en:=by rw[←Array.find?_toList,←hb];exact find_born en ms.toList h2.1.2.1 hmem
   have hbk:(seen++[i]).toArray.back? =some i:=by simp
   refine⟨.tuple #[en.key,en.val],?_,.tup _ _ rfl fun j y v hy hv=> ?_⟩
   ·simp only[execOp,hρx,Nat.zero_mul,Nat.add_zero]
    rw[Sem.run_bind];simp only[Instr.entry,getObj,Sem.run_bind,Sem.run,h5,Result.andThen,h1,hbk,bne_self_eq_false,Bool.false_eq_true,if_false,hf];rfl
   ·rcases j with _|_|j
    ·simp at hy hv;subst hy;subst hv;rw[he2];exact avK_ok hk
    ·simp at hy hv;subst hy;subst hv;exact he3
    ·simp at hy
theorem run_next_any{W:World}{r bm n clock:Nat}{seen:List Nat}{ms:Array MapEntry}{ty:TypeId}(hr:W.heap[r]? =some (.mapIter (some bm) n seen.toArray n))(hb:W.heap[bm]? =some (.map ms clock))(hs:StampedI ms clock)(hn:ms.size=n):
  ((∀i,i<n→i∈seen)∧(Instr.next (.pointer (some ⟨r,0,none⟩)) false ty).run P W= .ok (.tuple #[.bool false]) W)∨
  ∃i e,i<n∧i∉seen∧ms[i]? =some e∧∃w1,(w1=W∨w1=W.drew)∧(Instr.next (.pointer (some ⟨r,0,none⟩)) false ty).run P W= .ok (.tuple #[.bool true,e.key,e.val]) {w1 with heap:=w1.heap.setIfInBounds r (.mapIter (some bm) n (seen++[i]).toArray n)}:=by
 have hcl:clock=n:=by rw[hs.2.1,hn]
 subst hcl;have hborn:∀e∈ms.toList,e.born<clock:=fun e he=>hs.1.1 e he
 simp only[Instr.next,getObj,Sem.run_bind,Sem.run,hr,hb,Result.andThen,next_test_false seen.toArray ms clock clock hborn (Nat.le_refl _),Bool.false_eq_true,if_false]
 have hmem:∀x∈(Array.filter (fun e=> !seen.toArray.contains e.born) ms).toList,x∈ms.toList∧x.born∉seen:=fun x hx=>by
  simp at hx;exact⟨Array.mem_toList_iff.2 hx.1,hx.2⟩
 have hall:∀x∈ms.toList,x.born∉seen→x∈(Array.filter (fun e=> !seen.toArray.contains e.born) ms).toList:=fun x hx h=>by
  simp;exact⟨Array.mem_toList_iff.1 hx,h⟩
 generalize Array.filter (fun e=> !seen.toArray.contains e.born) ms=L at hmem hall⊢
 have e1:L.filter (fun x=>decide (x.born<clock))=L:=Array.filter_eq_self.2 (fun x hx=>by simpa using hborn x (hmem x (by simpa using hx)).1)
 have e2:L.filter (fun x=>decide (x.born≥clock))= #[]:=by
  rw[Array.filter_eq_empty_iff];intro x hx;have:=hborn x (hmem x (by simpa using hx)).1
  simp;omega
 simp only[e1,e2,Array.append_empty];by_cases h0:L.size=0
 ·left
  have:L= #[]:=Array.eq_empty_of_size_eq_zero h0;subst this;refine⟨fun i hi=> ?_,by simp[choose,Sem.run,Question.forced]⟩
  apply Classical.byContradiction;intro hns;have hg:ms[i]? =some ms[i]:=Array.getElem?_eq_getElem (by omega)
  have hbi:=hs.2.2 i _ hg;have:=hall ms[i] (by simp) (by rw[hbi];exact hns)
  simp at this
 ·right
  have hne:L.isEmpty=false:=by simp[Array.isEmpty,h0]
  simp only[hne,Bool.false_eq_true,if_false,Array.empty_append,Array.size_map]
  have hch:∃(j:Nat) (w1:World),j<L.size∧(w1=W∨w1=W.drew)∧(choose (Question.mapNext L.size)).run P W= .ok j w1:=by
   by_cases hf:L.size≤1
   ·exact⟨0,W,by omega,.inl rfl,by simp[choose,Sem.run,Question.forced,hf]⟩
   ·exact⟨_,W.drew,Nat.mod_lt _ (by omega),.inr rfl,by
     simp only[choose,Sem.run,Question.forced,decide_eq_true_eq,hf,if_false,Question.cut]
     rfl⟩
  obtain⟨j,w1,hj,hal,hrun⟩:=hch;obtain⟨h5,h6⟩:=hmem L[j] (by simp)
  obtain⟨i,hi⟩:=List.mem_iff_getElem?.1 h5;rw[Array.getElem?_toList]at hi;have hbi:=hs.2.2 i _ hi;have hil:i<clock:=by rw[←hn];exact(Array.getElem?_eq_some_iff.1 hi).1
  have hw1:w1.heap[r]? =some (.mapIter (some bm) clock seen.toArray clock):=by rcases hal with rfl|rfl<;>exact hr
  refine⟨i,L[j],hil,by rw[←hbi];exact h6,hi,w1,hal,?_⟩
  simp only[hrun,Array.getElem?_map,Array.getElem?_eq_getElem hj,Option.map_some,Sem.run_bind,Result.andThen,hbi];simp only[setObj,Sem.run,hw1];simp
end
end Go.AL
namespace Go.AL
open Go.RowKit
section
variable {P : Program} {g : Operand → Option AV} {G : Nat → Option Blk} {nid : Nat} {dst : Option Tmp} {ty : TypeId} {pos : String} {after : Array Edge} {guard : Option (Nat × Bool)}
theorem ok_appendNil0{a0:Option Addr}{t e:TypeId}{k:Nat}{x y:Operand}{b:AV}{rd:List Nat}(ht:sliceT P t=some (e,k))(hx:g x=some (.c (.slice a0 0 0)))(hy:g y=some b)(hb:rowsOf G b=some ([],rd)):
  OpOK P g G nid ⟨dst,.call ⟨.builtin .append,#[x,y],#[t,t]⟩,ty,pos,after,guard⟩ (.c (.slice a0 0 0)) G:=
 .still fun E W ρ hG hρ=>by
   have hx1:=hρ x _ hx;have hy1:=hρ y _ hy;generalize hρx:ρ x=vx at hx1;generalize hρy:ρ y=vy at hy1;obtain⟨base2,n2,cap2,rfl,hn2,_,_⟩:=rowsOf_ok hG hy1 hb;simp at hn2;subst hn2;cases hx1;refine⟨_,?_,.c _ rfl⟩;rw[run_callB];simp only[builtin,List.map_toArray,List.map_cons,List.map_nil,hρx,hρy];rw[Sem.run_bind,run_append_zero ht _ _ _ _ _ _ (Nat.le_refl _)];rfl
theorem ok_appendNil{a0:Option Addr}{t e:TypeId}{k by_:Nat}{zs:List AV}{x y:Operand}{rows2:List (List AV)}{b:AV}{rd:List Nat}(ht:sliceT P t=some (e,k))(hz:zeroT P e=some zs)(hzk:zs.length=k)(hby:bytesT P e=some by_)
  (hx:g x=some (.c (.slice a0 0 0))) (hy:g y=some b) (hb:rowsOf G b=some (rows2,rd)) (hne:rows2≠[]) (h1:rows2.all (fun r=>r.length==k&&r.all AV.one)=true)
  (h63:rows2.length≤9223372036854775807) (hfit:rows2.length*by_≤140737488355328):
  OpOK P g G nid ⟨dst,.call ⟨.builtin .append,#[x,y],#[t,t]⟩,ty,pos,after,guard⟩ (.own nid 0 rows2.length) (upd G [(nid,some (.cells e k rows2 true true))]):=fun E W ρ hG hnid hρ=>by
 have hx1:=hρ x _ hx;have hy1:=hρ y _ hy;generalize hρx:ρ x=vx at hx1;generalize hρy:ρ y=vy at hy1;cases hx1;obtain⟨hu,hk⟩:=sliceT_ok ht;obtain⟨i,z,hi,hz',hzr⟩:=zeroT_ok hz;have hik:=szT_info hi hk;have hibk:i.bytes=by_:=by simp[bytesT,hi]at hby;exact hby
 have h8:z.cells.size=k:=by have:=(hzr E W).1;simp at this;omega
 obtain⟨b2,p2,cap2,hv2,news,hnl,hnc,hn1,hnr⟩:=rows_flat hG hy1 hb hne h1;subst hv2;have hm0:0<rows2.length:=List.length_pos_iff.2 hne;have hnews:∀(j:Nat) u,news[j]? =some u→W.cell? ((⟨b2,p2,none⟩:Addr).add j)=some u:=fun j u hu=>by rw[Addr.add_lit];exact hnc j u hu
 have hr:(Builtin.append_ #[t,t] ty #[.slice a0 0 0,.slice (some ⟨b2,p2,none⟩) rows2.length cap2]).run P W= .ok (.slice (some ⟨W.heap.size,0,none⟩) rows2.length (grownCap W rows2.length 0 e)) (W.drew.alloc (.cells (news.toArray++Builtin.zeroCells z.cells (grownCap W rows2.length 0 e-rows2.length)) e)):=by
  cases a0 with
  |none=>exact run_append_nil (P:=P) W t ty e i z hu hi hz' ⟨b2,p2,none⟩ rows2.length cap2 news (by rw[hik];exact hnl) hnews hm0 (by omega) (by rw[hibk];omega)
  |some a1=>
   have h:=run_append_grow (P:=P) W t ty e i z hu hi hz' a1 0 0 [] (by simp) (fun j u hu=>by simp at hu) ⟨b2,p2,none⟩ rows2.length cap2 news (by rw[hik];exact hnl) hnews (by omega) (by simp;omega) (growslice_fits (by omega) (by rw[hibk];simpa using hfit))
   simpa using h
 have hge:=grownCap_ge W rows2.length 0 e
 have hsz2:(news.toArray++Builtin.zeroCells z.cells (grownCap W rows2.length 0 e-rows2.length)).size=grownCap W rows2.length 0 e*k:=by
  simp only[Array.size_append,List.size_toArray,hnl,size_zeroCells,h8,←Nat.add_mul];congr 1;omega
 have hmul:rows2.length*k≤grownCap W rows2.length 0 e*k:=Nat.mul_le_mul_right k hge;have hGd:=hG.drew
 have hal:=hGd.alloc hnid e (news.toArray++Builtin.zeroCells z.cells (grownCap W rows2.length 0 e-rows2.length)) k rows2 true true (all_len h1) (by omega) (fun i j row x h5 h6=>by
  obtain⟨v,h7,h9⟩:=hnr i j row x h5 h6;refine⟨v,?_,h9.mono (Evo.drew E W)⟩;have:i*k+j<news.length:=(List.getElem?_eq_some_iff.1 h7).1
  rw[Array.getElem?_append_left (by simpa using this)];simpa using h7)
 have hv:=(Evo.drew E W).trans (Evo.alloc hGd hnid (.cells (news.toArray++Builtin.zeroCells z.cells (grownCap W rows2.length 0 e-rows2.length)) e) k);refine⟨_,.slice (some ⟨W.heap.size,0,none⟩) rows2.length (grownCap W rows2.length 0 e),_,.inl ?_,hv,hal,?_,fun id h=>h.imp (fun h=>h) (fun e=>⟨e,by simp[upd]⟩)⟩
 ·rw[run_callB]
  simp only[builtin,List.map_toArray,List.map_cons,List.map_nil,hρx,hρy];rw[Sem.run_bind,hr];rfl
 ·have:=RV.own (E:=E.more nid W.drew.heap.size k) (W:=W.drew.alloc (.cells (news.toArray++Builtin.zeroCells z.cells (grownCap W rows2.length 0 e-rows2.length)) e)) nid 0 rows2.length (grownCap W rows2.length 0 e) (.inr rfl) hge
   ⟨_,e,(0,0),by simp only[Env.more,if_true];exact heap_alloc_new W.drew _,by simp only[Env.more,if_true];rw[hsz2];simp⟩
  simpa[Env.more]using this
theorem ok_makeSlice{t e:TypeId}{k by_:Nat}{zs:List AV}{x y:Operand}{kl kc:IntKind}{l c:Int}(ht:sliceT P t=some (e,k))(hz:zeroT P e=some zs)(hzk:zs.length=k)(hby:bytesT P e=some by_)
  (hx:g x=some (.c (.int kl l))) (hy:g y=some (.c (.int kc c))) (h0:0≤l) (hlc:l≤c) (h63:c≤9223372036854775807) (hfit:(by_:Int)*c≤281474976710656):
  OpOK P g G nid ⟨dst,.makeSlice t x y,ty,pos,after,guard⟩ (.own nid 0 l.toNat) (upd G [(nid,some (.cells e k (List.replicate l.toNat zs) true true))]):=fun E W ρ hG hnid hρ=>by
 have hx1:=hρ x _ hx;have hy1:=hρ y _ hy;generalize hρx:ρ x=vx at hx1;generalize hρy:ρ y=vy at hy1;cases hx1;cases hy1;obtain⟨hu,hk⟩:=sliceT_ok ht;obtain⟨i,z,hi,hz',hzr⟩:=zeroT_ok hz;have hik:=szT_info hi hk;have hibk:i.bytes=by_:=by simp[bytesT,hi]at hby;exact hby
 have h8:z.cells.size=k:=by have:=(hzr E W).1;simp at this;omega
 have hr:=run_make (P:=P) W t e i z hu hi hz' kl kc l c h0 hlc (by rw[hibk];exact hfit) h63
 rw[hik]at hr;have hmul:l.toNat*k≤c.toNat*k:=Nat.mul_le_mul_right k (by omega)
 have hrow:∀(i:Nat) row,(List.replicate l.toNat zs)[i]? =some row→i<l.toNat∧row=zs:=fun i row hr=>by
  rw[List.getElem?_replicate]at hr;split at hr
  ·rename_i h;injection hr with hr;exact⟨h,hr.symm⟩
  ·cases hr
 have hal:=hG.alloc hnid e (madeCells z.cells (c.toNat*k)) k (List.replicate l.toNat zs) true true (fun i row hr=>by rw[(hrow i row hr).2];exact hzk) (by rw[size_madeCells];simpa using hmul) (fun i j row x h5 h6=>by
  obtain⟨h9,rfl⟩:=hrow i row h5;obtain⟨v,h7,h10⟩:=(hzr E W).get h6;have hj:j<k:=by rw[←hzk];exact(List.getElem?_eq_some_iff.1 h6).1
  have hlt:=idx_lt h9 hj;refine⟨v,?_,h10⟩;have hmod:(i*k+j) % k=j:=by rw[Nat.mul_comm,Nat.mul_add_mod];exact Nat.mod_eq_of_lt hj
  have hjz:j<z.cells.size:=by omega
  have hv:z.cells[j]? =some v:=by simpa using h7
  have hlt2:i*k+j<c.toNat*k:=by omega
  unfold madeCells
  rw[Array.getElem?_map,Array.getElem?_range,if_pos hlt2,Option.map_some,h8,hmod,getElem!_def,hv])
 refine⟨_,.slice (some ⟨W.heap.size,0,none⟩) l.toNat c.toNat,_,.inl ?_,Evo.alloc hG hnid (.cells (madeCells z.cells (c.toNat*k)) e) k,hal,?_,fun id h=>h.imp (fun h=>h) (fun e=>⟨e,by simp[upd]⟩)⟩
 ·simp only[execOp,hρx,hρy]
  rw[Sem.run_bind,hr];rfl
 ·have:=RV.own (E:=E.more nid W.heap.size k) (W:=W.alloc (.cells (madeCells z.cells (c.toNat*k)) e)) nid 0 l.toNat c.toNat (.inr rfl) (by omega)
   ⟨_,e,(0,0),by simp only[Env.more,if_true];exact heap_alloc_new W _,by simp only[Env.more,if_true];rw[size_madeCells];simp⟩
  simpa[Env.more]using this
theorem ok_nilPtr{x:Operand}{id i o:Nat}(hx:g x=some (.ptr id i o)):OpOK P g G nid ⟨dst,.nilCheck x,ty,pos,after,guard⟩ (.ptr id i o) G:=
 .still fun E W ρ hG hρ=>by
   have hx1:=hρ x _ hx;generalize hρx:ρ x=vx at hx1;refine⟨vx,?_,hx1⟩;cases hx1;simp[execOp,hρx]
theorem ok_nilSptr{x:Operand}{rows:List (List AV)}{i o:Nat}(hx:g x=some (.sptr rows i o)):OpOK P g G nid ⟨dst,.nilCheck x,ty,pos,after,guard⟩ (.sptr rows i o) G:=
 .still fun E W ρ hG hρ=>by
   have hx1:=hρ x _ hx;generalize hρx:ρ x=vx at hx1;refine⟨vx,?_,hx1⟩;cases hx1;simp[execOp,hρx]
end
def getsA(g:Operand→Option AV):List Operand→Option (List AV)
 |[]=>some []
 |x::r=>match g x,getsA g r with
  |some a,some l=>some (a::l)
  |_,_=>none
theorem getsA_ok{E:Env}{W:World}{g:Operand→Option AV}{ρ:Operand→Value}(hρ:∀x b,g x=some b→RV E W b (ρ x)):∀(xs:List Operand) (as:List AV),getsA g xs=some as→RVs E W as (xs.map ρ)
 |[],as,h=>by simp only[getsA,Option.some.injEq]at h;subst h;exact .nil
 |x::r,as,h=>by
  simp only[getsA]at h;split at h
  ·rename_i a l ha hl
   injection h with h
   subst h;exact .cons (hρ x a ha) (getsA_ok hρ r l hl)
  ·cases h
theorem ok_makeFuncs{P:Program}{g:Operand→Option AV}{G:Nat→Option Blk}{nid:Nat}{dst:Option Tmp}{ty:TypeId}{pos:String}{after:Array Edge}{guard:Option (Nat×Bool)}{fn:Fn}{first captured:Array Operand}{fs cs:List AV}
  (hf:getsA g first.toList=some fs) (hc:getsA g captured.toList=some cs):OpOK P g G nid ⟨dst,.makeFunc fn first captured,ty,pos,after,guard⟩ (.fn fn fs cs) G:=
 .still fun E W ρ hG hρ=>by
   have h1:=getsA_ok hρ _ _ hf;have h2:=getsA_ok hρ _ _ hc;exact⟨.func fn (first.map ρ) (captured.map ρ),by simp[execOp,Instr.makeFunc],.fn fn fs cs _ _ (by simpa using h1.1) (by simpa using h2.1) (fun i x v hx hv=>h1.2 i x v hx (by simpa using hv)) (fun i x v hx hv=>h2.2 i x v hx (by simpa using hv))⟩
abbrev Res:=AV×List (Nat×Option Blk)×List Nat
section
variable (P : Program) (g : Operand → Option AV) (G : Nat → Option Blk) (nid : Nat)
def resPick(b p q:Option AV):Option Res:=
 match b with
 |some (.c (.bool b))=>match p,q with
  |some (.c (.bool p)),some (.c (.bool q))=>some (.c (.bool (cond b p q)),[],[])
  |_,_=>match b with
   |true=>p.map fun a=>(a,[],[])
   |false=>q.map fun a=>(a,[],[])
 |_=>none
def nilV:Value→Bool
 | .slice none n c=>n==0&&c==0
 |_=>false
def resBinC(op:BinOp)(t:TypeId)(x:AV)(b:Value):Option Res:=
 match nilV b with
 |true=>match sliceT P t,nilA x with
  |some _,some r=>(eqOut op r).map fun v=>(.c v,[],[])
  |_,_=>none
 |false=>match x with
  | .c a=>(binV P op t a b).map fun v=>(.c v,[],[])
  |_=>none
def resBin(op:BinOp)(t:TypeId):Option AV→Option AV→Option Res
 |some x,some (.c b)=>resBinC P op t x b
 |some (.agg xs),some (.agg ys)=>match eqTop P t (.agg xs) (.agg ys)with
  |some r=>(eqOut op r).map fun v=>(.c v,[],[])
  |none=>none
 |_,_=>none
def resUn:UnOp→Option AV→Option Res
 | .not,some (.c (.bool b))=>some (.c (.bool (!b)),[],[])
 | .neg,some (.c (.int k n))=>some (.c (.int k (k.wrap (0-n))),[],[])
 | .xor,some (.c (.int k n))=>some (.c (.int k (bits .xor k (if k.signed then-1 else k.max) n)),[],[])
 |_,_=>none
def resConv(src t:TypeId):Option AV→Option Res
 |some (.c (.int _ n))=>match intT P src,intT P t with
  |some _,some kd=>some (.c (.int kd (kd.wrap n)),[],[])
  |_,_=>none
 |_=>none
def byteA:List AV→Option Int
 |[.c (.int .u8 n)]=>some n
 |_=>none
def strA:List (List AV)→Option (List Int)
 |[]=>some []
 |r::rs=>match byteA r,strA rs with
  |some n,some l=>some (n::l)
  |_,_=>none
def strB(l:List Int):ByteArray:=l.foldl (fun r n=>r.push (UInt8.ofNat n.toNat)) ByteArray.empty
def resStr(src t:TypeId)(a:Option AV):Option Res:=
 match isT P t isString with
 |true=>match sliceT P src,a.bind (rowsOf G)with
  |some (e,1),some (rows,rd)=>match intT P e,strA rows with
   |some .u8,some l=>some (.c (.string (strB l)),[],rd)
   |_,_=>none
  |_,_=>none
 |false=>none
def resConvG(src t:TypeId):Option AV→Option Res
 |some (.c (.int k n))=>resConv P src t (some (.c (.int k n)))
 |a=>resStr P G src t a
def resArr(t:TypeId):Option AV→Option Res
 |some (.snap rows)=>match arrT P t with
  |some (n,_,k)=>if k=1∧0<n∧n≤rows.length∧rows.all (fun r=>r.length==1)=true then some (.sptr [(rows.take n).flatten] 0 0,[],[])else none
  |none=>none
 |_=>none
def resCap(t:TypeId):Option AV→Option Res
 |some (.c (.slice _ _ c))=>match sliceT P t with
  |some _=>some (.c (.int .i64 c),[],[])
  |none=>none
 |_=>none
def resAppendZ(t t':TypeId):Option AV→Option AV→Option Res
 |some (.c (.slice none 0 0)),some (.c (.int _ n))=>match sliceT P t,intT P t' with
  |some (e,k),some _=>match zeroT P e,bytesT P e with
   |some zs,some by_=>if zs.length=k∧0<k∧0<n∧n≤9223372036854775807∧n*by_≤281474976710656 then some (.own nid 0 n.toNat,[(nid,some (.cells e k (List.replicate n.toNat zs) true true))],[])else none
   |_,_=>none
  |_,_=>none
 |_,_=>none
def resExtract(i:Nat):Option AV→Option Res
 |some (.tup xs)=>(xs[i]?).map fun a=>(a,[],[])
 |_=>none
def resField(t:TypeId)(f:Nat):Option AV→Option Res
 |some (.agg xs)=>match fieldT P t f with
  |some (off,_,ft)=>(partA P ft xs off).map fun a=>(a,[],[])
  |none=>none
 |_=>none
def resFieldAddr(t:TypeId)(f:Nat):Option AV→Option Res
 |some (.ptr id i o)=>match fieldT P t f with
  |some (off,k,_)=>if k≠0 then some (.ptr id i (o+off),[],[])else none
  |none=>none
 |some (.sptr rows i o)=>match fieldT P t f with
  |some (off,k,_)=>if k≠0 then some (.sptr rows i (o+off),[],[])else none
  |none=>none
 |_=>none
def resLoad(t:TypeId):Option AV→Option Res
 |some p=>match deref G p with
  |some (row,o,rd)=>(partA P t row o).map fun a=>(a,[],rd)
  |none=>none
 |none=>none
def resStore(t:TypeId):Option AV→Option AV→Option Res
 |some (.ptr id i o),some a=>match G id with
  |some (.cells e s rows true ap)=>match rows[i]?,szT P t with
   |some row,some k=>if a.cells.length=k∧o+k≤row.length∧a.cells.all AV.one=true then some (.c undef,[(id,some (.cells e s (rows.set i (spl row o a.cells)) true ap))],[id])else none
   |_,_=>none
  |_=>none
 |_,_=>none
def resIndexAddr(t:TypeId):Option AV→Option AV→Option Res
 |some (.own id off len),some (.c (.int _ i))=>match sliceT P t,G id with
  |some (_,k),some (.cells _ k' _ _ _)=>if k=k'∧0≤i∧i<len then some (.ptr id (off+i.toNat) 0,[],[id])else none
  |_,_=>none
 |some (.snap rows),some (.c (.int _ i))=>match sliceT P t,rows[i.toNat]? with
  |some (_,k),some row=>if 0≤i∧row.length=k then some (.sptr rows i.toNat 0,[],[])else none
  |_,_=>none
 |some (.ptr id r o),some (.c (.int _ i))=>match arrT P t with
  |some (n,_,k)=>if 0≤i∧i<n then some (.ptr id r (o+i.toNat*k),[],[])else none
  |none=>none
 |some (.sptr rows r o),some (.c (.int _ i))=>match arrT P t with
  |some (n,_,k)=>if 0≤i∧i<n then some (.sptr rows r (o+i.toNat*k),[],[])else none
  |none=>none
 |_,_=>none
def resIndex(t:TypeId):Option AV→Option AV→Option Res
 |some (.agg xs),some (.c (.int _ i))=>match arrT P t with
  |some (n,e,k)=>if 0≤i∧i<n then(partA P e xs (i.toNat*k)).map fun a=>(a,[],[])else none
  |none=>none
 |some (.c (.string s)),some (.c (.int _ i))=>if isT P t isString=true∧0≤i then(s[i.toNat]?).map fun b=>(.c (.int .u8 b.toNat),[],[])else none
 |_,_=>none
def resSlice(t:TypeId)(l h:Nat→Option Int):Option AV→Option Res
 |some (.c (.slice none 0 0))=>match sliceT P t,l 0,h 0 with
  |some _,some 0,some 0=>some (.c (.slice none 0 0),[],[])
  |_,_,_=>none
 |some (.snap rows)=>match sliceT P t,l rows.length,h rows.length with
  |some (_,k),some l,some h=>if 0≤l∧l≤h∧h≤rows.length∧rows.all (fun r=>r.length==k)=true then some (.snap ((rows.drop l.toNat).take (h-l).toNat),[],[])else none
  |_,_,_=>none
 |some (.own id off len)=>match sliceT P t,G id,l len,h len with
  |some (_,k),some (.cells _ k' _ _ _),some l,some h=>if k=k'∧0≤l∧l≤h∧h≤len then some (.own id (off+l.toNat) (h-l).toNat,[],[id])else none
  |_,_,_,_=>none
 |some (.ptr id i o)=>match arrT P t,G id with
  |some (n,_,1),some (.cells _ _ rows _ _)=>match rows[i]?,l n,h n with
   |some row,some l,some h=>if o+n≤row.length∧0≤l∧l≤h∧h≤n∧l<n then some (.sub id i (o+l.toNat) (h-l).toNat,[],[id])else none
   |_,_,_=>none
  |_,_=>none
 |some (.sptr rows i o)=>match arrT P t,rows[i]? with
  |some (n,_,1),some row=>match l n,h n with
   |some l,some h=>if o+n≤row.length∧0≤l∧l≤h∧h≤n∧l<n then some (.snap (((row.drop (o+l.toNat)).take (h-l).toNat).map fun x=> [x]),[],[])else none
   |_,_=>none
  |_,_=>none
 |_=>none
def resSliceM(t:TypeId)(l h m:Nat→Option Int):Option AV→Option Res
 |some (.snap rows)=>match sliceT P t,l rows.length,h rows.length,m rows.length with
  |some (_,k),some l,some h,some m=>if 0≤l∧l≤h∧h≤m∧m≤rows.length∧rows.all (fun r=>r.length==k)=true then some (.snap ((rows.drop l.toNat).take (h-l).toNat),[],[])else none
  |_,_,_,_=>none
 |some (.own id off len)=>match sliceT P t,G id,l len,h len,m len with
  |some (_,k),some (.cells _ k' _ _ _),some l,some h,some m=>if k=k'∧0≤l∧l≤h∧h≤m∧m≤len then some (.own id (off+l.toNat) (h-l).toNat,[],[id])else none
  |_,_,_,_,_=>none
 |_=>none
def resLookup(t:TypeId)(ok:Bool):Option AV→Option AV→Option Res
 |some (.omap id),some xa=>match keyA xa,G id,mapT P t with
  |some kv,some (.map es),some (_,e,d)=>match zeroA P e with
   |some z=>if isKeyB d kv=true∧keysB d es=true then some (if ok=true then .tup [(lookM kv es).getD z,.c (.bool (lookM kv es).isSome)]else(lookM kv es).getD z,[],[id])else none
   |none=>none
  |_,_,_=>none
 |_,_=>none
def resMapUpdate(t:TypeId):Option AV→Option AV→Option AV→Option Res
 |some (.omap id),some xa,some a=>match keyA xa,G id,mapT P t with
  |some kv,some (.map es),some (_,_,d)=>if isKeyB d kv=true∧keysB d es=true then some (.c undef,[(id,some (.map (putM kv a es)))],[id])else none
  |_,_,_=>none
 |_,_,_=>none
def resRange(t:TypeId):Option AV→Option Res
 |some (.omap id)=>match G id,mapT P t with
  |some (.map es),some _=>some (.ptr nid 0 0,[(nid,some (.iter id es.length []))],[id])
  |_,_=>none
 |_=>none
def anyKeyB(k:Value):Bool:=match k with
 | .agg cs=>isKeyB (.array cs.toList.length 0) k
 | .bool _=>true
 | .int _ _=>true
 | .string _=>true
 |_=>false
def resEntry:Option AV→Option Res
 |some (.ptr id 0 0)=>match G id with
  |some (.iter m n seen)=>match seen.getLast?,G m with
   |some i,some (.map es)=>match es[i]? with
    |some (k,a)=>if es.length=n∧anyKeyB k=true then some (.tup [avK k,a],[],[id,m])else none
    |none=>none
   |_,_=>none
  |_=>none
 |_=>none
def resLen(t:TypeId):Option AV→Option Res
 |some (.omap id)=>match G id,mapT P t with
  |some (.map es),some _=>some (.c (.int .i64 es.length),[],[id])
  |_,_=>none
 |some (.c (.string s))=>if isT P t isString=true then some (.c (.int .i64 s.size),[],[])else none
 |some a=>match sliceT P t,lenA a with
  |some _,some n=>some (.c (.int .i64 n),[],[])
  |_,_=>none
 |none=>none
def resMM(f:Int→Int→Int):Option AV→Option AV→Option Res
 |some (.c (.int k a)),some (.c (.int _ b))=>some (.c (.int k (f a b)),[],[])
 |_,_=>none
def resAppend(t:TypeId):Option AV→Option AV→Option Res
 |some (.own id 0 n),some b=>match G id,rowsOf G b,sliceT P t with
  |some (.cells e k rows w true),some (rows2,rd),some (e',k')=>match zeroT P e,bytesT P e with
   |some zs,some by_=>if e'=e∧k'=k∧zs.length=k∧n=rows.length∧rows2.all (fun r=>r.length==k&&r.all AV.one)=true∧n+rows2.length≤9223372036854775807∧(n+rows2.length)*by_≤140737488355328
    then some (.own nid 0 (n+rows2.length),[(id,past e k rows w),(nid,some (.cells e k (rows++rows2) w true))],id::rd)else none
   |_,_=>none
  |_,_,_=>none
 |some (.c (.slice a0 0 0)),some b=>match rowsOf G b,sliceT P t with
  |some (rows2,rd),some (e,k)=>
   if rows2.isEmpty then some (.c (.slice a0 0 0),[],rd)else
   match zeroT P e,bytesT P e with
   |some zs,some by_=>if zs.length=k∧rows2.all (fun r=>r.length==k&&r.all AV.one)=true∧rows2.length≤9223372036854775807∧rows2.length*by_≤140737488355328
    then some (.own nid 0 rows2.length,[(nid,some (.cells e k rows2 true true))],rd)else none
   |_,_=>none
  |_,_=>none
 |_,_=>none
def resCopy(t:TypeId):Option AV→Option AV→Option Res
 |some (.own id off len),some b=>match G id,rowsOf G b,sliceT P t with
  |some (.cells e k rows true ap),some (rows2,rd),some (e',k')=>if e'=e∧k'=k∧off+len≤rows.length∧rows2.all (fun r=>r.length==k&&r.all AV.one)=true
   then some (.c (.int .i64 (Nat.min rows2.length len)),[(id,some (.cells e k (rows.take off++rows2.take (Nat.min rows2.length len)++rows.drop (off+Nat.min rows2.length len)) true ap))],id::rd)else none
  |_,_,_=>none
 |some (.sub id i o len),some b=>match G id,rowsOf G b,sliceT P t with
  |some (.cells e s rows true ap),some (rows2,rd),some (_,1)=>match rows[i]? with
   |some row=>if o+len≤row.length∧rows2.all (fun r=>r.length==1&&r.all AV.one)=true
    then some (.c (.int .i64 (Nat.min rows2.length len)),[(id,some (.cells e s (rows.set i (spl row o (rows2.take (Nat.min rows2.length len)).flatten)) true ap))],id::rd)else none
   |none=>none
  |_,_,_=>none
 |_,_=>none
def resMake(t:TypeId):Option AV→Option AV→Option Res
 |some (.c (.int _ l)),some (.c (.int _ c))=>match sliceT P t with
  |some (e,k)=>match zeroT P e,bytesT P e with
   |some zs,some by_=>if zs.length=k∧0≤l∧l≤c∧c≤9223372036854775807∧(by_:Int)*c≤281474976710656
    then some (.own nid 0 l.toNat,[(nid,some (.cells e k (List.replicate l.toNat zs) true true))],[])else none
   |_,_=>none
  |none=>none
 |_,_=>none
def resBuiltin(b:Builtin)(as:List (Option AV))(ts:List TypeId):Option Res:=
 match b,as,ts with
 | .len,[a],[t]=>resLen P G t a
 | .max,[a,b],_=>resMM (fun a b=>if b>a then b else a) a b
 | .min,[a,b],_=>resMM (fun a b=>if b<a then b else a) a b
 | .append,[a,b],[t,t']=>if t=t' then resAppend P G nid t a b else resAppendZ P nid t t' a b
 | .cap,[a],[t]=>resCap P t a
 | .copy,[a,b],[t,_]=>resCopy P G t a b
 |_,_,_=>none
def resMI(t:TypeId)(x:Option AV):Option Res:=
 match isT P t notIface,x.bind keyA with
 |true,some v=>some (.c (.iface t v),[],[])
 |_,_=>none
def zeroNo(t:TypeId)(ok:Bool):Option Res:=
 match ok,zeroA P t with
 |true,some z=>some (.tup [z,.c (.bool false)],[],[])
 |_,_=>none
def resAssert(t:TypeId)(ok:Bool):Option AV→Option Res
 |some (.c (.iface t' v))=>match isT P t notIface with
  |true=>if t'=t then(ofV v).map fun a=>(cond ok (.tup [a,.c (.bool true)]) a,[],[])else zeroNo P t ok
  |false=>none
 |some (.c .nilIface)=>match isT P t notIface with
  |true=>zeroNo P t ok
  |false=>none
 |_=>none
def res(o:Oper):Option Res:=
 match o.op with
 | .move x=>(g x).map fun a=>(a,[],[])
 | .assign x=>(g x).map fun a=>(a,[],[])
 | .pick c x y=>resPick (g c) (g x) (g y)
 | .binOp op t x y _=>resBin P op t (g x) (g y)
 | .unOp op _ x=>resUn op (g x)
 | .convert src t x=>resConvG P G src t (g x)
 | .sliceToArrayPointer t x=>resArr P t (g x)
 | .extract x i=>resExtract i (g x)
 | .field t x f=>resField P t f (g x)
 | .fieldAddr t x f=>resFieldAddr P t f (g x)
 | .load t x=>resLoad P G t (g x)
 | .store t x y=>resStore P G t (g x) (g y)
 | .indexAddr t x y=>resIndexAddr P G t (g x) (g y)
 | .index t x y=>resIndex P t (g x) (g y)
 | .slice t x lo (some hi) (some mx)=>resSliceM P G t (fun _=>boundA g 0 lo) (fun n=>boundA g n (some hi)) (fun n=>boundA g n (some mx)) (g x)
 | .slice t x lo hi none=>resSlice P G t (fun _=>boundA g 0 lo) (fun n=>boundA g n hi) (g x)
 | .alloc t=>(zeroT P t).map fun zs=>(.ptr nid 0 0,[(nid,some (.cells t zs.length [zs] true false))],[])
 | .box t x=>(g x).map fun a=>(.ptr nid 0 0,[(nid,some (.cells t a.cells.length [a.cells] true false))],[])
 | .build t ps=>match zeroT P t,buildableT P t,partsA g ps.toList with
   |some zs,true,some as=>(fillA (placesT P t) zs as).map fun ys=>(.agg ys,[],[])
   |_,_,_=>none
 | .buildSlice t len ps=>match sliceT P t,partsA g ps.toList with
   |some (e,k),some as=>match zeroT P e with
    |some zs=>if zs.length=k∧len*k≤16777216 then(fillA (fun i=>some (i*k,k)) (List.replicate len zs).flatten as).map fun ys=>(.own nid 0 len,[(nid,some (.cells e k (chunk k len ys) true true))],[])else none
    |none=>none
   |_,_=>none
 | .makeSlice t l c=>resMake P nid t (g l) (g c)
 | .makeMap _ none=>some (.omap nid,[(nid,some (.map []))],[])
 | .range t x=>resRange P G nid t (g x)
 | .entry x=>resEntry G (g x)
 | .lookup t m x ok=>resLookup P G t ok (g m) (g x)
 | .mapUpdate t m x y=>resMapUpdate P G t (g m) (g x) (g y)
 | .makeFunc fn first captured=>match getsA g first.toList,getsA g captured.toList with
   |some fs,some cs=>some (.fn fn fs cs,[],[])
   |_,_=>none
 | .makeInterface t x=>resMI P t (g x)
 | .typeAssert x _ t ok=>resAssert P t ok (g x)
 | .nilCheck x=>match g x with
   |some (.ptr id i o)=>some (.ptr id i o,[],[])
   |some (.sptr rows i o)=>some (.sptr rows i o,[],[])
   |_=>none
 | .call ⟨.builtin b,as,ts⟩=>resBuiltin P G nid b (as.toList.map g) ts.toList
 |_=>none
end
end Go.AL
namespace Go.AL
open Go.RowKit
theorem RC.anew{E:Env}{W:World}{G:Nat→Option Blk}(hG:RC E W G){id:Nat}{elem:TypeId}{s:Nat}{rows:List (List AV)}{a:Bool}(hg:G id=some (.cells elem s rows true a))
  {cur cur':Array Value} {rows':List (List AV)} (hcur:W.heap[E.ι id]? =some (.cells cur elem (0,0))) (hs':cur'.size=cur.size) (hl:rows'.length=rows.length) (hr:∀(i:Nat) row,rows'[i]? =some row→row.length=s)
  (hc:∀(i j:Nat) row x,rows'[i]? =some row→row[j]? =some x→∃v,cur'[i*s+j]? =some v∧RV E W x v):
  Evo E W E (W.setRow (E.ι id) cur')∧RC E (W.setRow (E.ι id) cur') (upd G [(id,some (.cells elem s rows' true a))]):=by
 obtain⟨hU,hsz,hlen,⟨cur0,hcur0,hsize,hcells⟩,hw,ha⟩:=hG.ok id _ hg;obtain⟨hL,hd⟩:=hw rfl;rw[hcur]at hcur0;cases hcur0;have hv:=Evo.setRow hG hU hcur hs' (fun k hk=>by omega)
 refine⟨hv,⟨fun b hb=>hG.lim b (by simpa using hb),fun id' h=>by simpa using hG.inW id' h,fun id' b h=> ?_⟩⟩
 by_cases hid:id'=id
 ·subst hid
  simp only[upd,if_true,Option.some.injEq]at h;subst h;refine⟨hU,hsz,hr,⟨cur',setRow_heap W _ cur cur' elem (0,0) hcur,by rw[hl,hs'];exact hsize,fun i' j row' x h1 h2=> ?_⟩,fun _=>⟨hL,fun id'' b'' hne hg'=> ?_⟩,fun ha'=> ?_⟩
  ·obtain⟨v,h5,h6⟩:=hc i' j row' x h1 h2
   exact⟨v,h5,h6.mono hv⟩
  ·simp only[upd,hne,if_false]at hg'
   exact hd id'' b'' hne hg'
  ·obtain⟨h8,h9⟩:=ha ha'
   refine⟨by rw[hL];omega,fun id'' b'' hne hg' he=> ?_⟩
   simp only[upd,hne,if_false]at hg';exact absurd he (hd id'' b'' hne hg')
 ·simp only[upd,hid,if_false]at h
  obtain⟨h2,h3⟩:=hG.ok id' b h;have hι:E.ι id'≠E.ι id:=hd id' b hid h;refine⟨h2,h3.mono hv h2 (setRow_other W _ _ cur' hι) rfl fun id'' b'' hne hg' he=> ?_⟩
  by_cases hid'':id''=id
  ·subst hid'';exact absurd he.symm hι
  ·simp only[upd,hid'',if_false]at hg'
   exact⟨b'',hg',he,rfl,fun h=>h⟩
theorem upd_self{G:Nat→Option Blk}{id:Nat}{b:Option Blk}(h:G id=b):upd G [(id,b)]=G:=by
 funext k
 simp only[upd];split
 ·rename_i hk;subst hk;exact h.symm
 ·rfl
section
variable {P : Program} {g : Operand → Option AV} {G : Nat → Option Blk} {nid : Nat} {dst : Option Tmp} {ty : TypeId} {pos : String} {after : Array Edge} {guard : Option (Nat × Bool)}
theorem run_sliceAt_arr{ρ:Operand→Value}{E:Env}{W:World}(hρ:∀x b,g x=some b→RV E W b (ρ x)){t e:TypeId}{n k:Nat}(hu:P.underlying t=some (.array n e))(hk:(P.info? e).map (·.size)=some k)(a:Addr){lo hi:Option Operand}{l h:Int}
  (hl:boundA g 0 lo=some l) (hh:boundA g n hi=some h) (h0:0≤l) (h1:l≤h) (h2:h≤n) (h3:l<n):
  (Instr.sliceAt t (.pointer (some a)) (lo.map ρ) (hi.map ρ) none).run P W= .ok (.slice (some (a.add (l.toNat*k))) (h-l).toNat (n-l.toNat)) W:=by
 have hne:¬n=l.toNat:=by omega
 have e1:h.toNat-l.toNat=(h-l).toNat:=by omega
 rcases boundA_ok hρ hl with⟨rfl,rfl⟩|⟨kl,hkl⟩<;>rcases boundA_ok hρ hh with⟨rfl,rfl⟩|⟨kh,hkh⟩
 ·have:¬n=0:=by omega
  simp[Instr.sliceAt,run_underlying hu,Instr.sliceBounds,run_sizeOf hk,Instr.sureAddr,this]
 ·have:¬n=0:=by omega
  simp[Instr.sliceAt,run_underlying hu,Instr.sliceBounds,run_sizeOf hk,Instr.sureAddr,hkh,Instr.sliceBound,asIntOf,h1,h2,this]
 ·simp[Instr.sliceAt,run_underlying hu,Instr.sliceBounds,run_sizeOf hk,Instr.sureAddr,hkl,Instr.sliceBound,asIntOf,h0,h1,hne]
  omega
 ·have h4:0≤h:=by omega
  have h5:l≤max h 0:=by omega
  simp[Instr.sliceAt,run_underlying hu,Instr.sliceBounds,run_sizeOf hk,Instr.sureAddr,hkl,hkh,Instr.sliceBound,asIntOf,h0,h1,h2,h4,h5,hne];omega
theorem ok_sliceArr{t e e':TypeId}{n s:Nat}{x:Operand}{id i o:Nat}{rows:List (List AV)}{row:List AV}{w ap:Bool}{lo hi:Option Operand}{l h:Int}(ht:arrT P t=some (n,e,1))(hx:g x=some (.ptr id i o))(hg:G id=some (.cells e' s rows w ap))(hrow:rows[i]? =some row)(hon:o+n≤row.length)
  (hl:boundA g 0 lo=some l) (hh:boundA g n hi=some h) (h0:0≤l) (h1:l≤h) (h2:h≤n) (h3:l<n):
  OpOK P g G nid ⟨dst,.slice t x lo hi none,ty,pos,after,guard⟩ (.sub id i (o+l.toNat) (h-l).toNat) G:=
 .still fun E W ρ hG hρ=>by
   obtain⟨hu,hk⟩:=arrT_ok ht;have h4:=hρ x _ hx;generalize hρx:ρ x=vx at h4;obtain⟨hU,hsz,hlen,⟨cur,hcur,hsize,_⟩,_,_⟩:=hG.ok id _ hg;have hi':i<rows.length:=(List.getElem?_eq_some_iff.1 hrow).1;have hls:=hlen i row hrow
   have hmul:i*s+s≤rows.length*s:=by
    have:=Nat.mul_le_mul_right s (show i+1≤rows.length from hi')
    rw[Nat.succ_mul]at this;exact this
   cases h4 with
   |ptr _ _ _ hid=>
    refine⟨_,by simp only[execOp,hρx,Option.map_none];rw[Sem.run_bind,run_sliceAt_arr hρ hu hk _ hl hh h0 h1 h2 h3];rfl,?_⟩
    have:=RV.sub (E:=E) (W:=W) id i (o+l.toNat) (h-l).toNat (n-l.toNat) hid (by omega) ⟨cur,e',(0,0),hcur,by rw[hsz];omega⟩
    simpa[Addr.add_lit,Nat.add_assoc]using this
theorem ok_sliceSp{t e:TypeId}{n:Nat}{x:Operand}{i o:Nat}{rows:List (List AV)}{row:List AV}{lo hi:Option Operand}{l h:Int}(ht:arrT P t=some (n,e,1))(hx:g x=some (.sptr rows i o))(hrow:rows[i]? =some row)(hon:o+n≤row.length)
  (hl:boundA g 0 lo=some l) (hh:boundA g n hi=some h) (h0:0≤l) (h1:l≤h) (h2:h≤n) (h3:l<n):
  OpOK P g G nid ⟨dst,.slice t x lo hi none,ty,pos,after,guard⟩ (.snap (((row.drop (o+l.toNat)).take (h-l).toNat).map fun x=> [x])) G:=
 .still fun E W ρ hG hρ=>by
   obtain⟨hu,hk⟩:=arrT_ok ht;have h4:=hρ x _ hx;generalize hρx:ρ x=vx at h4;have hi':i<rows.length:=(List.getElem?_eq_some_iff.1 hrow).1;cases h4 with
   |sptr _ _ _ b off s vs hs hL hc hr=>
    have hls:=hs i row hrow
    have hmul:i*s+s≤rows.length*s:=by
     have:=Nat.mul_le_mul_right s (show i+1≤rows.length from hi')
     rw[Nat.succ_mul]at this;exact this
    have hlen:(((row.drop (o+l.toNat)).take (h-l).toNat).map fun x=> [x]).length=(h-l).toNat:=by
     rw[List.length_map,List.length_take,List.length_drop];omega
    refine⟨_,by simp only[execOp,hρx,Option.map_none];rw[Sem.run_bind,run_sliceAt_arr hρ hu hk _ hl hh h0 h1 h2 h3];rfl,?_⟩
    have hget:∀(i' j:Nat) (r:List AV) (y:AV),(((row.drop (o+l.toNat)).take (h-l).toNat).map fun x=> [x])[i']? =some r→r[j]? =some y→j=0∧row[o+l.toNat+i']? =some y:=by
     intro i' j r y h5 h6;rw[List.getElem?_map,List.getElem?_take]at h5;split at h5
     ·rw[List.getElem?_drop]at h5
      cases h7:row[o+l.toNat+i']? with
      |none=>rw[h7]at h5;cases h5
      |some z=>
       rw[h7]at h5;simp only[Option.map_some,Option.some.injEq]at h5;subst h5;cases j with
       |zero=>exact⟨rfl,h6⟩
       |succ j=>simp at h6
     ·cases h5
    have:=RV.snap (E:=E) (W:=W) (((row.drop (o+l.toNat)).take (h-l).toNat).map fun x=> [x]) b (off+(i*s+o)+l.toNat) 1 (h-l).toNat (n-l.toNat) (fun i' _=>vs i (o+l.toNat+i')) hlen.symm (by omega)
     (fun i' r h5=>by
       rw[List.getElem?_map]at h5;cases h7:((row.drop (o+l.toNat)).take (h-l).toNat)[i']? with
       |none=>rw[h7]at h5;cases h5
       |some z=>rw[h7]at h5;simp only[Option.map_some,Option.some.injEq]at h5;subst h5;rfl)
     (by rw[hlen];omega)
     (fun i' j r y h5 h6=>by
       obtain⟨rfl,h7⟩:=hget i' j r y h5 h6;have:=hc i (o+l.toNat+i') row y hrow h7
       rw[←this];congr 2;omega)
     (fun i' j r y h5 h6=>by
       obtain⟨rfl,h7⟩:=hget i' j r y h5 h6
       exact hr i (o+l.toNat+i') row y hrow h7)
    simpa[Addr.add_lit,Nat.add_assoc]using this
theorem run_copy_gen{W W':World}{dT sT ty elem:TypeId}{k:Nat}{d:Addr}{dLen dCap sLen sCap:Nat}{a:Addr}{cs:List Value}(hu:P.underlying dT=some (.slice elem))(hk:(P.info? elem).map (·.size)=some k)(hn:cs.length=Nat.min sLen dLen*k)
  (hsrc:∀j v,cs[j]? =some v→W.cell? (a.add j)=some v) (hst:(storeCells d cs 0).run P W= .ok () W'):
  (Builtin.copy_ #[dT,sT] ty #[.slice (some d) dLen dCap,.slice (some a) sLen sCap]).run P W= .ok (goInt (Nat.min sLen dLen:Nat)) W':=by
 have hl:=run_loadCells_list (P:=P) W a cs hsrc;cases hq:P.info? elem with
 |none=>simp[hq]at hk
 |some i=>
  have hi:i.size=k:=by simpa[hq]using hk
  simp[Builtin.copy_,run_underlying hu,Builtin.lenOf,Builtin.firstCells,sizeOf,typeInfo,hq,hi];rw[←hn,hl];simp[hst]
theorem rows_copy{E:Env}{W:World}{rows2:List (List AV)}{k n:Nat}{news:List Value}(hl:news.length=rows2.length*k)(hn:n≤rows2.length)(hc:∀(i j:Nat) row x,rows2[i]? =some row→row[j]? =some x→∃u,news[i*k+j]? =some u∧RV E W x u)(hk:∀(i:Nat) row,rows2[i]? =some row→row.length=k):
  (news.take (n*k)).length=n*k∧∀(i j:Nat) row x,i<n→rows2[i]? =some row→row[j]? =some x→∃u,(news.take (n*k))[i*k+j]? =some u∧RV E W x u:=by
 have h1:n*k≤rows2.length*k:=Nat.mul_le_mul_right k hn;refine⟨by simp;omega,fun i j row x hi hr hx=> ?_⟩
 obtain⟨u,h2,h3⟩:=hc i j row x hr hx;have hj:j<k:=by rw[←hk i row hr];exact(List.getElem?_eq_some_iff.1 hx).1
 have:=idx_lt hi hj;exact⟨u,by rw[List.getElem?_take,if_pos this];exact h2,h3⟩
theorem ok_copyOwn{t t' e:TypeId}{k:Nat}{x y:Operand}{id off len:Nat}{rows rows2:List (List AV)}{ap:Bool}{b:AV}{rd:List Nat}(ht:sliceT P t=some (e,k))(hx:g x=some (.own id off len))(hg:G id=some (.cells e k rows true ap))(hn:off+len≤rows.length)(hy:g y=some b)(hb:rowsOf G b=some (rows2,rd))
  (h1:rows2.all (fun r=>r.length==k&&r.all AV.one)=true):
  OpOK P g G nid ⟨dst,.call ⟨.builtin .copy,#[x,y],#[t,t']⟩,ty,pos,after,guard⟩ (.c (.int .i64 (Nat.min rows2.length len))) (upd G [(id,some (.cells e k (rows.take off++rows2.take (Nat.min rows2.length len)++rows.drop (off+Nat.min rows2.length len)) true ap))]):=fun E W ρ hG hnid hρ=>by
 have hx1:=hρ x _ hx;have hy1:=hρ y _ hy;generalize hρx:ρ x=vx at hx1;generalize hρy:ρ y=vy at hy1;obtain⟨hu,hk⟩:=sliceT_ok ht;obtain⟨hU,hszk,hlen,⟨cur,hcur,hsize,hcells⟩,hw,ha⟩:=hG.ok id _ hg
 have hrun:∀(r:Result Value),(Builtin.copy_ #[t,t'] ty #[vx,vy]).run P W=r→(execOp ρ ⟨dst,.call ⟨.builtin .copy,#[x,y],#[t,t']⟩,ty,pos,after,guard⟩).run P W=r.andThen fun v w'=> .ok (.value v) w':=by
  intro r hr;rw[run_callB];simp only[builtin,List.map_toArray,List.map_cons,List.map_nil,hρx,hρy];rw[Sem.run_bind,hr];rfl
 have hk2:∀(i:Nat) row,rows2[i]? =some row→row.length=k:=all_len h1;obtain⟨base2,n2,cap2,hv2,hn2,hcap2,_⟩:=rowsOf_ok hG hy1 hb
 have hnone:Nat.min rows2.length len=0→∀(d:Option Addr) (dc:Nat),(Builtin.copy_ #[t,t'] ty #[.slice d len dc,vy]).run P W= .ok (goInt 0) W:=fun h0 d dc=>by
  subst hv2;subst hn2;cases hq:P.info? e with
  |none=>simp[szT,hq]at hk
  |some i=>
   have hl:∀(x:Addr),(loadCells x 0).run P W= .ok #[] W:=fun x=>by simpa using run_loadCells_list (P:=P) W x [] (by simp)
   have h0':rows2.length.min len=0:=h0;cases d<;>cases base2<;>simp[Builtin.copy_,run_underlying hu,Builtin.lenOf,Builtin.firstCells,sizeOf,typeInfo,hq,h0',storeCells,hl]
 by_cases h0:Nat.min rows2.length len=0
 ·rw[h0]
  have hG':upd G [(id,some (.cells e k (rows.take off++rows2.take 0++rows.drop (off+0)) true ap))]=G:=upd_self (by rw[hg];simp)
  rw[hG'];cases hx1 with
  |own0 _ _ a hid=>exact⟨W,_,E,.inl (by rw[hrun _ (hnone h0 a 0)];rfl),Evo.refl E W,hG,.c _ rfl,fun _ h=> .inl h⟩
  |own _ _ _ cap hid hlc hsz=>exact⟨W,_,E,.inl (by rw[hrun _ (hnone h0 _ cap)];rfl),Evo.refl E W,hG,.c _ rfl,fun _ h=> .inl h⟩
 ·have hne:rows2≠[]:=fun h=>h0 (by subst h;exact Nat.zero_min _)
  have hlen0:len≠0:=fun h=>h0 (by subst h;exact Nat.min_zero _)
  have hmin1:Nat.min rows2.length len≤rows2.length:=Nat.min_le_left _ _;have hmin2:Nat.min rows2.length len≤len:=Nat.min_le_right _ _;generalize hm:Nat.min rows2.length len=m at*;cases hx1 with
  |own0 _ _ a hid=>exact absurd rfl hlen0
  |own _ _ _ cap hid hlc hsz=>
   obtain⟨bb,pp,cap',hv',news,hnl,hnc,hn1,hnr⟩:=rows_flat hG hy1 hb hne h1;obtain⟨hcl,hcr⟩:=rows_copy hnl hmin1 hnr hk2;have hmul:(off+m)*k≤rows.length*k:=Nat.mul_le_mul_right k (by omega)
   rw[Nat.add_mul]at hmul;generalize hcs:news.take (m*k)=cs at hcl hcr;have hcs1:∀v∈cs,v.oneCell'=true:=fun v hv=>hn1 v (by rw[←hcs]at hv;exact List.mem_of_mem_take hv)
   have hst:=run_storeCells_at P (E.ι id) (off*k) e cs 0 cur W hcur (by omega) hcs1
   simp only[Nat.add_zero]at hst;generalize hc':(cur.toList.take (off*k)++cs++cur.toList.drop (off*k+cs.length)).toArray=cur' at hst;have hs':cur'.size=cur.size:=by subst hc';simp;omega
   have hold:∀q,q<cur.size→(q<off*k∨off*k+m*k≤q)→cur'[q]? =cur[q]? :=fun q hq hq2=>by
    subst hc';rw[List.getElem?_toArray];rcases hq2 with hq2|hq2
    ·rw[List.append_assoc,List.getElem?_append_left (by simp;omega),List.getElem?_take,if_pos hq2];simp
    ·rw[List.getElem?_append_right (by simp;omega),List.getElem?_drop];simp;congr 1;omega
   have hnew:∀q,q<m*k→cur'[off*k+q]? =cs[q]? :=fun q hq=>by
    subst hc';rw[List.getElem?_toArray,List.append_assoc,List.getElem?_append_right (by simp;omega),List.getElem?_append_left (by simp;omega)]
    congr 1;simp;omega
   have hrl:(rows.take off++rows2.take m++rows.drop (off+m)).length=rows.length:=by simp;omega
   have hrow:∀(i:Nat) row,(rows.take off++rows2.take m++rows.drop (off+m))[i]? =some row→(i<rows.length∧((i<off∨off+m≤i)∧rows[i]? =some row))∨(off≤i∧i<off+m∧rows2[i-off]? =some row):=fun i row hr=>by
    by_cases h3:i<off
    ·rw[List.append_assoc,List.getElem?_append_left (by simp;omega),List.getElem?_take,if_pos h3]at hr
     exact .inl ⟨by omega,.inl h3,hr⟩
    ·by_cases h4:i<off+m
     ·rw[List.append_assoc,List.getElem?_append_right (by simp;omega),List.getElem?_append_left (by simp;omega),List.getElem?_take]at hr
      have he:i-(rows.take off).length=i-off:=by simp;omega
      rw[he,if_pos (by omega)]at hr
      exact .inr ⟨by omega,h4,hr⟩
     ·rw[List.getElem?_append_right (by simp;omega),List.getElem?_drop]at hr
      have he:off+m+(i-(rows.take off++rows2.take m).length)=i:=by simp;omega
      rw[he]at hr;exact .inl ⟨(List.getElem?_eq_some_iff.1 hr).1,.inr (by omega),hr⟩
   obtain⟨hv,hG2⟩:=hG.anew hg hcur hs' hrl (fun i row hr=>by
    rcases hrow i row hr with⟨_,_,h⟩|⟨_,_,h⟩
    ·exact hlen i row h
    ·exact hk2 _ row h) (fun i j row x hr hx'=>by
    rcases hrow i row hr with⟨hi,h3,h⟩|⟨h3,h4,h⟩
    ·obtain⟨v,h5,h6⟩:=hcells i j row x h hx'
     refine⟨v,?_,h6⟩;rw[←h5];have hj:j<k:=by rw[←hlen i row h];exact(List.getElem?_eq_some_iff.1 hx').1
     refine hold _ (Array.getElem?_eq_some_iff.1 h5).1 ?_;rcases h3 with h3|h3
     ·exact .inl (idx_lt h3 hj)
     ·right
      have:=Nat.mul_le_mul_right k h3;rw[Nat.add_mul]at this;omega
    ·obtain⟨v,h5,h6⟩:=hcr _ j row x (by omega) h hx'
     refine⟨v,?_,h6⟩;rw[←h5];have hj:j<k:=by rw[←hk2 _ row h];exact(List.getElem?_eq_some_iff.1 hx').1
     rw[←hnew _ (idx_lt (by omega) hj)]
     congr 1;have:i*k=off*k+(i-off)*k:=by rw[←Nat.add_mul];congr 1;omega
     omega)
   subst hv'
   have hcp:=run_copy_gen (P:=P) (W:=W) (W':=W.setRow (E.ι id) cur') (dT:=t) (sT:=t') (ty:=ty) (d:=⟨E.ι id,off*k,none⟩) (dLen:=len) (dCap:=cap) (sLen:=rows2.length) (sCap:=cap') (a:=⟨bb,pp,none⟩) (cs:=cs) hu hk (by rw[hm];exact hcl)
    (fun j v hj=>by rw[Addr.add_lit];exact hnc j v (by rw[←hcs]at hj;rw[List.getElem?_take]at hj;split at hj<;>first|exact hj|cases hj)) hst
   rw[hm]at hcp;rw[←hszk]at hcp;exact⟨_,_,E,.inl (by rw[hrun _ hcp];rfl),hv,hG2,.c _ rfl,fun _ h=> .inl h⟩
theorem rows_one{rows2:List (List AV)}(h:∀(i:Nat) row,rows2[i]? =some row→row.length=1):∃l:List AV,rows2=l.map fun x=> [x]:=by
 induction rows2 with
 |nil=>exact⟨[],rfl⟩
 |cons r rs ih=>
  obtain⟨l,hl⟩:=ih fun i row hr=>h (i+1) row (by simpa using hr)
  have h0:=h 0 r rfl
  match r,h0 with
  |[x],_=>exact⟨x::l,by rw[hl];rfl⟩
theorem flatten_one(l:List AV):(l.map fun x=> [x]).flatten=l:=by
 induction l with
 |nil=>rfl
 |cons x r ih=>simp only[List.map_cons,List.flatten_cons,ih];rfl
theorem ok_copySub{t t' e e':TypeId}{s:Nat}{x y:Operand}{id i o len:Nat}{rows rows2:List (List AV)}{row:List AV}{ap:Bool}{b:AV}{rd:List Nat}(ht:sliceT P t=some (e,1))(hx:g x=some (.sub id i o len))(hg:G id=some (.cells e' s rows true ap))(hrow:rows[i]? =some row)(hn:o+len≤row.length)(hy:g y=some b)(hb:rowsOf G b=some (rows2,rd))
  (h1:rows2.all (fun r=>r.length==1&&r.all AV.one)=true):
  OpOK P g G nid ⟨dst,.call ⟨.builtin .copy,#[x,y],#[t,t']⟩,ty,pos,after,guard⟩ (.c (.int .i64 (Nat.min rows2.length len))) (upd G [(id,some (.cells e' s (rows.set i (spl row o (rows2.take (Nat.min rows2.length len)).flatten)) true ap))]):=fun E W ρ hG hnid hρ=>by
 have hx1:=hρ x _ hx;have hy1:=hρ y _ hy;generalize hρx:ρ x=vx at hx1;generalize hρy:ρ y=vy at hy1;obtain⟨hu,hk⟩:=sliceT_ok ht;obtain⟨hU,hszk,hlen,⟨cur,hcur,hsize,hcells⟩,hw,ha⟩:=hG.ok id _ hg
 have hrun:∀(r:Result Value),(Builtin.copy_ #[t,t'] ty #[vx,vy]).run P W=r→(execOp ρ ⟨dst,.call ⟨.builtin .copy,#[x,y],#[t,t']⟩,ty,pos,after,guard⟩).run P W=r.andThen fun v w'=> .ok (.value v) w':=by
  intro r hr;rw[run_callB];simp only[builtin,List.map_toArray,List.map_cons,List.map_nil,hρx,hρy];rw[Sem.run_bind,hr];rfl
 have hk2:∀(i:Nat) row,rows2[i]? =some row→row.length=1:=all_len h1;obtain⟨base2,n2,cap2,hv2,hn2,hcap2,_⟩:=rowsOf_ok hG hy1 hb;have hi:i<rows.length:=(List.getElem?_eq_some_iff.1 hrow).1;have hspl0:spl row o []=row:=by unfold spl;simp
 cases hx1 with
 |sub _ _ _ _ cap hid hlc hsz=>
  by_cases h0:Nat.min rows2.length len=0
  ·rw[h0]
   have hset:rows.set i row=rows:=by
    apply List.ext_getElem?;intro q;by_cases hq:q=i
    ·subst hq;rw[List.getElem?_set_self hi];exact hrow.symm
    ·rw[List.getElem?_set_ne (Ne.symm hq)]
   have hG':upd G [(id,some (.cells e' s (rows.set i (spl row o (rows2.take 0).flatten)) true ap))]=G:=upd_self (by rw[hg];simp[hspl0,hset])
   rw[hG']
   have hz:(Builtin.copy_ #[t,t'] ty #[.slice (some ⟨E.ι id,i*E.sz id+o,none⟩) len cap,vy]).run P W= .ok (goInt 0) W:=by
    subst hv2;subst hn2;cases hq:P.info? e with
    |none=>simp[szT,hq]at hk
    |some j=>
     have hl:∀(x:Addr),(loadCells x 0).run P W= .ok #[] W:=fun x=>by simpa using run_loadCells_list (P:=P) W x [] (by simp)
     have h0':rows2.length.min len=0:=h0;cases base2<;>simp[Builtin.copy_,run_underlying hu,Builtin.lenOf,Builtin.firstCells,sizeOf,typeInfo,hq,h0',storeCells,hl]
   exact⟨W,_,E,.inl (by rw[hrun _ hz];rfl),Evo.refl E W,hG,.c _ rfl,fun _ h=> .inl h⟩
  ·have hne:rows2≠[]:=fun h=>h0 (by subst h;exact Nat.zero_min _)
   have hmin1:Nat.min rows2.length len≤rows2.length:=Nat.min_le_left _ _;have hmin2:Nat.min rows2.length len≤len:=Nat.min_le_right _ _;generalize hm:Nat.min rows2.length len=m at*;obtain⟨bb,pp,cap',hv',news,hnl,hnc,hn1,hnr⟩:=rows_flat hG hy1 hb hne h1;obtain⟨hcl,hcr⟩:=rows_copy hnl hmin1 hnr hk2;generalize hcs:news.take (m*1)=cs at hcl hcr;have hcs1:∀v∈cs,v.oneCell'=true:=fun v hv=>hn1 v (by rw[←hcs]at hv;exact List.mem_of_mem_take hv)
   obtain⟨l,hl⟩:=rows_one hk2;have hfl:(rows2.take m).flatten=l.take m:=by rw[hl,←List.map_take,flatten_one]
   have hll:rows2.length=l.length:=by rw[hl];simp
   rw[hfl]
   have hxs:RVs E W (l.take m) cs:=⟨by simp;omega,fun q x v hq hv=>by
    rw[List.getElem?_take]at hq;split at hq
    ·rename_i hqm
     obtain⟨u,h3,h4⟩:=hcr q 0 [x] x hqm (by rw[hl,List.getElem?_map,hq];rfl) rfl
     have e1:q*1+0=q:=by omega
     rw[e1,hv]at h3;injection h3 with h3;subst h3;exact h4
    ·cases hq⟩
   have hol:o+(l.take m).length≤row.length:=by have:=List.length_take_le m l;omega
   obtain⟨cur',hst,hv,hG2⟩:=hG.write hg hrow hxs hol hcs1 (P:=P);subst hv'
   have hcp:=run_copy_gen (P:=P) (W:=W) (W':=W.setRow (E.ι id) cur') (dT:=t) (sT:=t') (ty:=ty) (d:=⟨E.ι id,i*s+o,none⟩) (dLen:=len) (dCap:=cap) (sLen:=rows2.length) (sCap:=cap') (a:=⟨bb,pp,none⟩) (cs:=cs) hu hk (by rw[hm];exact hcl)
    (fun j v hj=>by rw[Addr.add_lit];exact hnc j v (by rw[←hcs]at hj;rw[List.getElem?_take]at hj;split at hj<;>first|exact hj|cases hj)) hst
   rw[hm]at hcp;rw[←hszk]at hcp;exact⟨_,_,E,.inl (by rw[hrun _ hcp];rfl),hv,hG2,.c _ rfl,fun _ h=> .inl h⟩
theorem ok_sliceOwnM{t e:TypeId}{k:Nat}{x:Operand}{id off len:Nat}{e':TypeId}{rows:List (List AV)}{w ap:Bool}{lo:Option Operand}{hi mx:Operand}{l h m:Int}(ht:sliceT P t=some (e,k))(hx:g x=some (.own id off len))(hg:G id=some (.cells e' k rows w ap))
  (hl:boundA g 0 lo=some l) (hh:boundA g len (some hi)=some h) (hm:boundA g len (some mx)=some m) (h0:0≤l) (h1:l≤h) (h2:h≤m) (h3:m≤len):
  OpOK P g G nid ⟨dst,.slice t x lo (some hi) (some mx),ty,pos,after,guard⟩ (.own id (off+l.toNat) (h-l).toNat) G:=
 .still fun E W ρ hG hρ=>by
   have h4:=hρ x _ hx;generalize hρx:ρ x=vx at h4;have hsz:E.sz id=k:=(hG.ok id _ hg).2.1;cases h4 with
   |own _ _ _ cap hid hlc hs=>
    refine⟨_,by simp only[execOp,hρx,Option.map_some];rw[Sem.run_bind,run_sliceAt_max hρ ht _ len cap hl hh hm h0 h1 h2 (by omega)];rfl,?_⟩
    by_cases hc:m=l
    ·rw[if_pos hc]
     have e1:(h-l).toNat=0:=by omega
     have e2:(m-l).toNat=0:=by omega
     rw[e1,e2];exact .own0 _ _ _ hid
    ·rw[if_neg hc]
     obtain⟨cur,e2,f,h5,h6⟩:=hs;have hmul:(off+l.toNat+(m-l).toNat)*E.sz id≤(off+cap)*E.sz id:=Nat.mul_le_mul_right _ (by omega)
     have:=RV.own (E:=E) (W:=W) id (off+l.toNat) (h-l).toNat (m-l).toNat hid (by omega) ⟨cur,e2,f,h5,by omega⟩
     rw[hsz]at this⊢;simpa[Addr.add_lit,Nat.add_mul]using this
   |own0 _ _ a hid=>
    refine⟨_,by simp only[execOp,hρx,Option.map_some];rw[Sem.run_bind,run_sliceAt_max hρ ht _ 0 0 hl (show boundA g ((0:Nat):Int) (some hi)=some h from hh) (show boundA g ((0:Nat):Int) (some mx)=some m from hm) h0 h1 h2 (by omega)];rfl,?_⟩
    have e1:(h-l).toNat=0:=by omega
    have e2:(m-l).toNat=0:=by omega
    rw[if_pos (by omega),e1,e2]
    exact .own0 _ _ _ hid
end
end Go.AL
namespace Go.AL
open Go.RowKit
theorem binV_agg{P:Program}{op:BinOp}{t:TypeId}{a b v:Value}(h:binV P op t a b=some v):isAggV v=false:=by
 unfold binV at h;split at h
 ·unfold intV at h
  split at h
  ·unfold shV at h
   split at h<;>simp only[Option.some.injEq,reduceCtorEq]at h
   subst h;rfl
  ·unfold shV at h
   split at h<;>simp only[Option.some.injEq,reduceCtorEq]at h
   subst h;rfl
  ·split at h
   ·unfold intBin at h
    split at h<;>(try (split at h))<;>simp only[Option.some.injEq,reduceCtorEq]at h<;>(try subst h)<;>simp_all [isAggV]
   ·cases h
 ·split at h
  ·split at h<;>simp only[Option.some.injEq,reduceCtorEq]at h<;>subst h<;>rfl
  ·cases h
 ·split at h<;>simp only[Option.some.injEq,reduceCtorEq]at h<;>subst h<;>rfl
 ·split at h
  ·exact boolV_agg h
  ·cases h
 ·split at h
  ·exact boolV_agg h
  ·cases h
 ·cases h
theorem anyKeyB_ok{k:Value}(h:anyKeyB k=true):∃d,isKeyB d k=true:=by
 unfold anyKeyB at h;split at h
 ·exact⟨_,h⟩
 ·exact⟨.bool,rfl⟩
 ·rename_i q n;exact⟨.int q,by simp[isKeyB]⟩
 ·exact⟨.string,rfl⟩
 ·cases h
theorem map_some{α β:Type}{x:Option α}{f:α→β}{b:β}(h:x.map f=some b):∃a,x=some a∧f a=b:=by
 cases x with
 |none=>simp at h
 |some a=>exact⟨a,rfl,by simpa using h⟩
section
variable {P : Program} {g : Operand → Option AV} {G : Nat → Option Blk} {nid : Nat}
theorem ok_makeIface{dst:Option Tmp}{ty:TypeId}{pos:String}{after:Array Edge}{guard:Option (Nat×Bool)}{t:TypeId}{x:Operand}{a:AV}{v:Value}(ht:isT P t notIface=true)(hx:g x=some a)(hv:keyA a=some v):
  OpOK P g G nid ⟨dst,.makeInterface t x,ty,pos,after,guard⟩ (.c (.iface t v)) G:=
 .still fun E W ρ hG hρ=>by
   have h1:=keyA_ok hv (hρ x _ hx);obtain⟨d,hu,hd⟩:=isT_out ht;refine⟨.iface t v,?_,.c _ rfl⟩;cases d<;>simp only[notIface,Bool.false_eq_true]at hd<;>simp[execOp,Instr.makeInterface,run_underlying hu,h1]
theorem zeroNo_out{t:TypeId}{ok:Bool}{x:Res}(h:zeroNo P t ok=some x):ok=true∧∃z,zeroA P t=some z∧x=(.tup [z,.c (.bool false)],[],[]):=by
 unfold zeroNo at h;split at h
 ·rename_i z hz;injection h with h;exact⟨rfl,z,hz,h.symm⟩
 ·cases h
theorem rv_pair{E:Env}{W:World}{a b:AV}{v u:Value}(h1:RV E W a v)(h2:RV E W b u):RV E W (.tup [a,b]) (.tuple #[v,u]):=
 .tup _ _ rfl fun i x y hx hy=>by
   rcases i with _|_|i
   ·simp at hx hy;subst hx;subst hy;exact h1
   ·simp at hx hy;subst hx;subst hy;exact h2
   ·simp at hx
theorem ok_assertIs{dst:Option Tmp}{ty:TypeId}{pos:String}{after:Array Edge}{guard:Option (Nat×Bool)}{t xt:TypeId}{x:Operand}{a:AV}{v:Value}{ok:Bool}(ht:isT P t notIface=true)(hx:g x=some (.c (.iface t v)))(hv:ofV v=some a):
  OpOK P g G nid ⟨dst,.typeAssert x xt t ok,ty,pos,after,guard⟩ (cond ok (.tup [a,.c (.bool true)]) a) G:=
 .still fun E W ρ hG hρ=>by
   have h1:=hρ x _ hx;generalize hρx:ρ x=vx at h1;cases h1;obtain⟨d,hu,hd⟩:=isT_out ht;refine⟨if ok then .tuple #[v,.bool true]else v,?_,?_⟩
   ·cases d<;>simp only[notIface,Bool.false_eq_true]at hd<;>simp[execOp,Instr.typeAssert,run_underlying hu,hρx]
   ·cases ok
    ·exact RV.ofV hv
    ·exact rv_pair (RV.ofV hv) (.c _ rfl)
theorem ok_assertNot{dst:Option Tmp}{ty:TypeId}{pos:String}{after:Array Edge}{guard:Option (Nat×Bool)}{t xt t':TypeId}{x:Operand}{z:AV}{v:Value}(ht:isT P t notIface=true)(hx:g x=some (.c (.iface t' v)))(hne:¬t'=t)(hz:zeroA P t=some z):
  OpOK P g G nid ⟨dst,.typeAssert x xt t true,ty,pos,after,guard⟩ (.tup [z,.c (.bool false)]) G:=
 .still fun E W ρ hG hρ=>by
   have h1:=hρ x _ hx;generalize hρx:ρ x=vx at h1;cases h1;obtain⟨d,hu,hd⟩:=isT_out ht;obtain⟨u,h2,h3⟩:=zeroA_ok hz;refine⟨.tuple #[u,.bool false],?_,rv_pair (h3 E W) (.c _ rfl)⟩;cases d<;>simp only[notIface,Bool.false_eq_true]at hd<;>simp[execOp,Instr.typeAssert,run_underlying hu,hρx,hne,h2]
theorem ok_assertNil{dst:Option Tmp}{ty:TypeId}{pos:String}{after:Array Edge}{guard:Option (Nat×Bool)}{t xt:TypeId}{x:Operand}{z:AV}(ht:isT P t notIface=true)(hx:g x=some (.c .nilIface))(hz:zeroA P t=some z):
  OpOK P g G nid ⟨dst,.typeAssert x xt t true,ty,pos,after,guard⟩ (.tup [z,.c (.bool false)]) G:=
 .still fun E W ρ hG hρ=>by
   have h1:=hρ x _ hx;generalize hρx:ρ x=vx at h1;cases h1;obtain⟨d,hu,hd⟩:=isT_out ht;obtain⟨u,h2,h3⟩:=zeroA_ok hz;refine⟨.tuple #[u,.bool false],?_,rv_pair (h3 E W) (.c _ rfl)⟩;cases d<;>simp only[notIface,Bool.false_eq_true]at hd<;>simp[execOp,Instr.typeAssert,run_underlying hu,hρx,h2]
theorem strA_get:∀{rows:List (List AV)} {l:List Int},strA rows=some l→rows.length=l.length∧∀(j:Nat) n,l[j]? =some n→rows[j]? =some [.c (.int .u8 n)]
 |[],l,h=>by
  simp only[strA,Option.some.injEq]at h;subst h;exact⟨rfl,fun j n h=>by simp at h⟩
 |r::rs,l,h=>by
  simp only[strA]at h;split at h
  ·rename_i n l' h1 h2
   simp only[Option.some.injEq]at h;subst h;have ih:=strA_get h2;refine⟨by simp[ih.1],fun j m hj=> ?_⟩
   cases j with
   |zero=>
    simp at hj;subst hj;unfold byteA at h1;split at h1
    ·simp only[Option.some.injEq]at h1;subst h1;rfl
    ·cases h1
   |succ j=>simpa using ih.2 j m (by simpa using hj)
  ·cases h
theorem ok_toStr{dst:Option Tmp}{ty:TypeId}{pos:String}{after:Array Edge}{guard:Option (Nat×Bool)}{src t e:TypeId}{x:Operand}{b:AV}{rows:List (List AV)}{rd:List Nat}{l:List Int}(hs:sliceT P src=some (e,1))(he:intT P e=some .u8)(hd:isT P t isString=true)(hx:g x=some b)(hb:rowsOf G b=some (rows,rd))(hl:strA rows=some l):
  OpOK P g G nid ⟨dst,.convert src t x,ty,pos,after,guard⟩ (.c (.string (strB l))) G:=
 .still fun E W ρ hG hρ=>by
   have h1:=hρ x _ hx;obtain⟨base,n,cap,hv,hn,hcap,hr⟩:=rowsOf_ok hG h1 hb;obtain⟨hu,_⟩:=sliceT_ok hs;have hue:=intT_ok he;obtain⟨hlen,hget⟩:=strA_get hl;obtain⟨d,hud,hdd⟩:=isT_out hd
   have hstr:P.underlying t=some .string:=by
    cases d<;>first|exact hud|simp[isString]at hdd
   have hconv:(Conv.bytesToString (.slice base n cap)).run P W= .ok (.string (strB l)) W:=by
    cases base with
    |none=>
     have h0:rows=[]:=by
      cases rows with
      |nil=>rfl
      |cons r rs=>obtain⟨_,_,_,h2,_⟩:=hr (by simp);cases h2
     subst h0;have:l=[]:=List.eq_nil_of_length_eq_zero (by simpa using hlen.symm)
     subst this;rfl
    |some a=>
     refine run_bytesToString W a n cap l ?_
     have hc:∀j v,(l.map (Value.int .u8))[j]? =some v→W.cell? (a.add j)=some v:=fun j v hj=>by
      rw[List.getElem?_map]at hj;obtain⟨m,hm,rfl⟩:=map_some hj;have hrow:=hget j m hm;have hne:rows≠[]:=fun h=>by subst h;simp at hrow
      obtain⟨b',p,s,h2,h3,h4⟩:=hr hne;injection h2 with h2
      subst h2;have hs1:s=1:=(h3 j _ hrow).symm;subst hs1;obtain⟨u,h5,h6⟩:=h4 j 0 _ _ hrow rfl;cases h6;rw[Addr.add_lit];simpa using h5
     have:=run_loadCells_list (P:=P) W a (l.map (Value.int .u8)) hc;rw[List.length_map,←hlen,←hn]at this;exact this
   refine⟨_,?_,.c _ rfl⟩;simp only[execOp,hv];rw[Sem.run_bind,run_convert_bytes_string W src t e base n cap hu hue hstr,hconv];rfl
theorem flat1:∀(rows:List (List AV)) (n j:Nat) (x:AV),(∀r∈rows,r.length=1)→((rows.take n).flatten)[j]? =some x→∃row,rows[j]? =some row∧row[0]? =some x
 |[],n,j,x,_,h=>by simp at h
 |r::rows,0,j,x,h,h2=>by simp at h2
 |r::rows,n+1,j,x,h,h2=>by
  obtain⟨y,rfl⟩:∃y,r=[y]:=List.length_eq_one_iff.1 (h r (by simp))
  cases j with
  |zero=>simp at h2;exact⟨[y],rfl,by simp[h2]⟩
  |succ j=>
   simp only[List.take_succ_cons,List.flatten_cons,List.singleton_append,List.getElem?_cons_succ]at h2;obtain⟨row,h3,h4⟩:=flat1 rows n j x (fun r hr=>h r (by simp[hr])) h2
   exact⟨row,by simpa using h3,h4⟩
theorem flat1_len:∀(rows:List (List AV)) (n:Nat),(∀r∈rows,r.length=1)→n≤rows.length→((rows.take n).flatten).length=n
 |[],n,_,h=>by simp at h;subst h;rfl
 |r::rows,0,_,_=>by simp
 |r::rows,n+1,h,h2=>by
  rw[List.take_succ_cons,List.flatten_cons,List.length_append,h r (by simp),flat1_len rows n (fun r hr=>h r (by simp[hr])) (by simpa using h2)]
  omega
theorem run_arrayAt{t e:TypeId}{n k:Nat}(ht:arrT P t=some (n,e,k))(a:Option Addr)(len cap:Nat)(hl:n≤len)(w:World):(Instr.arrayAt t (.slice a len cap)).run P w= .ok (.pointer a) w:=by
 obtain⟨hu,_⟩:=arrT_ok ht;have:¬len<n:=by omega
 simp[Instr.arrayAt,run_underlying hu,this]
theorem ok_arrP{dst:Option Tmp}{ty:TypeId}{pos:String}{after:Array Edge}{guard:Option (Nat×Bool)}{t e:TypeId}{n:Nat}{x:Operand}{rows:List (List AV)}(ht:arrT P t=some (n,e,1))(h0:0<n)(hl:n≤rows.length)(h1:∀r∈rows,r.length=1)(hx:g x=some (.snap rows)):
  OpOK P g G nid ⟨dst,.sliceToArrayPointer t x,ty,pos,after,guard⟩ (.sptr [(rows.take n).flatten] 0 0) G:=
 .still fun E W ρ hG hρ=>by
   have h2:=hρ x _ hx;generalize hρx:ρ x=vx at h2;cases h2 with
   |snap _ b off s m cap vs hn hcap hs hL hc hrr=>
    subst hn
    have hs1:s=1:=by
     cases rows with
     |nil=>simp at hl;omega
     |cons r rs=>rw[←hs 0 r rfl];exact h1 r (by simp)
    subst hs1;refine⟨_,by simp only[execOp,hρx];rw[Sem.run_bind,run_arrayAt ht _ _ _ hl];rfl,?_⟩
    have hrow:∀(i j:Nat) row x,[(rows.take n).flatten][i]? =some row→row[j]? =some x→i=0∧∃r,rows[j]? =some r∧r[0]? =some x:=fun i j row x hi hj=>by
     cases i with
     |zero=>
      simp at hi;subst hi;exact⟨rfl,flat1 rows n j x h1 hj⟩
     |succ i=>simp at hi
    have:=RV.sptr (E:=E) (W:=W) [(rows.take n).flatten] 0 0 b off n (fun _ j=>vs j 0)
     (fun i row hi=>by
       cases i with
       |zero=>simp at hi;subst hi;exact flat1_len rows n h1 hl
       |succ i=>simp at hi)
     (by simp only[List.length_cons,List.length_nil];omega)
     (fun i j row x hi hj=>by
       obtain⟨rfl,r,h3,h4⟩:=hrow i j row x hi hj;have:=hc j 0 r x h3 h4
       simpa using this)
     (fun i j row x hi hj=>by
       obtain⟨rfl,r,h3,h4⟩:=hrow i j row x hi hj
       exact hrr j 0 r x h3 h4)
    simpa using this
   |snap0 a cap=>simp at hl;omega
theorem ok_sliceNil{dst:Option Tmp}{ty:TypeId}{pos:String}{after:Array Edge}{guard:Option (Nat×Bool)}{t e:TypeId}{k:Nat}{x:Operand}{lo hi:Option Operand}(ht:sliceT P t=some (e,k))(hx:g x=some (.c (.slice none 0 0)))(hl:boundA g 0 lo=some 0)(hh:boundA g ((0:Nat):Int) hi=some 0):
  OpOK P g G nid ⟨dst,.slice t x lo hi none,ty,pos,after,guard⟩ (.c (.slice none 0 0)) G:=
 .still fun E W ρ hG hρ=>by
   have h3:=hρ x _ hx;generalize hρx:ρ x=vx at h3;cases h3;exact⟨_,by simp only[execOp,hρx,Option.map_none];rw[Sem.run_bind,run_sliceAt_ok hρ ht none 0 0 hl hh (by decide) (by decide) (by decide)];rfl,.c _ rfl⟩
theorem ok_cap{dst:Option Tmp}{ty:TypeId}{pos:String}{after:Array Edge}{guard:Option (Nat×Bool)}{t e:TypeId}{k n c:Nat}{x:Operand}{a:Option Addr}(ht:sliceT P t=some (e,k))(hx:g x=some (.c (.slice a n c))):
  OpOK P g G nid ⟨dst,.call ⟨.builtin .cap,#[x],#[t]⟩,ty,pos,after,guard⟩ (.c (.int .i64 c)) G:=
 .still fun E W ρ hG hρ=>by
   have h2:=hρ x _ hx;generalize hρx:ρ x=vx at h2;cases h2;obtain⟨hu,_⟩:=sliceT_ok ht;refine⟨_,?_,.c _ rfl⟩;rw[run_callB];simp only[builtin,List.map_toArray,List.map_cons,List.map_nil,hρx];simp[Builtin.cap_,run_underlying hu,goInt]
theorem ok_appendZ{dst:Option Tmp}{ty:TypeId}{pos:String}{after:Array Edge}{guard:Option (Nat×Bool)}{t tn e:TypeId}{k by_:Nat}{kq kn:IntKind}{n:Int}{zs:List AV}{x y:Operand}(ht:sliceT P t=some (e,k))(htn:intT P tn=some kn)(hz:zeroT P e=some zs)(hzk:zs.length=k)(hk0:0<k)(hby:bytesT P e=some by_)
  (hx:g x=some (.c (.slice none 0 0))) (hy:g y=some (.c (.int kq n))) (h0:0<n) (h63:n≤9223372036854775807) (hfit:n*by_≤281474976710656):
  OpOK P g G nid ⟨dst,.call ⟨.builtin .append,#[x,y],#[t,tn]⟩,ty,pos,after,guard⟩ (.own nid 0 n.toNat) (upd G [(nid,some (.cells e k (List.replicate n.toNat zs) true true))]):=fun E W ρ hG hnid hρ=>by
 have hx1:=hρ x _ hx;have hy1:=hρ y _ hy;generalize hρx:ρ x=vx at hx1;generalize hρy:ρ y=vy at hy1;cases hx1;cases hy1;obtain⟨hu,hk⟩:=sliceT_ok ht;obtain⟨i,z,hi,hz',hzr⟩:=zeroT_ok hz;have hik:=szT_info hi hk;have hibk:i.bytes=by_:=by simp[bytesT,hi]at hby;exact hby
 have h8:z.cells.size=k:=by have:=(hzr E W).1;simp at this;omega
 obtain⟨m,rfl⟩:=Int.eq_ofNat_of_zero_le (by omega:0≤n)
 simp only[Int.toNat_natCast]
 have h48:m*i.bytes≤281474976710656:=by
  rw[hibk]
  have h9:((m*by_:Nat):Int)≤281474976710656:=by
   push_cast
   exact hfit
  omega
 have hr:=Lib.run_append_nil_zeros (P:=P) W t tn ty e i z kq kn hu (intT_ok htn) hi hz' m (by omega) (by omega) h63 h48
 have hge:=grownCap_ge W m 0 e
 have hsz2:(Builtin.zeroCells z.cells m++Builtin.zeroCells z.cells (grownCap W m 0 e-m)).size=grownCap W m 0 e*k:=by
  simp only[Array.size_append,size_zeroCells,h8,←Nat.add_mul];congr 1;omega
 have hmul:m*k≤grownCap W m 0 e*k:=Nat.mul_le_mul_right k hge
 have hrow:∀(i:Nat) row,(List.replicate m zs)[i]? =some row→i<m∧row=zs:=fun i row hr=>by
  rw[List.getElem?_replicate]at hr;split at hr
  ·rename_i h;injection hr with hr;exact⟨h,hr.symm⟩
  ·cases hr
 have hGd:=hG.drew
 have hal:=hGd.alloc hnid e (Builtin.zeroCells z.cells m++Builtin.zeroCells z.cells (grownCap W m 0 e-m)) k (List.replicate m zs) true true (fun i row hr=>by rw[(hrow i row hr).2];exact hzk) (by rw[hsz2];simpa using hmul) (fun i j row x h5 h6=>by
  obtain⟨h9,rfl⟩:=hrow i row h5;obtain⟨v,h7,h10⟩:=(hzr E W).get h6;have hj:j<k:=by rw[←hzk];exact(List.getElem?_eq_some_iff.1 h6).1
  have hlt:=idx_lt h9 hj;refine⟨v,?_,h10.mono (Evo.drew E W)⟩;have hmod:(i*k+j) % k=j:=by rw[Nat.mul_comm,Nat.mul_add_mod];exact Nat.mod_eq_of_lt hj
  have hv:z.cells[j]? =some v:=by simpa using h7
  rw[Array.getElem?_append_left (by rw[size_zeroCells,h8];exact hlt)]
  unfold Builtin.zeroCells
  rw[Array.getElem?_map,Array.getElem?_range,if_pos (by rw[h8];exact hlt),Option.map_some,h8,hmod,getElem!_def,hv])
 have hv:=(Evo.drew E W).trans (Evo.alloc hGd hnid (.cells (Builtin.zeroCells z.cells m++Builtin.zeroCells z.cells (grownCap W m 0 e-m)) e) k);refine⟨_,.slice (some ⟨W.heap.size,0,none⟩) m (grownCap W m 0 e),_,.inl ?_,hv,hal,?_,fun id h=>h.imp (fun h=>h) (fun e=>⟨e,by simp[upd]⟩)⟩
 ·rw[run_callB]
  simp only[builtin,List.map_toArray,List.map_cons,List.map_nil,hρx,hρy];rw[Sem.run_bind,hr];rfl
 ·have:=RV.own (E:=E.more nid W.drew.heap.size k) (W:=W.drew.alloc (.cells (Builtin.zeroCells z.cells m++Builtin.zeroCells z.cells (grownCap W m 0 e-m)) e)) nid 0 m (grownCap W m 0 e) (.inr rfl) hge
   ⟨_,e,(0,0),by simp only[Env.more,if_true];exact heap_alloc_new W.drew _,by simp only[Env.more,if_true];rw[hsz2];simp⟩
  simpa[Env.more]using this
theorem res_ok{o:Oper}{a:AV}{wr:List (Nat×Option Blk)}{rd:List Nat}(h:res P g G nid o=some (a,wr,rd)):OpOK P g G nid o a (upd G wr):=by
 obtain⟨dst,op,ty,pos,after,guard⟩:=o;unfold res at h;split at h
 ·rename_i x he
  simp only at he;subst he;obtain⟨b,h1,h2⟩:=map_some h;simp only[Prod.mk.injEq]at h2;obtain⟨rfl,rfl,rfl⟩:=h2;exact ok_move h1
 ·rename_i x he
  simp only at he;subst he;obtain⟨b,h1,h2⟩:=map_some h;simp only[Prod.mk.injEq]at h2;obtain⟨rfl,rfl,rfl⟩:=h2;exact ok_assign h1
 ·rename_i c x y he
  simp only at he;subst he;unfold resPick at h;split at h
  ·rename_i b hb
   split at h
   ·rename_i p q hp hq
    simp only[Option.some.injEq,Prod.mk.injEq]at h;obtain⟨rfl,rfl,rfl⟩:=h;exact ok_pickB hb hp hq
   ·split at h
    ·obtain⟨d,h1,h2⟩:=map_some h
     simp only[Prod.mk.injEq]at h2;obtain⟨rfl,rfl,rfl⟩:=h2;exact ok_pick hb (fun _=>h1) (fun h=>by cases h)
    ·obtain⟨d,h1,h2⟩:=map_some h
     simp only[Prod.mk.injEq]at h2;obtain⟨rfl,rfl,rfl⟩:=h2;exact ok_pick hb (fun h=>by cases h) (fun _=>h1)
  ·cases h
 ·rename_i op' t x y yt he
  simp only at he;subst he;unfold resBin at h;split at h
  ·rename_i a' b' hx hy
   unfold resBinC at h;split at h
   ·rename_i hnil
    split at h
    ·rename_i ek r ht hr
     obtain⟨d,h1,h2⟩:=map_some h;simp only[Prod.mk.injEq]at h2;obtain⟨rfl,rfl,rfl⟩:=h2
     have hb:b'= .slice none 0 0:=by
      unfold nilV at hnil;split at hnil
      ·simp only[Bool.and_eq_true,beq_iff_eq]at hnil
       obtain⟨rfl,rfl⟩:=hnil;rfl
      ·cases hnil
     subst hb;exact ok_eqNil (e:=ek.1) (k:=ek.2) ht hx hy hr h1
    ·cases h
   ·split at h
    ·obtain⟨d,h1,h2⟩:=map_some h
     simp only[Prod.mk.injEq]at h2;obtain⟨rfl,rfl,rfl⟩:=h2;exact ok_binOp hx hy h1 (binV_agg h1)
    ·cases h
  ·rename_i xs ys hx hy
   split at h
   ·rename_i r hr
    obtain⟨d,h1,h2⟩:=map_some h;simp only[Prod.mk.injEq]at h2;obtain⟨rfl,rfl,rfl⟩:=h2;exact ok_eqAgg hx hy hr h1
   ·cases h
  ·cases h
 ·rename_i op' t x he
  simp only at he;subst he;unfold resUn at h;split at h
  ·rename_i b hx
   simp only[Option.some.injEq,Prod.mk.injEq]at h;obtain⟨rfl,rfl,rfl⟩:=h;exact ok_not hx
  ·rename_i k n hx
   simp only[Option.some.injEq,Prod.mk.injEq]at h;obtain⟨rfl,rfl,rfl⟩:=h;exact ok_neg hx
  ·rename_i k n hx
   simp only[Option.some.injEq,Prod.mk.injEq]at h;obtain⟨rfl,rfl,rfl⟩:=h;exact ok_xor hx
  ·cases h
 ·rename_i src t x he
  simp only at he;subst he;unfold resConvG at h;split at h
  ·rename_i k n hx
   unfold resConv at h;simp only[]at h;split at h
   ·rename_i ks kd h1 h2
    simp only[Option.some.injEq,Prod.mk.injEq]at h;obtain⟨rfl,rfl,rfl⟩:=h;exact ok_convert hx (by rw[h1];rfl) h2
   ·cases h
  ·unfold resStr at h
   split at h
   ·rename_i hd
    split at h
    ·rename_i e rows rd' hs hb
     split at h
     ·rename_i l he hl
      simp only[Option.some.injEq,Prod.mk.injEq]at h;obtain⟨rfl,rfl,rfl⟩:=h;cases hgx:g x with
      |none=>rw[hgx]at hb;cases hb
      |some b=>rw[hgx]at hb;exact ok_toStr hs he hd hgx hb hl
     ·cases h
    ·cases h
   ·cases h
 ·rename_i t x he
  simp only at he;subst he;unfold resArr at h;split at h
  ·rename_i rows hx
   split at h
   ·rename_i n e k ht
    split at h
    ·rename_i hc
     obtain⟨rfl,h1,h2,h3⟩:=hc;simp only[Option.some.injEq,Prod.mk.injEq]at h;obtain⟨rfl,rfl,rfl⟩:=h;exact ok_arrP ht h1 h2 (fun r hr=>by simpa using List.all_eq_true.1 h3 r hr) hx
    ·cases h
   ·cases h
  ·cases h
 ·rename_i x i he
  simp only at he;subst he;unfold resExtract at h;split at h
  ·rename_i xs hx
   obtain⟨d,h1,h2⟩:=map_some h;simp only[Prod.mk.injEq]at h2;obtain⟨rfl,rfl,rfl⟩:=h2;exact ok_extract hx h1
  ·cases h
 ·rename_i t x f he
  simp only at he;subst he;unfold resField at h;split at h
  ·rename_i xs hx
   split at h
   ·rename_i off k ft hf
    obtain⟨d,h1,h2⟩:=map_some h;simp only[Prod.mk.injEq]at h2;obtain⟨rfl,rfl,rfl⟩:=h2;exact ok_field hx hf h1
   ·cases h
  ·cases h
 ·rename_i t x f he
  simp only at he;subst he;unfold resFieldAddr at h;split at h
  ·rename_i id i o hx
   split at h
   ·rename_i off k ft hf
    split at h
    ·rename_i hk
     simp only[Option.some.injEq,Prod.mk.injEq]at h;obtain⟨rfl,rfl,rfl⟩:=h;exact ok_fieldAddr hx hf hk
    ·cases h
   ·cases h
  ·rename_i rows i o hx
   split at h
   ·rename_i off k ft hf
    split at h
    ·rename_i hk
     simp only[Option.some.injEq,Prod.mk.injEq]at h;obtain⟨rfl,rfl,rfl⟩:=h;exact ok_fieldAddrS hx hf hk
    ·cases h
   ·cases h
  ·cases h
 ·rename_i t x he
  simp only at he;subst he;unfold resLoad at h;split at h
  ·rename_i p hx
   split at h
   ·rename_i row o rd' hd
    obtain⟨d,h1,h2⟩:=map_some h;simp only[Prod.mk.injEq]at h2;obtain⟨rfl,rfl,rfl⟩:=h2;exact ok_load hx hd h1
   ·cases h
  ·cases h
 ·rename_i t x y he
  simp only at he;subst he;unfold resStore at h;split at h
  ·rename_i id i o a' hx hy
   split at h
   ·rename_i e s rows ap hg
    split at h
    ·rename_i row k hr hk
     split at h
     ·rename_i hc
      simp only[Option.some.injEq,Prod.mk.injEq]at h;obtain⟨rfl,rfl,rfl⟩:=h;exact ok_store hx hg hr hy hk hc.1 hc.2.1 hc.2.2
     ·cases h
    ·cases h
   ·cases h
  ·cases h
 ·rename_i t x y he
  simp only at he;subst he;unfold resIndexAddr at h;split at h
  ·rename_i id off len ik i hx hy
   split at h
   ·rename_i e k e' k' rows w ap ht hg
    split at h
    ·rename_i hc
     obtain⟨rfl,h0,h1⟩:=hc;simp only[Option.some.injEq,Prod.mk.injEq]at h;obtain⟨rfl,rfl,rfl⟩:=h;exact ok_indexOwn ht hx hy hg h0 h1
    ·cases h
   ·cases h
  ·rename_i rows ik i hx hy
   split at h
   ·rename_i e k row ht hr
    split at h
    ·rename_i hc
     simp only[Option.some.injEq,Prod.mk.injEq]at h;obtain⟨rfl,rfl,rfl⟩:=h;exact ok_indexSnap ht hx hy hc.1 hr hc.2
    ·cases h
   ·cases h
  ·rename_i id r o ik i hx hy
   split at h
   ·rename_i n e k ht
    split at h
    ·rename_i hc
     simp only[Option.some.injEq,Prod.mk.injEq]at h;obtain⟨rfl,rfl,rfl⟩:=h;exact ok_indexArr ht hx hy hc.1 hc.2
    ·cases h
   ·cases h
  ·rename_i rows r o ik i hx hy
   split at h
   ·rename_i n e k ht
    split at h
    ·rename_i hc
     simp only[Option.some.injEq,Prod.mk.injEq]at h;obtain⟨rfl,rfl,rfl⟩:=h;exact ok_indexArrS ht hx hy hc.1 hc.2
    ·cases h
   ·cases h
  ·cases h
 ·rename_i t x y he
  simp only at he;subst he;unfold resIndex at h;split at h
  ·rename_i xs ik i hx hy
   split at h
   ·rename_i n e k ht
    split at h
    ·rename_i hc
     obtain⟨d,h1,h2⟩:=map_some h;simp only[Prod.mk.injEq]at h2;obtain⟨rfl,rfl,rfl⟩:=h2;exact ok_index ht hx hy hc.1 hc.2 h1
    ·cases h
   ·cases h
  ·rename_i s ik i hx hy
   split at h
   ·rename_i hc
    obtain⟨d,h1,h2⟩:=map_some h;simp only[Prod.mk.injEq]at h2;obtain⟨rfl,rfl,rfl⟩:=h2;exact ok_indexStr hc.1 hx hy hc.2 h1
   ·cases h
  ·cases h
 ·rename_i t x lo hi mx he
  simp only at he;subst he;unfold resSliceM at h;split at h
  ·rename_i rows hx
   split at h
   ·rename_i e k l hh m ht hl hhi hm
    split at h
    ·rename_i hc
     simp only[Option.some.injEq,Prod.mk.injEq]at h;obtain⟨rfl,rfl,rfl⟩:=h;exact ok_sliceMax ht hx hl hhi hm hc.1 hc.2.1 hc.2.2.1 hc.2.2.2.1 hc.2.2.2.2
    ·cases h
   ·cases h
  ·rename_i id off len hx
   split at h
   ·rename_i e k e' k' rows w ap l hh m ht hg hl hhi hm
    split at h
    ·rename_i hc
     obtain⟨rfl,hc⟩:=hc;simp only[Option.some.injEq,Prod.mk.injEq]at h;obtain⟨rfl,rfl,rfl⟩:=h;exact ok_sliceOwnM ht hx hg hl hhi hm hc.1 hc.2.1 hc.2.2.1 hc.2.2.2
    ·cases h
   ·cases h
  ·cases h
 ·rename_i t x lo hi he
  simp only at he;subst he;unfold resSlice at h;split at h
  ·rename_i hx
   split at h
   ·rename_i q ht hl hhi
    simp only[Option.some.injEq,Prod.mk.injEq]at h;obtain⟨rfl,rfl,rfl⟩:=h;exact ok_sliceNil (e:=q.1) (k:=q.2) ht hx hl hhi
   ·cases h
  ·rename_i rows hx
   split at h
   ·rename_i e k l hh ht hl hhi
    split at h
    ·rename_i hc
     simp only[Option.some.injEq,Prod.mk.injEq]at h;obtain⟨rfl,rfl,rfl⟩:=h;exact ok_sliceSnap ht hx hl hhi hc.1 hc.2.1 hc.2.2.1 hc.2.2.2
    ·cases h
   ·cases h
  ·rename_i id off len hx
   split at h
   ·rename_i e k e' k' rows w ap l hh ht hg hl hhi
    split at h
    ·rename_i hc
     obtain⟨rfl,hc⟩:=hc;simp only[Option.some.injEq,Prod.mk.injEq]at h;obtain⟨rfl,rfl,rfl⟩:=h;exact ok_sliceOwn ht hx hg hl hhi hc.1 hc.2.1 hc.2.2
    ·cases h
   ·cases h
  ·rename_i id i o hx
   split at h
   ·rename_i n e e' k' rows w ap ht hg
    split at h
    ·rename_i row l hh hrow hl hhi
     split at h
     ·rename_i hc
      simp only[Option.some.injEq,Prod.mk.injEq]at h;obtain⟨rfl,rfl,rfl⟩:=h;exact ok_sliceArr ht hx hg hrow hc.1 hl hhi hc.2.1 hc.2.2.1 hc.2.2.2.1 hc.2.2.2.2
     ·cases h
    ·cases h
   ·cases h
  ·rename_i rows i o hx
   split at h
   ·rename_i n e row ht hrow
    split at h
    ·rename_i l hh hl hhi
     split at h
     ·rename_i hc
      simp only[Option.some.injEq,Prod.mk.injEq]at h;obtain⟨rfl,rfl,rfl⟩:=h;exact ok_sliceSp ht hx hrow hc.1 hl hhi hc.2.1 hc.2.2.1 hc.2.2.2.1 hc.2.2.2.2
     ·cases h
    ·cases h
   ·cases h
  ·cases h
 ·rename_i t he
  simp only at he;subst he;obtain⟨d,h1,h2⟩:=map_some h;simp only[Prod.mk.injEq]at h2;obtain⟨rfl,rfl,rfl⟩:=h2;exact ok_alloc h1
 ·rename_i t x he
  simp only at he;subst he;obtain⟨d,h1,h2⟩:=map_some h;simp only[Prod.mk.injEq]at h2;obtain⟨rfl,rfl,rfl⟩:=h2;exact ok_box h1
 ·rename_i t ps he
  simp only at he;subst he;split at h
  ·rename_i zs as hz hb hp
   obtain⟨d,h1,h2⟩:=map_some h;simp only[Prod.mk.injEq]at h2;obtain⟨rfl,rfl,rfl⟩:=h2;exact ok_build hz hb hp h1
  ·cases h
 ·rename_i t len ps he
  simp only at he;subst he;split at h
  ·rename_i e k as ht hp
   split at h
   ·rename_i zs hz
    split at h
    ·rename_i hc
     obtain⟨d,h1,h2⟩:=map_some h;simp only[Prod.mk.injEq]at h2;obtain⟨rfl,rfl,rfl⟩:=h2;exact ok_buildSlice ht hz hc.1 hc.2 hp h1
    ·cases h
   ·cases h
  ·cases h
 ·rename_i t l c he
  simp only at he;subst he;unfold resMake at h;split at h
  ·rename_i kl l' kc c' hx hy
   split at h
   ·rename_i e k ht
    split at h
    ·rename_i zs by_ hz hby
     split at h
     ·rename_i hc
      simp only[Option.some.injEq,Prod.mk.injEq]at h;obtain⟨rfl,rfl,rfl⟩:=h;exact ok_makeSlice ht hz hc.1 hby hx hy hc.2.1 hc.2.2.1 hc.2.2.2.1 hc.2.2.2.2
     ·cases h
    ·cases h
   ·cases h
  ·cases h
 ·rename_i t he
  simp only at he;subst he;simp only[Option.some.injEq,Prod.mk.injEq]at h;obtain⟨rfl,rfl,rfl⟩:=h;exact ok_makeMap
 ·rename_i t x he
  simp only at he;subst he;unfold resRange at h;split at h
  ·rename_i id hm
   split at h
   ·rename_i es p hg ht
    simp only[Option.some.injEq,Prod.mk.injEq]at h;obtain⟨rfl,rfl,rfl⟩:=h;obtain⟨kt,e,d⟩:=p;exact ok_range ht hm hg
   ·cases h
  ·cases h
 ·rename_i x he
  simp only at he;subst he;unfold resEntry at h;split at h
  ·rename_i id hx
   split at h
   ·rename_i m n seen hg
    split at h
    ·rename_i i es hs hm
     split at h
     ·rename_i k a' hes
      split at h
      ·rename_i hc
       simp only[Option.some.injEq,Prod.mk.injEq]at h;obtain⟨rfl,rfl,rfl⟩:=h;obtain⟨d,hd⟩:=anyKeyB_ok hc.2
       obtain⟨s0,rfl⟩:∃s0,seen=s0++[i]:=by
        rw[List.getLast?_eq_some_iff]at hs;exact hs
       exact ok_entry hx hg hm hc.1 hes hd
      ·cases h
     ·cases h
    ·cases h
   ·cases h
  ·cases h
 ·rename_i t m x ok he
  simp only at he;subst he;unfold resLookup at h;split at h
  ·rename_i id xa hm hx
   split at h
   ·rename_i kv es kt e d hxk hg ht
    split at h
    ·rename_i z hz
     split at h
     ·rename_i hc
      simp only[Option.some.injEq,Prod.mk.injEq]at h;obtain⟨rfl,rfl,rfl⟩:=h;exact ok_lookup ht hz hm hg hx hxk hc.1 hc.2
     ·cases h
    ·cases h
   ·cases h
  ·cases h
 ·rename_i t m x y he
  simp only at he;subst he;unfold resMapUpdate at h;split at h
  ·rename_i id xa a' hm hx hy
   split at h
   ·rename_i kv es kt e d hxk hg ht
    split at h
    ·rename_i hc
     simp only[Option.some.injEq,Prod.mk.injEq]at h;obtain⟨rfl,rfl,rfl⟩:=h;exact ok_mapUpdate ht hm hg hx hxk hy hc.1 hc.2
    ·cases h
   ·cases h
  ·cases h
 ·rename_i fn first captured he
  simp only at he;subst he;split at h
  ·rename_i fs cs hf hc
   simp only[Option.some.injEq,Prod.mk.injEq]at h;obtain⟨rfl,rfl,rfl⟩:=h;exact ok_makeFuncs hf hc
  ·cases h
 ·rename_i t x he
  simp only at he;subst he;unfold resMI at h;split at h
  ·rename_i v ht hv
   simp only[Option.some.injEq,Prod.mk.injEq]at h;obtain⟨rfl,rfl,rfl⟩:=h;cases hx:g x with
   |none=>simp[hx]at hv
   |some a=>exact ok_makeIface ht hx (by simpa[hx]using hv)
  ·cases h
 ·rename_i x xt t ok he
  simp only at he;subst he;unfold resAssert at h;split at h
  ·rename_i t' v hx
   split at h
   ·rename_i ht
    split at h
    ·rename_i hte
     subst hte;obtain⟨d,h1,h2⟩:=map_some h;simp only[Prod.mk.injEq]at h2;obtain⟨rfl,rfl,rfl⟩:=h2;exact ok_assertIs ht hx h1
    ·rename_i hne
     obtain⟨rfl,z,hz,h2⟩:=zeroNo_out h;simp only[Prod.mk.injEq]at h2;obtain⟨rfl,rfl,rfl⟩:=h2;exact ok_assertNot ht hx hne hz
   ·cases h
  ·rename_i hx
   split at h
   ·rename_i ht
    obtain⟨rfl,z,hz,h2⟩:=zeroNo_out h;simp only[Prod.mk.injEq]at h2;obtain⟨rfl,rfl,rfl⟩:=h2;exact ok_assertNil ht hx hz
   ·cases h
  ·cases h
 ·rename_i x he
  simp only at he;subst he;split at h
  ·rename_i id i o hx
   simp only[Option.some.injEq,Prod.mk.injEq]at h;obtain⟨rfl,rfl,rfl⟩:=h;exact ok_nilPtr hx
  ·rename_i rows i o hx
   simp only[Option.some.injEq,Prod.mk.injEq]at h;obtain⟨rfl,rfl,rfl⟩:=h;exact ok_nilSptr hx
  ·cases h
 ·rename_i b as ts he
  simp only at he;subst he;obtain⟨as⟩:=as;obtain⟨ts⟩:=ts;unfold resBuiltin at h;split at h
  ·rename_i a' t h1 h2
   simp only at h1 h2
   obtain⟨x,rfl,hx⟩:∃x,as=[x]∧g x=a':=by
    cases as with
    |nil=>simp at h1
    |cons x r=>cases r<;>simp_all
   subst h2;unfold resLen at h;split at h
   ·rename_i id
    split at h
    ·rename_i es q hg ht
     obtain⟨kt,e,d⟩:=q;simp only[Option.some.injEq,Prod.mk.injEq]at h;obtain⟨rfl,rfl,rfl⟩:=h;exact ok_lenMap ht hx hg
    ·cases h
   ·rename_i s
    split at h
    ·rename_i hc
     simp only[Option.some.injEq,Prod.mk.injEq]at h;obtain⟨rfl,rfl,rfl⟩:=h;exact ok_lenStr hc hx
    ·cases h
   ·rename_i b' _
    split at h
    ·rename_i q n ht hn
     obtain⟨e,k⟩:=q;simp only[Option.some.injEq,Prod.mk.injEq]at h;obtain⟨rfl,rfl,rfl⟩:=h;exact ok_len ht hx hn
    ·cases h
   ·cases h
  ·rename_i _ a' b' h1
   simp only at h1
   obtain⟨x,y,rfl,hx,hy⟩:∃x y,as=[x,y]∧g x=a'∧g y=b':=by
    cases as with
    |nil=>simp at h1
    |cons x r=>cases r with
     |nil=>simp at h1
     |cons y r=>cases r with
      |nil=>simp at h1;exact⟨x,y,rfl,h1.1,h1.2⟩
      |cons z r=>simp at h1
   unfold resMM at h;split at h
   ·simp only[Option.some.injEq,Prod.mk.injEq]at h
    obtain⟨rfl,rfl,rfl⟩:=h;exact ok_max hx hy
   ·cases h
  ·rename_i _ a' b' h1
   simp only at h1
   obtain⟨x,y,rfl,hx,hy⟩:∃x y,as=[x,y]∧g x=a'∧g y=b':=by
    cases as with
    |nil=>simp at h1
    |cons x r=>cases r with
     |nil=>simp at h1
     |cons y r=>cases r with
      |nil=>simp at h1;exact⟨x,y,rfl,h1.1,h1.2⟩
      |cons z r=>simp at h1
   unfold resMM at h;split at h
   ·simp only[Option.some.injEq,Prod.mk.injEq]at h
    obtain⟨rfl,rfl,rfl⟩:=h;exact ok_min hx hy
   ·cases h
  ·rename_i a' b' t t' h1 h2
   simp only at h1 h2
   obtain⟨x,y,rfl,hx,hy⟩:∃x y,as=[x,y]∧g x=a'∧g y=b':=by
    cases as with
    |nil=>simp at h1
    |cons x r=>cases r with
     |nil=>simp at h1
     |cons y r=>cases r with
      |nil=>simp at h1;exact⟨x,y,rfl,h1.1,h1.2⟩
      |cons z r=>simp at h1
   subst h2;split at h
   ·rename_i ht
    subst ht;unfold resAppend at h;split at h
    ·rename_i id n b
     split at h
     ·rename_i e k rows w rows2 rd' e' k' hg hb ht
      split at h
      ·rename_i zs by_ hz hby
       split at h
       ·rename_i hc
        obtain⟨rfl,rfl,h3,h4,h5,h6,h7⟩:=hc;simp only[Option.some.injEq,Prod.mk.injEq]at h;obtain⟨rfl,rfl,rfl⟩:=h;exact ok_appendOwn ht hz h3 hby hx hg h4 hy hb h5 h6 h7
       ·cases h
      ·cases h
     ·cases h
    ·rename_i b
     split at h
     ·rename_i rows2 rd' e k hb ht
      split at h
      ·rename_i hem
       simp only[Option.some.injEq,Prod.mk.injEq]at h;obtain⟨rfl,rfl,rfl⟩:=h;have:rows2=[]:=by simpa using hem
       subst this;exact ok_appendNil0 ht hx hy hb
      ·rename_i hem
       split at h
       ·rename_i zs by_ hz hby
        split at h
        ·rename_i hc
         obtain⟨h3,h4,h5,h6⟩:=hc;simp only[Option.some.injEq,Prod.mk.injEq]at h;obtain⟨rfl,rfl,rfl⟩:=h;exact ok_appendNil ht hz h3 hby hx hy hb (by simpa using hem) h4 h5 h6
        ·cases h
       ·cases h
     ·cases h
    ·cases h
   ·unfold resAppendZ at h
    split at h
    ·rename_i k n
     split at h
     ·rename_i e k' kn ht htn
      split at h
      ·rename_i zs by_ hz hby
       split at h
       ·rename_i hc
        obtain⟨h3,h4,h5,h6,h7⟩:=hc;simp only[Option.some.injEq,Prod.mk.injEq]at h;obtain⟨rfl,rfl,rfl⟩:=h;exact ok_appendZ ht htn hz h3 h4 hby hx hy h5 h6 h7
       ·cases h
      ·cases h
     ·cases h
    ·cases h
  ·rename_i a' t h1 h2
   simp only at h1 h2
   obtain⟨x,rfl,hx⟩:∃x,as=[x]∧g x=a':=by
    cases as with
    |nil=>simp at h1
    |cons x r=>cases r<;>simp_all
   subst h2;unfold resCap at h;split at h
   ·split at h
    ·rename_i q ht
     simp only[Option.some.injEq,Prod.mk.injEq]at h;obtain⟨rfl,rfl,rfl⟩:=h;exact ok_cap (e:=q.1) (k:=q.2) ht hx
    ·cases h
   ·cases h
  ·rename_i _ a' b' t t' h1 h2
   simp only at h1 h2
   obtain⟨x,y,rfl,hx,hy⟩:∃x y,as=[x,y]∧g x=a'∧g y=b':=by
    cases as with
    |nil=>simp at h1
    |cons x r=>cases r with
     |nil=>simp at h1
     |cons y r=>cases r with
      |nil=>simp at h1;exact⟨x,y,rfl,h1.1,h1.2⟩
      |cons z r=>simp at h1
   subst h2;unfold resCopy at h;split at h
   ·rename_i id off len b
    split at h
    ·rename_i e k rows ap rows2 rd' e' k' hg hb ht
     split at h
     ·rename_i hc
      obtain⟨rfl,rfl,h3,h4⟩:=hc;simp only[Option.some.injEq,Prod.mk.injEq]at h;obtain⟨rfl,rfl,rfl⟩:=h;exact ok_copyOwn ht hx hg h3 hy hb h4
     ·cases h
    ·cases h
   ·rename_i id i o len b
    split at h
    ·rename_i e s rows ap rows2 rd' e' hg hb ht
     split at h
     ·rename_i row hrow
      split at h
      ·rename_i hc
       simp only[Option.some.injEq,Prod.mk.injEq]at h;obtain⟨rfl,rfl,rfl⟩:=h;exact ok_copySub ht hx hg hrow hc.1 hy hb hc.2
      ·cases h
     ·cases h
    ·cases h
   ·cases h
  ·cases h
 ·cases h
end
end Go.AL
