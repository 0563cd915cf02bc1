/- Staging. No condition. -/
import Derived.Test.YtioafciifiggaaaGreatDoorL0
import Derived.Test.YtioafciifiggaaaGreatDoorLd
import Derived.LoopNIn
import Derived.IntWalk
import Derived.DataReads
import Derived.WideShapes
import Derived.ProofKit
import Derived.OpenShut
import Derived.ChangeArms
set_option linter.all false
namespace Go.AL
open Go.RowKit
def SQ(P:Program)(c:Code)(Q:Exit->AS->Prop):Nat->AS->Prop
 |0,_=>False
 |n+1,σ=>AW P c σ (cZ (SQ P c Q n) Q)
theorem Uu{F:Fence}{m:Nat}{P:Program}{c:Code}{Q Q':Exit->Act->World->Prop}(hq:∀e a w,Q e a w->Q' e a w):∀(n:Nat) {a:Act} {w:World},Code.roundsIn F m P c Q n a w->Code.roundsIn F m P c Q' n a w
 |0,_,_,h=>h.elim
 |n+1,a,w,h=>by
  rw[roundsIn_succ]at h⊢;refine wpIn_mono h fun e a' w' he=> ?_
  cases e with
  |normal=>exact Uu hq n he
  |_=>exact hq _ _ _ he
theorem Uv{P:Program}{c:Code}{Q:Exit->AS->Prop}{ro:Option Nat}:∀(n:Nat) {σ:AS},SQ P c Q n σ->∀{E:Env} {W:World} {act:Act},N8 ro W->Rel E W σ act->Code.roundsIn (kN ro) 3 P c (fun e cE W'=>∃E' aL,eB E W act E' W' cE/\Rel E' W' aL cE/\aL.nt=σ.nt/\Q e aL) n act W
 |0,σ,h,_,_,_,_,_=>h.elim
 |n+1,σ,h,E,W,act,eH,hr=>by
  rw[roundsIn_succ];refine wpIn_mono (h ro E W act eH hr) fun e a w ⟨E',aL,h1,h2,h3,h4⟩=> ?_
  cases e with
  |normal=>
   have:=Uv n h4 (eH.mono h1.oY) h2;refine Uu ?_ n this;exact fun e' a' w' ⟨wP,dV,h5,h6,h7,h8⟩=>⟨wP,dV,h1.trans h5,h6,h7.trans h3,h8⟩
  |_=>exact⟨E',aL,h1,h2,h3,h4⟩
theorem eP{P:Program}{c:Code}{σ:AS}{Q:Exit->AS->Prop}(n:Nat)(h:SQ P c Q n σ):AW P (.loop c) σ Q:=fun ro E W act eH hr=>wpIn_loop_rounds n (Uv n h eH hr)
theorem eQ{P:Program}{c:Code}{σ:AS}{Q:Exit->AS->Prop}{n:Nat}(h:AW P c σ (cZ (SQ P c Q n) Q)):SQ P c Q (n+1) σ:=h
theorem bb8{P:Program}{σ:AS}{Q:Exit->AS->Prop}{c:Operand}{x y:Code}(hc:jM (σ.get true c)=some true)(h:AW P x σ Q):AW P (.cond c x y) σ Q:=Gc (zR hc) (fun _=>h) (fun h=>by cases h)
theorem bb9{P:Program}{σ:AS}{Q:Exit->AS->Prop}{c:Operand}{x y:Code}(hc:jM (σ.get true c)=some false)(h:AW P y σ Q):AW P (.cond c x y) σ Q:=Gc (zR hc) (fun h=>by cases h) (fun _=>h)
end Go.AL
namespace Go.AL
open Go.RowKit
inductive Wk:AV->AV->Prop
 |refl (a:AV):Wk a a
 |nil {a:Option Addr} {cap:Nat}:Wk (.c (.slice a 0 cap)) (.snap [])
 |agg (xs ys:List AV) (hl:xs.length=ys.length) (h:∀(i:Nat) x y,xs[i]? =some x->ys[i]? =some y->Wk x y):Wk (.agg xs) (.agg ys)
 |aR (xs ys:List AV) (hl:xs.length=ys.length) (h:∀(i:Nat) x y,xs[i]? =some x->ys[i]? =some y->Wk x y):Wk (.aR xs) (.aR ys)
 |dJ (rows dZ:List (List AV)) (i o:Nat) (hl:rows.length=dZ.length) (bQ:∀(k:Nat) a b,rows[k]? =some a->dZ[k]? =some b->a.length=b.length)
   (h:∀(k j:Nat) a b x y,rows[k]? =some a->dZ[k]? =some b->a[j]? =some x->b[j]? =some y->Wk x y):Wk (.dJ rows i o) (.dJ dZ i o)
 |snap (rows dZ:List (List AV)) (hl:rows.length=dZ.length) (bQ:∀(k:Nat) a b,rows[k]? =some a->dZ[k]? =some b->a.length=b.length)
   (h:∀(k j:Nat) a b x y,rows[k]? =some a->dZ[k]? =some b->a[j]? =some x->b[j]? =some y->Wk x y):Wk (.snap rows) (.snap dZ)
def zK(xs ys:List AV):Prop:=xs.length=ys.length/\∀(i:Nat) x y,xs[i]? =some x->ys[i]? =some y->Wk x y
theorem sP:zK [] []:=⟨rfl,fun i x y h=>by simp at h⟩
theorem UR(xs:List AV):zK xs xs:=⟨rfl,fun i x y h h'=>by rw[h]at h';injection h' with h';subst h';exact .refl x⟩
theorem iO{x y:AV}{xs ys:List AV}(h:Wk x y)(hs:zK xs ys):zK (x::xs) (y::ys):=by
 refine⟨by simp[hs.1],fun i a b h1 h2=> ?_⟩
 cases i with
 |zero=>simp at h1 h2;subst h1 h2;exact h
 |succ i=>exact hs.2 i a b (by simpa using h1) (by simpa using h2)
theorem DB{xs ys:List AV}(h:zK xs ys):Wk (.agg xs) (.agg ys):= .agg xs ys h.1 h.2
theorem DA{xs ys:List AV}(h:zK xs ys):Wk (.aR xs) (.aR ys):= .aR xs ys h.1 h.2
theorem RV.wk{E:Env}{W:World}{a b:AV}(h:Wk a b):∀{v:Value},RV E W a v->RV E W b v:=by
 induction h with
 |refl a=>exact fun r=>r
 |nil=>intro v r;cases r;exact .kY _ _
 |agg xs ys hl h ih=>
  intro v r;cases r with
  |agg _ vs rH hr=>
  refine .agg ys vs (hl▸rH) fun i y v hy hv=> ?_
  obtain⟨x,hx⟩:∃x,xs[i]? =some x:=⟨xs[i]'(by have:=(dS.1 hy).1;omega),by simp⟩
  exact ih i x y hx hy (hr i x v hx hv)
 |aR xs ys hl h ih=>
  intro v r;cases r with
  |aR _ vs rH hr=>
  refine .aR ys vs (hl▸rH) fun i y v hy hv=> ?_
  obtain⟨x,hx⟩:∃x,xs[i]? =some x:=⟨xs[i]'(by have:=(dS.1 hy).1;omega),by simp⟩
  exact ih i x y hx hy (hr i x v hx hv)
 |dJ rows dZ i o hl bQ h ih=>
  intro v r;cases r with
  |dJ _ _ _ b off s vs hs hL hc hr=>
  have get:∀(k:Nat) fG,dZ[k]? =some fG->∃row,rows[k]? =some row/\row.length=fG.length:=fun k fG h2=>by
   have hk:k<rows.length:=by have:=(dS.1 h2).1;omega
   exact⟨rows[k],fU hk,bQ k _ _ (fU hk) h2⟩
  have SR:∀(k j:Nat) fG y,dZ[k]? =some fG->fG[j]? =some y->∃row x,rows[k]? =some row/\row[j]? =some x:=fun k j fG y h2 h3=>by
   obtain⟨row,h4,h5⟩:=get k fG h2;have hj:j<row.length:=by have:=(dS.1 h3).1;omega
   exact⟨row,row[j],h4,fU hj⟩
  refine .dJ dZ i o b off s vs (fun k fG h2=> ?_) (hl▸hL) (fun k j fG y h2 h3=> ?_) (fun k j fG y h2 h3=> ?_)
  ·obtain⟨row,h4,h5⟩:=get k fG h2
   rw[<-h5];exact hs k row h4
  ·obtain⟨row,x,h4,h5⟩:=SR k j fG y h2 h3
   exact hc k j row x h4 h5
  ·obtain⟨row,x,h4,h5⟩:=SR k j fG y h2 h3
   exact ih k j row fG x y h4 h2 h5 h3 (hr k j row x h4 h5)
 |snap rows dZ hl bQ h ih=>
  intro v r
  have get:∀(k:Nat) fG,dZ[k]? =some fG->∃row,rows[k]? =some row/\row.length=fG.length:=fun k fG h2=>by
   have hk:k<rows.length:=by have:=(dS.1 h2).1;omega
   exact⟨rows[k],fU hk,bQ k _ _ (fU hk) h2⟩
  have SR:∀(k j:Nat) fG y,dZ[k]? =some fG->fG[j]? =some y->∃row x,rows[k]? =some row/\row[j]? =some x:=fun k j fG y h2 h3=>by
   obtain⟨row,h4,h5⟩:=get k fG h2;have hj:j<row.length:=by have:=(dS.1 h3).1;omega
   exact⟨row,row[j],h4,fU hj⟩
  cases r with
  |kY a cap=>
   have:dZ=[]:=Is.1 hl.symm;subst this;exact .kY _ _
  |snap _ b off s n cap vs hn oG hs hL hc hr=>
  refine .snap dZ b off s n cap vs (hl▸hn) oG (fun k fG h2=> ?_) (hl▸hL) (fun k j fG y h2 h3=> ?_) (fun k j fG y h2 h3=> ?_)
  ·obtain⟨row,h4,h5⟩:=get k fG h2
   rw[<-h5];exact hs k row h4
  ·obtain⟨row,x,h4,h5⟩:=SR k j fG y h2 h3
   exact hc k j row x h4 h5
  ·obtain⟨row,x,h4,h5⟩:=SR k j fG y h2 h3
   exact ih k j row fG x y h4 h2 h5 h3 (hr k j row x h4 h5)
def xD(xs ys:List (List AV)):Prop:=xs.length=ys.length/\∀(k:Nat) a b,xs[k]? =some a->ys[k]? =some b->zK a b
theorem yS:xD [] []:=⟨rfl,fun i x y h=>by simp at h⟩
theorem vV{x y:List AV}{xs ys:List (List AV)}(h:zK x y)(hs:xD xs ys):xD (x::xs) (y::ys):=by
 refine⟨by simp[hs.1],fun i a b h1 h2=> ?_⟩
 cases i with
 |zero=>simp at h1 h2;subst h1 h2;exact h
 |succ i=>exact hs.2 i a b (by simpa using h1) (by simpa using h2)
theorem C3{xs ys:List (List AV)}(h:xD xs ys):Wk (.snap xs) (.snap ys):=
 .snap xs ys h.1 (fun k a b h1 h2=>(h.2 k a b h1 h2).1) (fun k j a b x y h1 h2 h3 h4=>(h.2 k a b h1 h2).2 j x y h3 h4)
theorem fD.wk{P:Program}{n:FuncId}{args:List AV}{b:AV}(h:fD P n args (Wk · b))(hn:bJ b):fD P n args (·=b):=
 ⟨h.1,fun L W vs hL hr=>(h.2 L W vs hL hr).mono fun e W' ⟨v,he,r,L',h1,h2,h3,h4,h5,h6⟩=>⟨v,he,b,L',h1,h2,h3,h4.wk h6,hn,rfl⟩⟩
theorem PK{a b:Int}(h:a<b):decide (a<b)=true:=by simp[h]
theorem PL{a b:Int}(h:¬a<b):decide (a<b)=false:=by simp[h]
theorem rP{a b:Int}(h:a<=b):decide (a<=b)=true:=by simp[h]
theorem yR{a b:Int}(h:¬a<=b):decide (a<=b)=false:=by simp[h]
theorem Zn{a b:Int}(h:a≠b):(a !=b)=true:=by simp[h]
theorem Zo{a b:Int}(h:a=b):(a !=b)=false:=by simp[h]
theorem Zl{a b:Int}(h:a=b):(a==b)=true:=by simp[h]
theorem Zm{a b:Int}(h:a≠b):(a==b)=false:=by simp[h]
end Go.AL
namespace Go.AL
open Go.RowKit
def Y2:Op->Bool
 | .call ⟨.value _,_,_⟩=>false
 | .pick _ _ _=>false
 |_=>true
section
variable {P : Program} {σ : AS}
theorem bc0{o:Oper}{K:AS->Prop}(aP:Y2 o.op=true){a:AV}{wr:List (Nat×Option aI)}{rd:List Nat}(kZ:res P (σ.get true) σ.H.get σ.H.next o=some (a,wr,rd))
  (hk:K (({σ with H:=σ.H.app wr}:AS).put o.dst true a)):oZ P o σ K:=by
 unfold oZ;split
 ·rename_i f as ts h;rw[h]at aP;cases aP
 ·rename_i b x y h;rw[h]at aP;cases aP
 ·rename_i x h;rw[Ue h]at kZ;cases kZ
 ·rw[kZ,vL];exact hk
theorem bc1{ops:Array Oper}{o:Oper}{rest:List Oper}{K:AS->Prop}{p:AS×List Oper}{j:Nat}{want:Bool}{a:AV}{wr:List (Nat×Option aI)}{rd:List Nat}(aP:Y2 o.op=true)(hg:o.guard=some (j,want))
  (hw:oH (nW ops.toList j σ.env) want=some true) (kZ:res P (σ.get true) σ.H.get σ.H.next o=some (a,wr,rd)) (hr:run P ops.toList rest (({σ with H:=σ.H.app wr}:AS).put o.dst true a)=p) (h:aX P true ops p.2 p.1 K):aX P true ops (o::rest) σ K:=by
 show mQ P true ops o σ _
 unfold mQ;simp only[hg];rw[hw,vL];simp only[hold];refine .inr ?_;unfold N9;split
 ·rename_i f as ts h;rw[h]at aP;cases aP
 ·rename_i b x y h;rw[h]at aP;cases aP
 ·have hx:oZ P o σ fun aL=>aX P true ops rest aL K:=bc0 aP kZ (nQ _ _ hr h)
  cases hpt:parts o.op with
  |true=>simp only[if_true,wU,hold];exact⟨fun _=>hx,fun h=>by cases h⟩
  |false=>
   simp only[kV,if_false,kZ];cases wr with
   |nil=>simp only[JS,wU];exact nQ _ _ hr h
   |cons w r=>simp only[JS,wU,hold];exact⟨fun _=>hx,fun h=>by cases h⟩
def BF(ops:List Oper):List Oper->AS->Option (AS×List Oper)
 |[],σ=>some (σ,[])
 |o::r,σ=>Gf (BF ops r) ops σ o r o.guard
where
 Gg (f:AS->Option (AS×List Oper)) (σ:AS) (o:Oper) (r:List Oper):Option Bool->Option (AS×List Oper)
  |some c=>cond c (some (σ,o::r)) (f (σ.put o.dst false (.c (.bool false))))
  |none=>some (σ,o::r)
 Gf (f:AS->Option (AS×List Oper)) (ops:List Oper) (σ:AS) (o:Oper) (r:List Oper):Option (Nat×Bool)->Option (AS×List Oper)
  |some (j,want)=>Gg f σ o r (oH (nW ops j σ.env) want)
  |none=>some (σ,o::r)
theorem Uw{ops:Array Oper}{K:AS->Prop}:∀(l:List Oper) (σ:AS) {p:AS×List Oper},BF ops.toList l σ=some p->aX P true ops p.2 p.1 K->aX P true ops l σ K
 |[],σ,p,h,hk=>by simp only[BF]at h;injection h with h;subst h;exact hk
 |o::r,σ,p,h,hk=>by
  simp only[BF]at h;unfold BF.Gf at h;split at h
  ·rename_i j want hg
   unfold BF.Gg at h;split at h
   ·rename_i c hc
    cases c with
    |true=>simp only[cond]at h;injection h with h;subst h;exact hk
    |false=>
     simp only[cond]at h
     show mQ P true ops o σ _
     unfold mQ;simp only[hg];rw[hc,vL];exact .inl (.inl ⟨rfl,Uw r _ h hk⟩)
   ·injection h with h;subst h;exact hk
  ·injection h with h;subst h;exact hk
theorem bc2{ops:Array Oper}{o:Oper}{rest:List Oper}{K:AS->Prop}{p q:AS×List Oper}{j:Nat}{want:Bool}(hg:o.guard=some (j,want))
  (hw:oH (nW ops.toList j σ.env) want=some false) (hs:BF ops.toList rest (σ.put o.dst false (.c (.bool false)))=some q)
  (hr:run P ops.toList q.2 q.1=p) (h:aX P true ops p.2 p.1 K):aX P true ops (o::rest) σ K:=by
 show mQ P true ops o σ _
 unfold mQ;simp only[hg];rw[hw,vL];exact .inl (.inl ⟨rfl,Uw _ _ hs (nQ _ _ hr h)⟩)
theorem bc3{o:Oper}{K:AS->Prop}{b x y:Operand}{b0:Bool}{a:AV}(aP:o.op= .pick b x y)(hb:jM (σ.get true b)=some b0)(hn:yJ (jM (σ.get b0 x)) (jM (σ.get (!b0) y))=none)(ha:σ.get true (cond b0 x y)=some a)(hk:K (σ.put o.dst true a)):oZ P o σ K:=by
 unfold oZ;simp only[aP];rw[hb,vL];simp only[hold];rw[hn];refine⟨fun h=> ?_,fun h=> ?_⟩<;>subst h<;>simp only[cond]at ha<;>rw[ha,vL]<;>exact hk
theorem bc4{ops:Array Oper}{o:Oper}{rest:List Oper}{K:AS->Prop}{p:AS×List Oper}{b x y:Operand}{b0:Bool}{a:AV}(aP:o.op= .pick b x y)(hg:o.guard=none)
  (hb:jM (σ.get true b)=some b0) (hn:yJ (jM (σ.get b0 x)) (jM (σ.get (!b0) y))=none) (ha:σ.get true (cond b0 x y)=some a) (hr:run P ops.toList rest (σ.put o.dst true a)=p) (h:aX P true ops p.2 p.1 K):aX P true ops (o::rest) σ K:=by
 show mQ P true ops o σ _
 unfold mQ;simp only[hg];exact bc3 aP hb hn ha (nQ _ _ hr h)
end
attribute [go_sem] BF BF.Gg BF.Gf Y2
end Go.AL
namespace Go.AL
open Go.RowKit
section
variable {P : Program} {σ : AS}
theorem bc5{ops:Array Oper}{o:Oper}{rest:List Oper}{K:AS->Prop}{f:Operand}{as:Array Operand}{ts:Array TypeId}{n:FuncId}{bS args:List AV}{r:AV}{G':Nat->Option aI}{p:AS×List Oper}(aP:o.op= .call ⟨.value f,as,ts⟩)(hg:o.guard=none)
  (hp:fD P n args (·=r)) (hc:fL (σ.get true f) (dO (σ.get true) as.toList)=some (n,bS)) (he:bS.map (m7 σ.H.get)=args) (hn:∀a∈args,bJ a) (hG:sG σ.H.get (kU lL bS)=G')
  (hr:run P ops.toList rest (({σ with H:=⟨σ.H.next,G'⟩}:AS).put o.dst true r)=p) (h:aX P true ops p.2 p.1 K):aX P true ops (o::rest) σ K:=by
 show mQ P true ops o σ _
 unfold mQ;simp only[hg];unfold oZ;simp only[aP];refine .inl ?_;rw[hc,vL];refine gX.Ux hp he hn fun r' _ dD=> ?_
 subst dD;rw[hG];exact nQ _ _ hr h
theorem bc6{ops:Array Oper}{o:Oper}{rest:List Oper}{K:AS->Prop}{f:Operand}{as:Array Operand}{ts:Array TypeId}{n:FuncId}{bS args:List AV}{r:AV}{G':Nat->Option aI}{p:AS×List Oper}{j:Nat}{want:Bool}(aP:o.op= .call ⟨.value f,as,ts⟩)(hg:o.guard=some (j,want))
  (hp:fD P n args (·=r)) (hw:oH (nW ops.toList j σ.env) want=some true) (hc:fL (σ.get true f) (dO (σ.get true) as.toList)=some (n,bS)) (he:bS.map (m7 σ.H.get)=args) (hn:∀a∈args,bJ a) (hG:sG σ.H.get (kU lL bS)=G')
  (hr:run P ops.toList rest (({σ with H:=⟨σ.H.next,G'⟩}:AS).put o.dst true r)=p) (h:aX P true ops p.2 p.1 K):aX P true ops (o::rest) σ K:=by
 show mQ P true ops o σ _
 unfold mQ;simp only[hg];rw[hw,vL];simp only[hold];refine .inl (.inr ⟨rfl,?_⟩);unfold oZ;simp only[aP];refine .inl ?_;rw[hc,vL];refine gX.Ux hp he hn fun r' _ dD=> ?_
 subst dD;rw[hG];exact nQ _ _ hr h
theorem GU{ops:Array Oper}{o:Oper}{rest:List Oper}{K:AS->Prop}{f:Operand}{as:Array Operand}{ts:Array TypeId}{n:FuncId}{args:List AV}{Q:AV->Heap->Prop}(aP:o.op= .call ⟨.value f,as,ts⟩)(hg:o.guard=none)
  (hc:fL (σ.get true f) (dO (σ.get true) as.toList)=some (n,args)) (hp:gX P n args σ.H Q) (h:∀r H',Q r H'->aX P true ops rest (({σ with H:=H'}:AS).put o.dst true r) K):aX P true ops (o::rest) σ K:=by
 show mQ P true ops o σ _
 unfold mQ;simp only[hg];unfold oZ;simp only[aP];refine .inl ?_;rw[hc,vL];exact hp.mono fun r H' hq=>h r H' hq
end
attribute [go_sem] u6 lL kU oK bc7 Uy
end Go.AL
namespace Go.AL
open Go.RowKit
section
variable {P : Program} {σ : AS}
theorem bP.wk{E:Env}{W:World}{as bs:List AV}{vs:List Value}(h:zK as bs)(r:bP E W as vs):bP E W bs vs:=
 ⟨h.1▸r.1,fun i y v hy hv=>by
   obtain⟨x,hx⟩:∃x,as[i]? =some x:=⟨as[i]'(by have:=(dS.1 hy).1;have:=h.1;omega),by simp⟩
   exact(r.2 i x v hx hv).wk (h.2 i x y hx hy)⟩
theorem fD.less{n:FuncId}{as bs:List AV}{Q:AV->Prop}(h:fD P n bs Q)(hw:zK as bs):fD P n as Q:=
 ⟨h.1,fun L W vs hL hr=>h.2 L W vs hL (hr.wk hw)⟩
end
theorem Mu{xs ys:List AV}:zK (xs++ .c (.slice none 0 0)::ys) (xs++ .snap []::ys):=by
 refine⟨by simp,fun i x y hx hy=> ?_⟩
 rcases TZ i xs.length with h|h|h
 ·rw[lT h]at hx hy
  rw[hx]at hy;injection hy with hy;subst hy;exact .refl _
 ·subst h
  simp at hx hy;subst hx hy;exact .nil
 ·obtain⟨d,rfl⟩:∃d,i=xs.length+(d+1):=⟨i-xs.length-1,by omega⟩
  rw[lD (by omega)]at hx hy
  simp only[Nat.add_sub_cancel_left,qS]at hx hy;rw[hx]at hy;injection hy with hy;subst hy;exact .refl _
end Go.AL
namespace Go.AL
open Go.RowKit
def u7(W:World)(b:Nat):Nat:=match W.heap[b]? with
 |some (.cells cur _ _)=>cur.size
 |_=>0
theorem bc8(W:World)(b:Nat)(h:W.heap.size<=b):u7 W b=0:=by
 unfold u7;rw[PJ h]
theorem fD.calls{P:Program}{n:FuncId}{args:List AV}{x:Value}(h:fD P n args (·= .c x))(W:World)(vs:List Value)(hr:bP (fM (u7 W)) W args vs):
  Calls P n vs.toArray W fun e W'=>e= .returned x/\Below W.heap.size W W':=
 (h.2 (u7 W) W vs (bc8 W) hr).mono fun e W' ⟨v,he,r,L',hb,_,_,iF,_,hq⟩=>by
   subst hq;cases iF;exact⟨he,hb⟩
end Go.AL
namespace Go.AL
attribute [go_sem] Nat.reduceEqDiff Nat.reduceAdd Nat.reduceSub Nat.reduceMul Nat.reduceLT Nat.reduceLeDiff reduceCtorEq Int.reduceToNat Int.reduceLT Int.reduceLE Nat.reduceBEq Nat.reduceBNe IntWalk.iteOmega IntWalk.toNatUp sN BU Int.reduceAdd Int.reduceSub Int.reduceMul Int.reduceNeg IntWalk.i64_in IntWalk.u8_in IntWalk.rem_in Int.reduceBEq Int.reduceBNe Int.zero_add Int.toNat_zero BQ Nat.mul_one Nat.one_mul
attribute [go_sem] N2 N3 SA S9 MS BB yA GJ XL List.getLast?_concat MZ N1 s8 tN s9 yY pX KV List.all_nil qR Yw Option.isSome_some Yx
attribute [go_sem ↓] reduceIte
end Go.AL
namespace Go.AL
open Go.RowKit
abbrev zV(x:Int):AV:= .c (.int .i64 x)
abbrev bV(b:Bool):AV:= .c (.bool b)
class uF{α:Type}(f:α->List AV)(k:outParam Nat):Prop where
 len:∀a,(f a).length=k
 one:∀a,(f a).all AV.one=true
 bc9:∀a,∀x∈f a,bJ x
def aA{α:Type}(f:α->List AV)(l:List α):List (List AV):=l.map f
section
variable {α : Type} {f : α -> List AV} {k : Nat}
theorem fZ(l:List α):(aA f l).length=l.length:=by simp[aA]
theorem D6:aA f []=[]:=rfl
theorem pQ(d:α){l:List α}{i:Nat}(h:i<l.length):(aA f l)[i]? =some (f (l.getD i d)):=by
 simp[aA,h]
theorem ZI(l:List α)(n:Nat):(aA f l).take n=aA f (l.take n):=by simp[aA]
theorem ZE(l:List α)(n:Nat):(aA f l).drop n=aA f (l.drop n):=by simp[aA]
theorem FU(a b:List α):aA f a++aA f b=aA f (a++b):=by simp[aA]
theorem nR(a:List α)(x:α):aA f a++[f x]=aA f (a++[x]):=by simp[aA]
theorem EY(l:List α)(i:Nat)(x:α):(aA f l).set i (f x)=aA f (l.set i x):=by simp[aA,List.map_set]
theorem aw5(x:α):[f x]=aA f [x]:=rfl
theorem ZB(n:Nat)(x:α):List.replicate n (f x)=aA f (List.replicate n x):=by simp[aA]
theorem bd0(l:List α):(aA f l).isEmpty=l.isEmpty:=by simp[aA]
theorem Cj[h:uF f k](l:List α):(aA f l).all (fun r=>r.length==k&&r.all AV.one)=true:=by
 simp only[aA,List.all_map,gK,Function.comp,jX,beq_iff_eq];exact fun x _=>⟨h.len x,gK.1 (h.one x)⟩
theorem bd1[h:uF f k](l:List α):(aA f l).all (fun r=>r.length==k)=true:=by
 simp only[aA,List.all_map,gK,Function.comp,beq_iff_eq];exact fun x _=>h.len x
theorem mN[h:uF f k](l:List α):∀row∈aA f l,∀x∈row,bJ x:=by
 intro row hr x hx;simp only[aA,mS]at hr;obtain⟨a,_,rfl⟩:=hr;exact h.bc9 a x hx
theorem iJ[h:uF f k](l:List α):bJ (.snap (aA f l)):=eF.2 (mN l)
theorem iG[h:uF f k](l:List α):(∀row,row∈aA f l->∀x,x∈row->bJ x)=True:=eq_true (mN l)
theorem rS{β:Type}{l:List β}(h:l≠[]):l.isEmpty=false:=by cases l<;>simp_all
theorem dC(d:α){l:List α}{i:Nat}(h:i<l.length):l.getD i d∈l:=by
 rw[lC,fU h];exact D2 h
end
def bA(x:Int):List AV:=[zV x]
instance :uF bA 1:=⟨fun _=>rfl,fun _=>rfl,fun _ x hx=>by simp[bA]at hx;subst hx;exact .c _⟩
def cM(x:Bool):List AV:=[bV x]
instance :uF cM 1:=⟨fun _=>rfl,fun _=>rfl,fun _ x hx=>by simp[cM]at hx;subst hx;exact .c _⟩
theorem bd2(a:List Int)(x:Int):aA bA a++[[zV x]]=aA bA (a++[x]):=nR a x
theorem bd3(l:List Bool)(i:Nat)(x:Bool):(aA cM l).set i [bV x]=aA cM (l.set i x):=EY l i x
theorem Au(n:Nat)(x:Bool):List.replicate n [bV x]=aA cM (List.replicate n x):=ZB (f:=cM) n x
attribute [go_sem] fZ ZI ZE FU bd0 Cj bd1 iJ iG bd2 bd3 Au bA cM cP KY rO nC Jc Int.sub_zero
end Go.AL
namespace Go.AL
open Go.RowKit
section
variable {P : Program} {σ : AS}
theorem bd4{ops:List Oper}{N0 i:Nat}{o:Oper}{r:List Oper}{σ dV:AS}{es:List Entry}{f:Operand}{as:Array Operand}{ts:Array TypeId}{n:FuncId}{bS args:List AV}{a:AV}{wr:List (Nat×Option aI)}{rd:List Nat}(aP:o.op= .call ⟨.value f,as,ts⟩)(hg:o.guard=none)
  (hp:fD P n args (·=a)) (hc:fL (σ.get true f) (dO (σ.get true) as.toList)=some (n,bS)) (he:bS.map (m7 σ.H.get)=args) (hn:∀a∈args,bJ a) (cW:kU lL bS=rd) (hw:(rd.map fun id=>(id,oK (σ.H.get id)))=wr) (h:fV P ops N0 (i+1) r (σ.app o.dst ⟨true,a,wr,rd⟩) es dV):
  fV P ops N0 i (o::r) σ (⟨true,a,wr,rd⟩::es) dV:=
 .cons i o r σ _ es dV (.Y3 f as ts n bS args aP (by unfold lB;rw[hg]) rfl hc he hn hp (.inl (by rw[cW];exact hw.symm)) (fun id aC=>by rw[<-cW];exact aC)) h
theorem bd5{ops:List Oper}{N0 i:Nat}{o:Oper}{r:List Oper}{σ dV:AS}{es:List Entry}{f:Operand}{as:Array Operand}{ts:Array TypeId}{n:FuncId}{args:List AV}{el:TypeId}{k:Nat}{rows:List (List AV)}(aP:o.op= .call ⟨.value f,as,ts⟩)(hg:o.guard=none)
  (hp:rR P n args el k rows) (hc:fL (σ.get true f) (dO (σ.get true) as.toList)=some (n,args)) {a:AV} (ha:AV.own (N0+i) 0 rows.length=a) (h:fV P ops N0 (i+1) r (σ.app o.dst ⟨true,a,[(N0+i,some (.cells el k rows true true))],[]⟩) es dV):
  fV P ops N0 i (o::r) σ (⟨true,a,[(N0+i,some (.cells el k rows true true))],[]⟩::es) dV:=
 .cons i o r σ _ es dV (.NO f as ts n args el k rows aP (by unfold lB;rw[hg]) rfl hc hp ha.symm rfl) h
theorem bd6{ops:Array Oper}{o:Oper}{rest:List Oper}{K:AS->Prop}{f:Operand}{as:Array Operand}{ts:Array TypeId}{n:FuncId}{args:List AV}{el:TypeId}{k:Nat}{rows:List (List AV)}{p:AS×List Oper}(aP:o.op= .call ⟨.value f,as,ts⟩)(hg:o.guard=none)
  (hp:rR P n args el k rows) (hc:fL (σ.get true f) (dO (σ.get true) as.toList)=some (n,args))
  (hr:run P ops.toList rest (({σ with H:=⟨σ.H.next+1,aS σ.H.get [(σ.H.next,some (.cells el k rows true true))]⟩}:AS).put o.dst true (.own σ.H.next 0 rows.length))=p) (h:aX P true ops p.2 p.1 K):aX P true ops (o::rest) σ K:=
 GU aP hg hc hp.run fun r H' ⟨h1,h2⟩=>by subst h1;subst h2;exact nQ _ _ hr h
theorem bd7{ops:Array Oper}{o:Oper}{rest:List Oper}{K:AS->Prop}{f:Operand}{as:Array Operand}{ts:Array TypeId}{n:FuncId}{fn:Func}{c:Code}{args:List AV}{nt:Nat}(hf:P.funcs[n]? =some fn)(hb:fn.body=some c)(fP:(fn.name== "runtime.NumGoroutine")=false)(cU:fn.ntmps=nt)
  (aP:o.op= .call ⟨.value f,as,ts⟩) (hg:o.guard=none) (hc:fL (σ.get true f) (dO (σ.get true) as.toList)=some (n,args)) (hlen:args.length<=nt)
  (h:AW P c ⟨lK 0 args,σ.H,nt⟩ (hold (cB P fn.results.toList (hold (fun a H'=>aX P true ops rest (({σ with H:=H'}:AS).put o.dst true a) K) ⟨⟩)) ⟨⟩)):aX P true ops (o::rest) σ K:=by
 subst cU;exact GU aP hg hc (EI hf hb fP hlen h) fun r H' hq=>hq
end
theorem NO{P:Program}{n:FuncId}{fn:Func}{c:Code}{args:List AV}{e:TypeId}{k:Nat}{rows:List (List AV)}(ha:∀a∈args,bJ a)(dB:∀row∈rows,∀x∈row,bJ x)(hf:P.funcs[n]? =some fn)(hb:fn.body=some c)(fP:(fn.name== "runtime.NumGoroutine")=false)(hlen:args.length<=fn.ntmps)
  (h:AW P c ⟨lK 0 args,⟨0,dH []⟩,fn.ntmps⟩ (hold (cB P fn.results.toList (hold (fun a H'=>∃i,a= .own i 0 rows.length/\H'.get i=some (.cells e k rows true true)) ⟨⟩)) ⟨⟩)):rR P n args e k rows:=
 aY3 ha dB (EI hf hb fP hlen h)
theorem Uz{E:Env}{W:World}{pre post:List AV}{vs:List Value}(h:bP E W (pre++ .snap []::post) vs):∃a cap,bP E W (pre++ .c (.slice a 0 cap)::post) vs:=by
 have bG:pre.length<vs.length:=by have:=h.1;simp at this;omega
 have hv:=h.2 pre.length (.snap []) vs[pre.length] (by simp) (fU bG)
 have key:∃a cap,vs[pre.length]= .slice a 0 cap:=by
  generalize J5:vs[pre.length]=v at hv;cases hv with
  |kY a cap=>exact⟨a,cap,rfl⟩
  |snap _ b off s n cap ws hn oG=>simp at hn;subst hn;exact⟨_,cap,rfl⟩
 obtain⟨a,cap,hk⟩:=key;refine⟨a,cap,by simpa using h.1,fun i x v hx kM=> ?_⟩
 rcases TZ i pre.length with h1|h1|h1
 ·rw[lT h1]at hx
  exact h.2 i x v (by rw[lT h1];exact hx) kM
 ·subst h1
  simp at hx;subst hx;rw[fU bG]at kM;injection kM with kM
  rw[<-kM,hk];exact .c _ rfl
 ·refine h.2 i x v ?_ kM
  obtain⟨d,rfl⟩:∃d,i=pre.length+(d+1):=⟨i-pre.length-1,by omega⟩
  rw[lD (by omega)]at hx⊢
  simpa using hx
theorem fD.nil{P:Program}{n:FuncId}{pre post:List AV}{Q:AV->Prop}(h:∀a cap,fD P n (pre++ .c (.slice a 0 cap)::post) Q):fD P n (pre++ .snap []::post) Q:=
 ⟨(h none 0).1,fun L W vs hL hr=>let ⟨a,cap,dD⟩:=Uz hr;(h a cap).2 L W vs hL dD⟩
end Go.AL
namespace Go.AL
open Go.RowKit
def tS(G:Nat->Option aI)(k:Nat):List (Nat×Option aI)->Option aI
 |[]=>G k
 |(i,b)::r=>if k=i then b else tS G k r
def iU(G:Nat->Option aI)(l:List (Nat×Option aI))(k:Nat):Option aI:=tS G k l
theorem bd8(G:Nat->Option aI)(l:List (Nat×Option aI))(k:Nat):iU G l k=tS G k l:=rfl
theorem Gh(G:Nat->Option aI):iU G []=G:=rfl
theorem bd9(G:Nat->Option aI)(l:List (Nat×Option aI))(i:Nat)(b:Option aI):(fun k=>if k=i then b else iU G l k)=iU G (GC l i b):=by
 funext k
 induction l with
 |nil=>rfl
 |cons p r ih=>
  obtain⟨j,c⟩:=p;simp only[GC];by_cases jY:i=j
  ·subst jY
   simp only[if_true,iU,tS];split<;>rfl
  ·simp only[jY,if_false,iU,tS]
   simp only[iU]at ih;rw[<-ih];by_cases RX:k=j
   ·subst RX;simp[mV jY]
   ·simp[RX]
theorem be0(G:Nat->Option aI)(l:List (Nat×Option aI))(i:Nat)(b:Option aI)(r:List (Nat×Option aI)):aS (iU G l) ((i,b)::r)=aS (iU G (GC l i b)) r:=by
 rw[<-bd9];rfl
def SS(qQ H':Heap):Prop:=H'.next<=qQ.next/\∀id b,qQ.get id=some b->H'.get id=some b
theorem RH.less{E:Env}{W:World}{H' qQ:Heap}(h:RH E W H')(hl:SS qQ H'):RH E W qQ:=
 ⟨fun id aC=>vQ (h.next id aC) hl.1,h.core.S6 fun id b hb=>⟨b,hl.2 id b hb,aI.le_refl b⟩⟩
theorem zY{G:Nat->Option aI}:∀id b,dH [] id=some b->G id=some b:=fun id b h=>by cases h
theorem sO{G:Nat->Option aI}{l:List (Nat×Option aI)}{i:Nat}{x:Option aI}(h:G i=x)(hr:∀id b,dH l id=some b->G id=some b):∀id b,dH ((i,x)::l) id=some b->G id=some b:=fun id b hb=>by
 simp only[dH,xB]at hb;split at hb
 ·rename_i he;subst he;rw[h];exact hb
 ·exact hr id b hb
theorem M1{G:Nat->Option aI}{l:List (Nat×Option aI)}{i:Nat}(hr:∀id b,dH l id=some b->G id=some b):∀id b,dH ((i,none)::l) id=some b->G id=some b:=fun id b hb=>by
 simp only[dH,xB]at hb;split at hb
 ·cases hb
 ·exact hr id b hb
theorem K0{a b:Nat}(h:a≠b):(a==b)=false:=by simpa using h
theorem K1{a b:Nat}(h:a=b):(a==b)=true:=by simpa using h
attribute [go_sem] bd8 tS be0
end Go.AL
namespace Go.AL
open Go.RowKit
def yM(G:Nat->Option aI)(l l':List (Nat×Option aI)):Prop:=∀p∈l',p.2=none\/iU G l p.1=p.2
theorem HQ{G:Nat->Option aI}{l:List (Nat×Option aI)}:yM G l []:=fun p hp=>by cases hp
theorem UX{G:Nat->Option aI}{l l':List (Nat×Option aI)}{i:Nat}{x:Option aI}(h:iU G l i=x)(hr:yM G l l'):yM G l ((i,x)::l'):=fun p hp=>by
 rcases fB.1 hp with rfl|hp
 ·exact .inr h
 ·exact hr p hp
theorem Q1{G:Nat->Option aI}{l l':List (Nat×Option aI)}{i:Nat}(hr:yM G l l'):yM G l ((i,none)::l'):=fun p hp=>by
 rcases fB.1 hp with rfl|hp
 ·exact .inl rfl
 ·exact hr p hp
def DC(k:Nat):List (Nat×Option aI)->Prop
 |[]=>False
 |(i,_)::r=>i=k\/DC k r
def uJ(N:Nat)(l':List (Nat×Option aI)):List (Nat×Option aI)->Prop
 |[]=>True
 |(i,_)::r=>(N<=i\/DC i l')/\uJ N l' r
theorem Va{N:Nat}{l':List (Nat×Option aI)}:∀{l:List (Nat×Option aI)},uJ N l' l->∀p∈l,N<=p.1\/DC p.1 l'
 |(i,x)::r,h,p,hp=>by
  rcases fB.1 hp with rfl|hp
  ·exact h.1
  ·exact Va h.2 p hp
theorem Gi(G:Nat->Option aI)(k:Nat):∀(l:List (Nat×Option aI)),(∃p∈l,p.1=k/\tS G k l=p.2)\/(¬DC k l/\tS G k l=G k)
 |[]=> .inr ⟨fun h=>h,rfl⟩
 |(i,x)::r=>by
  by_cases h:k=i
  ·exact .inl ⟨(i,x),by simp,h.symm,by simp[tS,h]⟩
  ·rcases Gi G k r with⟨p,hp,h1,h2⟩|⟨h1,h2⟩
   ·exact .inl ⟨p,by simp[hp],h1,by simp only[tS,if_neg h];exact h2⟩
   ·exact .inr ⟨fun hm=>hm.elim (fun e=>h e.symm) h1,by simp only[tS,if_neg h];exact h2⟩
theorem PZ{G:Nat->Option aI}{N:Nat}{l l':List (Nat×Option aI)}(hG:∀id,N<=id->G id=none)(hs:yM G l l')(hk:uJ N l' l):∀id b,iU G l' id=some b->iU G l id=some b:=fun id b hb=>by
 rcases Gi G id l' with⟨p,hp,h1,h2⟩|⟨h1,h2⟩
 ·have h3:p.2=some b:=by rw[<-h2];exact hb
  rcases hs p hp with h4|h4
  ·rw[h4]at h3;cases h3
  ·rw[<-h1,h4,h3]
 ·have h3:G id=some b:=by rw[<-h2];exact hb
  have h4:id<N:=by
   rcases lU id N with h|h
   ·exact h
   ·rw[hG id h]at h3;cases h3
  rcases Gi G id l with⟨p,hp,h5,h6⟩|⟨h5,h6⟩
  ·exfalso
   rcases Va hk p hp with h7|h7
   ·omega
   ·rw[h5]at h7;exact h1 h7
  ·show tS G id l=some b
   rw[h6,h3]
end Go.AL
namespace Go.AL
open Go.RowKit
theorem be1{P:Program}{ops:List Oper}{N0 i:Nat}{o:Oper}{r:List Oper}{σ dV:AS}{es:List Entry}{a:AV}{wr:List (Nat×Option aI)}{rd:List Nat}{j:Nat}{want:Bool}(hg:o.guard=some (j,want))
  (J2:oH (nW ops j σ.env) want=some true) (hr:res P (σ.get true) σ.H.get (N0+i) o=some (a,wr,rd)) (h:fV P ops N0 (i+1) r (σ.app o.dst ⟨true,a,wr,rd⟩) es dV):fV P ops N0 i (o::r) σ (⟨true,a,wr,rd⟩::es) dV:=
 .cons i o r σ _ es dV (.res (by unfold lB;rw[hg];exact J2) hr (.inr rfl)) h
end Go.AL
namespace Go.AL
open Go.RowKit
section
variable {E : Env} {W : World} {G : Nat -> Option aI}
theorem bD.SU(hG:RC E W G)(o:Obj):bD E W E (W.alloc o)where
 os:=rfl
 tape:=rfl
 output:=rfl
 size:=by simp
 used:=fun id h=>h
 jL:=fun id h=>⟨rfl,rfl⟩
 lim:=fun b=>cA _
 yB:=fun b k hk=>by
  refine World.cell?_alloc_old W o _ fun e=> ?_
  have:=hG.lim b (by simp at e;omega)
  omega
 sD:=fun b hb _=>Below.heap_alloc W o b hb
 cD:=fun b cur e f h=>⟨cur,f,by rw[Below.heap_alloc W o b (jB.1 h).1];exact h,rfl⟩
 still:=fun _ _ _=>rfl
 fresh:=fun id h1 h2=>absurd h2 h1
 loops:=fun b r h=>⟨r,by rw[Below.heap_alloc W o b (jB.1 h).1];exact h,rfl⟩
theorem RC.SU(hG:RC E W G)(o:Obj):RC E (W.alloc o) G where
 lim:=fun b hb=>hG.lim b (by simp at hb;omega)
 eX:=fun id h=>by have:=hG.eX id h;simp;omega
 ok:=fun id b h=>by
  obtain⟨h1,h2⟩:=hG.ok id b h;exact⟨h1,h2.mono (bD.SU hG o) h1 (Below.heap_alloc W _ _ (hG.eX id h1)) rfl fun aK b' aM hg he=>⟨b',hg,he,rfl,fun h=>h⟩⟩
theorem RC.be2(hG:RC E W G){aG:Nat}(hn:¬E.U aG)(r:Loop)(env:List (Nat×Bool×AV))(ps:List Tmp)(hp:r.params=ps.toArray)
  (Fw:∀t c a,lk env t=some (c,a)->∃v,r.tmps[t]? =some v/\(c=true->RV E W a v)/\(c=false->v=undef)):
  RC (E.more aG W.heap.size 0) (W.alloc (.loop r)) (aS G [(aG,some (.cJ env r.tmps.size ps r.assign r.body r.state r.pending))])where
 lim:=fun b hb=>hG.lim b (by simp at hb;omega)
 eX:=fun id h=>by
  rcases h with h|h
  ·have aM:id≠aG:=fun e=>hn (e▸h)
   have:=hG.eX id h;simp[Env.more,aM];omega
  ·subst h;simp[Env.more]
 ok:=fun id b h=>by
  have hv:=bD.alloc hG hn (.loop r) 0;by_cases aC:id=aG
  ·subst aC
   simp only[aS,if_true,bB]at h;subst h;refine⟨.inr rfl,⟨r.fn,r.tmps,r.defers,?_,rfl,fun t c a ht=> ?_⟩,?_,fun aK b' aM hg=> ?_⟩
   ·simp only[Env.more,if_true]
    rw[World.alloc_heap_new W _,<-hp]
   ·obtain⟨v,h3,h4,h5⟩:=Fw t c a ht
    exact⟨v,h3,fun hc=>(h4 hc).mono hv,h5⟩
   ·simp only[Env.more,if_true];exact hG.lim _ (cA _)
   ·simp only[aS,aM,if_false]at hg
    have:=hG.eX aK (hG.ok aK b' hg).1;simp only[Env.more,aM,if_true,if_false];omega
  ·simp only[aS,aC,if_false]at h
   obtain⟨h1,h2⟩:=hG.ok id b h;have bG:=hG.eX id h1;refine⟨.inl h1,h2.mono hv h1 (Below.heap_alloc W _ _ bG) rfl fun aK b' aM hg he=> ?_⟩
   by_cases rC:aK=aG
   ·subst rC;simp only[Env.more,if_true]at he;omega
   ·simp only[aS,rC,if_false]at hg
    simp only[Env.more,rC,if_false]at he;exact⟨b',hg,he,rfl,fun h=>h⟩
end
def Vb(Q:Exit->AS->Prop)(σ:AS):Option Code->Prop
 |none=>Q .normal σ
 |some .ret=>Q .ret σ
 |some (.exit i)=>Q (.exit i) σ
 |_=>False
def sH(id:Nat)(env:List (Nat×Bool×AV))(nt:Nat)(ps:List Tmp)(A B:Code)(Q:Exit->Heap->Prop)(H':Heap):Prop:=
 ∃env nt ps A B st pe,H'.get id=some (.cJ env nt ps A B st pe)/\st≠ .busy/\Vb (fun e σ=>Q e σ.H) ⟨[],iQ H' id none,0⟩ pe
theorem be3{P:Program}{σ:AS}{Q:Exit->AS->Prop}{g:Operand}{ps:Array Tmp}{assign body:Code}{n:FuncId}{fn:Func}{c:Code}{first cap:List AV}(hg:σ.get true g=some (.fn (.func n) first cap))
  (hf:P.funcs[n]? =some fn) (hb:fn.body=some c) (fP:(fn.name== "runtime.NumGoroutine")=false) (hlen:(first++[AV.jF σ.H.next]++cap).length<=fn.ntmps)
  (h:∀R A B,R=σ.env->A=assign->B=body->AW P c ⟨lK 0 (first++[.jF σ.H.next]++cap),iQ ⟨σ.H.next+1,σ.H.get⟩ σ.H.next (some (.cJ R σ.nt ps.toList A B .ready none)),fn.ntmps⟩
    (hold (cB P fn.results.toList (hold (fun _ H'=>sH σ.H.next R σ.nt ps.toList A B (hold (fun e H2=>Q e ({σ with H:=H2}:AS)) ⟨⟩) H') ⟨⟩)) ⟨⟩)):AW P (.rangeFunc g ps assign body) σ Q:=fun ro E W act eH hr=>by
 have XS:=EI hf hb fP hlen (h _ _ _ rfl rfl rfl);have h1:=hr.get rfl hg;generalize nB:act.eval g=fv at h1;cases h1 with
 |fn _ _ _ vf vc hl bQ h3 h4=>
 have gU:¬E.U σ.H.next:=fun hU=>KX _ (hr.heap.next _ hU)
 refine wpIn_rangeFunc ?_;intro SV _
 --entering
 have enter:∃(l:Nat) (mark:List Deferred) (D:Nat) (W0:World),(Instr.enterLoop SV act.tmps ps assign body (kN ro).round).run P W= .ok (l,mark) (W0.alloc (.loop {state:= .ready,pending:=none,fn:=SV,tmps:=act.tmps,params:=ps,assign,body,defers:=D}))/\l=W0.heap.size/\
   bD E W E W0/\RC E W0 σ.H.get/\Marks E W0 (mark++act.defers)/\(∀D,qP D∈mark++act.defers->qP D∈act.defers\/W.heap.size<=D)/\oX (mark++act.defers)=oX act.defers:=by
  cases ro with
  |none=>
   refine⟨W.heap.size+1,[qP W.heap.size],W.heap.size,W.alloc (.deferred (some [])),run_enterLoop_outer _ _ _ _ _,by simp,bD.SU hr.heap.core _,hr.heap.core.SU _,?_,fun D hD=> ?_,rfl⟩
   ·obtain⟨Ds,pL,tB,yL⟩:=hr.defers.mono (bD.SU hr.heap.core (.deferred (some [])))
    have bG:∀D∈Ds,D<W.heap.size:=fun D hD=>by
     obtain⟨Ds',be4,_,be5⟩:=hr.defers;exact(jB.1 (be5 D (aY5 be4 (N7 pL hD))).1).1
    refine⟨W.heap.size::Ds,by rw[P8,PI rfl,pL];rfl,Iy.2 ⟨fun h=>KX _ (bG _ h),tB⟩,fun D hD=> ?_⟩
    rcases fB.1 hD with h5|h5
    ·subst h5
     exact⟨World.alloc_heap_new W _,fun id aC he=>by have:=hr.heap.core.eX id aC;omega⟩
    ·exact yL D h5
   ·rcases fB.1 hD with h5|h5
    ·exact .inr (Z9 (Ty h5).symm)
    ·exact .inl h5
  |some l0=>
   obtain⟨r0,vF⟩:=eH l0 rfl;exact⟨W.heap.size,[],r0.defers,W,run_enterLoop_inner vF _ _ _ _ _,rfl,bD.refl E W,hr.heap.core,hr.defers,(fun D hD=> .inl hD),rfl⟩
 obtain⟨l,mark,D,W0,NA,mZ,AE,iL,hM0,tD,be7⟩:=enter;have nF:=bD.alloc iL gU (.loop {state:= .ready,pending:=none,fn:=SV,tmps:=act.tmps,params:=ps,assign,body,defers:=D}) 0
 have SW:=iL.be2 gU {state:= .ready,pending:=none,fn:=SV,tmps:=act.tmps,params:=ps,assign,body,defers:=D} σ.env ps.toList (by simp) (fun t c a ht=>by
  obtain⟨v,h5,h6,h7⟩:=hr.env t c a ht
  exact⟨v,h5,fun hc=>(h6 hc).mono AE,h7⟩)
 rw[<-mZ]at nF SW;have Gj:=hM0.mono nF;generalize W0.alloc (.loop {state:= .ready,pending:=none,fn:=SV,tmps:=act.tmps,params:=ps,assign,body,defers:=D})=W1 at NA nF SW Gj;have J5:=AE.trans nF;have ND:(E.more σ.H.next l 0).ι σ.H.next=l:=by simp[Env.more]
 have BD:(E.more σ.H.next l 0).U σ.H.next:= .inr rfl
 have Vc:∀id,(E.more σ.H.next l 0).U id->id<σ.H.next+1:=fun id aC=>by
  rcases aC with h5|h5
  ·exact PF (hr.heap.next id h5)
  ·subst h5;exact D4 _
 generalize E.more σ.H.next l 0=E1 at J5 nF SW Gj ND BD Vc
 have dX:act.tmps.size=σ.nt:=hr.size;simp only[dX]at SW;have lR:RH E1 W1 (iQ ⟨σ.H.next+1,σ.H.get⟩ σ.H.next (some (.cJ σ.env σ.nt ps.toList assign body .ready none))):=⟨Vc,SW⟩
 have lJ:bP E1 W1 (first++[.jF σ.H.next]++cap) (vf.toList++[.func (.yield l) #[] #[]]++vc.toList):=by
  refine bP.append (bP.append ?_ ?_) ?_
  ·exact⟨by simpa using hl,fun i x v hx hv=>(h3 i x v hx (by simpa using hv)).mono J5⟩
  ·have:=RV.jF (E:=E1) (W:=W1) σ.H.next BD
   rw[ND]at this;exact .cons this .nil
  ·exact⟨by simpa using bQ,fun i x v hx hv=>(h4 i x v hx (by simpa using hv)).mono J5⟩
 have hlb:(vf.toList++[Value.func (.yield l) #[] #[]]++vc.toList).toArray=vf++ #[Value.func (.yield l) #[] #[]]++vc:=by
  apply zW;simp
 refine⟨l,mark,W1,{target:= .fn (.func n) vc,args:=vf++ #[Value.func (.yield l) #[] #[]]},W1,n,vf++ #[Value.func (.yield l) #[] #[]]++vc,W1,NA,?_,fun _ _=>trivial,?_,yH,?_⟩
 ·simp only[resolve,nB,Deferred.ofValue]
  simp[Act.eval,Sem.run_pure]
 ·simp only[invoke]
  exact yK XS.1 _ _
 ·refine zQ ?_
  rw[<-hlb];refine(XS.2 E1 W1 _ lR lJ).mono fun e W' ⟨v,he,E',r,H',eZ,Gk,iF,hk⟩=> ?_
  subst he;obtain⟨_,_,_,_,_,st,pe,DJ,eW,hj⟩:=hk;obtain⟨rc,uY,be9,Vd,_,_,_,_,_,jD⟩:=XT Gk DJ;obtain⟨NG,Gl⟩:=jD .exhausted pe;have bf0:E'.ι σ.H.next=l:=(eZ.jL _ BD).1.trans ND
  rw[bf0]at uY NG Gl;have pB:=run_endLoop (P:=P) uY (by rw[be9];exact eW)
  have heq:({rc with state:=LoopState.exhausted}:Loop)={rc with state:=LoopState.exhausted,pending:=pe}:=by rw[<-Vd]
  rw[heq,Vd]at pB;refine⟨pe,_,pB,?_⟩;have SJ:bD E W E' (W'.putObj l (.loop {rc with state:= .exhausted,pending:=pe})):=(J5.trans eZ).trans NG
  have hH4:RH E' (W'.putObj l (.loop {rc with state:= .exhausted,pending:=pe})) (iQ H' σ.H.next none):=by
   refine⟨Gl.next,Gl.core.S6 fun id b aC=>⟨b,?_,aI.le_refl b⟩⟩
   simp only[iQ,aS]at aC⊢;by_cases aM:id=σ.H.next
   ·rw[if_pos aM]at aC;cases aC
   ·rw[if_neg aM]at aC⊢;exact aC
  have hM4:Marks E' (W'.putObj l (.loop {rc with state:= .exhausted,pending:=pe})) (mark++act.defers):=Gj.mono (eZ.trans NG)
  have bR:Rel E' (W'.putObj l (.loop {rc with state:= .exhausted,pending:=pe})) ({σ with H:=iQ H' σ.H.next none}:AS) {act with defers:=mark++act.defers}:=by
   have:=hr.mono SJ hH4;exact⟨hM4,this.size,this.env,this.heap⟩
  have hw:eB E W act E' (W'.putObj l (.loop {rc with state:= .exhausted,pending:=pe})) {act with defers:=mark++act.defers}:=⟨SJ,tD,be7⟩
  unfold Vb at hj;simp only[hold]at hj;split at hj
  ·exact⟨E',_,hw,bR,rfl,hj⟩
  ·exact wpIn_ret ⟨E',_,hw,bR,rfl,hj⟩
  ·exact wpIn_exit ⟨E',_,hw,bR,rfl,hj⟩
  ·exact hj.elim
end Go.AL
namespace Go.AL
open Go.RowKit
section
variable {P : Program} {σ : AS}
theorem bf3{ops:Array Oper}{o:Oper}{rest:List Oper}{K:AS->Prop}{j:Nat}{want:Bool}(hg:o.guard=some (j,want))(hw:oH (nW ops.toList j σ.env) want=some true)
  (h:oZ P o σ (hold (fun aL=>aX P true ops rest aL K) ⟨⟩)):aX P true ops (o::rest) σ K:=by
 show mQ P true ops o σ _
 unfold mQ;simp only[hg];rw[hw,vL];simp only[hold];exact .inl (.inr ⟨rfl,h⟩)
theorem bf4{ops:Array Oper}{o:Oper}{rest:List Oper}{K:AS->Prop}{f:Operand}{as:Array Operand}{ts:Array TypeId}{id:Nat}{args:List AV}{env BG:List (Nat×Bool×AV)}{nt:Nat}{ps:List Tmp}{A A' B:Code}(aP:o.op= .call ⟨.value f,as,ts⟩)(hg:o.guard=none)
  (he:env=BG) (hA:A=A') (hf:σ.get true f=some (.jF id)) (ha:dO (σ.get true) as.toList=some args) (hr:σ.H.get id=some (.cJ env nt ps A B .ready none)) (hl:args.length=ps.length) (lE:ps.all (fun p=>decide (p<nt))=true)
  (h:AW P A' ⟨CT ps args BG,σ.H,nt⟩ (hold (JT P id env nt ps A B (hold (fun b H'=>aX P true ops rest (({σ with H:=H'}:AS).put o.dst true (.c (.bool b))) K) ⟨⟩)) ⟨⟩)):aX P true ops (o::rest) σ K:=by
 subst he hA
 show mQ P true ops o σ _
 unfold mQ;simp only[hg];unfold oZ;simp only[aP];exact .inr ⟨id,args,env,nt,ps,A,B,hf,ha,hr,hl,lE,h⟩
theorem bf5{ops:Array Oper}{o:Oper}{rest:List Oper}{K:AS->Prop}{f:Operand}{as:Array Operand}{ts:Array TypeId}{id:Nat}{args:List AV}{env BG:List (Nat×Bool×AV)}{nt:Nat}{ps:List Tmp}{A A' B:Code}{j:Nat}{want:Bool}(aP:o.op= .call ⟨.value f,as,ts⟩)(hg:o.guard=some (j,want))
  (he:env=BG) (hA:A=A') (hw:oH (nW ops.toList j σ.env) want=some true) (hf:σ.get true f=some (.jF id)) (ha:dO (σ.get true) as.toList=some args) (hr:σ.H.get id=some (.cJ env nt ps A B .ready none)) (hl:args.length=ps.length) (lE:ps.all (fun p=>decide (p<nt))=true)
  (h:AW P A' ⟨CT ps args BG,σ.H,nt⟩ (hold (JT P id env nt ps A B (hold (fun b H'=>aX P true ops rest (({σ with H:=H'}:AS).put o.dst true (.c (.bool b))) K) ⟨⟩)) ⟨⟩)):aX P true ops (o::rest) σ K:=by
 subst he hA;refine bf3 hg hw ?_;unfold oZ;simp only[aP];exact .inr ⟨id,args,env,nt,ps,A,B,hf,ha,hr,hl,lE,h⟩
theorem bf6{id:Nat}{env:List (Nat×Bool×AV)}{nt:Nat}{ps:List Tmp}{A B B':Code}{K:Bool->Heap->Prop}(hB:B=B')(hg:σ.H.get id=some (.cJ env nt ps A B .ready none))
  (h:AW P B' ⟨σ.env,iQ σ.H id (some (.cJ env nt ps A B .busy none)),σ.nt⟩ (hold (EH id env nt ps A B K) ⟨⟩)):JT P id env nt ps A B K .normal σ:=by
 subst hB;exact⟨_,_,_,_,_,hg,h⟩
theorem bf7{id:Nat}{env:List (Nat×Bool×AV)}{nt:Nat}{ps:List Tmp}{A B:Code}{ops:Array Oper}{rest:List Oper}{σ0:AS}{dst:Option Tmp}{K:AS->Prop}{p:AS×List Oper}(hg:σ.H.get id=some (.cJ env nt ps A B .busy none))
  (hr:run P ops.toList rest (({σ0 with H:=iQ σ.H id (some (.cJ env nt ps A B .ready none))}:AS).put dst true (.c (.bool true)))=p) (h:aX P true ops p.2 p.1 K):
  EH id env nt ps A B (hold (fun b H'=>aX P true ops rest (({σ0 with H:=H'}:AS).put dst true (.c (.bool b))) K) ⟨⟩) .normal σ:=⟨_,_,_,_,_,hg,nQ _ _ hr h⟩
theorem bf8{id:Nat}{env:List (Nat×Bool×AV)}{nt:Nat}{ps:List Tmp}{A B:Code}{ops:Array Oper}{rest:List Oper}{σ0:AS}{dst:Option Tmp}{K:AS->Prop}{p:AS×List Oper}(hg:σ.H.get id=some (.cJ env nt ps A B .busy none))
  (hr:run P ops.toList rest (({σ0 with H:=iQ σ.H id (some (.cJ env nt ps A B .done (some .ret)))}:AS).put dst true (.c (.bool false)))=p) (h:aX P true ops p.2 p.1 K):
  EH id env nt ps A B (hold (fun b H'=>aX P true ops rest (({σ0 with H:=H'}:AS).put dst true (.c (.bool b))) K) ⟨⟩) .ret σ:=⟨_,_,_,_,_,hg,nQ _ _ hr h⟩
theorem bf9{id:Nat}{env:List (Nat×Bool×AV)}{nt:Nat}{ps:List Tmp}{A B:Code}{ops:Array Oper}{rest:List Oper}{σ0:AS}{dst:Option Tmp}{K:AS->Prop}{p:AS×List Oper}{i:Nat}(hg:σ.H.get id=some (.cJ env nt ps A B .busy none))
  (hr:run P ops.toList rest (({σ0 with H:=iQ σ.H id (some (.cJ env nt ps A B .done (some (.exit i))))}:AS).put dst true (.c (.bool false)))=p) (h:aX P true ops p.2 p.1 K):
  EH id env nt ps A B (hold (fun b H'=>aX P true ops rest (({σ0 with H:=H'}:AS).put dst true (.c (.bool b))) K) ⟨⟩) (.exit i) σ:=⟨_,_,_,_,_,hg,nQ _ _ hr h⟩
theorem bg0{Q:Exit->AS->Prop}{g:Operand}{ps:Array Tmp}{assign body:Code}{n:FuncId}{fn:Func}{c:Code}{first cap:List AV}{nt:Nat}{args:List AV}(hf:P.funcs[n]? =some fn)(hb:fn.body=some c)(fP:(fn.name== "runtime.NumGoroutine")=false)(cU:fn.ntmps=nt)
  (hg:σ.get true g=some (.fn (.func n) first cap)) (ha:first++[AV.jF σ.H.next]++cap=args) (hlen:args.length<=nt)
  (h:∀R A B,R=σ.env->A=assign->B=body->AW P c ⟨lK 0 args,iQ ⟨σ.H.next+1,σ.H.get⟩ σ.H.next (some (.cJ R σ.nt ps.toList A B .ready none)),nt⟩
    (hold (cB P fn.results.toList (hold (fun _ H'=>sH σ.H.next R σ.nt ps.toList A B (hold (fun e H2=>Q e ({σ with H:=H2}:AS)) ⟨⟩) H') ⟨⟩)) ⟨⟩)):AW P (.rangeFunc g ps assign body) σ Q:=by
 subst cU ha;exact be3 hg hf hb fP hlen h
theorem FV{id:Nat}{env:List (Nat×Bool×AV)}{nt:Nat}{ps:List Tmp}{A B:Code}{Q:Exit->Heap->Prop}{H:Heap}(hg:H.get id=some (.cJ env nt ps A B .ready none))(h:Q .normal (iQ H id none)):sH id env nt ps A B Q H:=⟨_,_,_,_,_,_,_,hg,by simp,h⟩
theorem Ve{id:Nat}{env:List (Nat×Bool×AV)}{nt:Nat}{ps:List Tmp}{A B:Code}{Q:Exit->Heap->Prop}{H:Heap}(hg:H.get id=some (.cJ env nt ps A B .done (some .ret)))(h:Q .ret (iQ H id none)):sH id env nt ps A B Q H:=⟨_,_,_,_,_,_,_,hg,by simp,h⟩
theorem Vf{id:Nat}{env:List (Nat×Bool×AV)}{nt:Nat}{ps:List Tmp}{A B:Code}{Q:Exit->Heap->Prop}{H:Heap}{i:Nat}(hg:H.get id=some (.cJ env nt ps A B .done (some (.exit i))))(h:Q (.exit i) (iQ H id none)):sH id env nt ps A B Q H:=⟨_,_,_,_,_,_,_,hg,by simp,h⟩
end
attribute [go_sem] iQ CT
end Go.AL
namespace Go.AL
open Go.RowKit
theorem bD.below{E:Env}{W W':World}{G:Nat->Option aI}(hG:RC E W G)(hb:Below W.heap.size W W'):bD E W E W'/\RC E W' G:=by
 have bG:∀b k,k<E.L b->b<W.heap.size:=fun b k hk=>by
  rcases lU b W.heap.size with h|h
  ·exact h
  ·have:=hG.lim b h;omega
 have hv:bD E W E W':=
  ⟨hb.os,hb.tape,hb.output,hb.size,fun _ h=>h,fun _ _=>⟨rfl,rfl⟩,fun b=>cA _,fun b k hk=>hb.cell (p:=⟨b,k,none⟩) (bG b k hk),fun b bZ _=>hb.block b bZ,fun b cur e f hc=>⟨cur,f,by rw[hb.block b (jB.1 hc).1];exact hc,rfl⟩,fun b bZ _=>rfl,fun id h h'=>absurd h' h,fun b r h=>⟨r,by rw[hb.block b (jB.1 h).1];exact h,rfl⟩⟩
 refine⟨hv,fun b bZ=>hG.lim b (uA hb.size bZ),fun id hU=>vQ (hG.eX id hU) hb.size,fun id b hg=> ?_⟩
 obtain⟨hU,cK⟩:=hG.ok id b hg;exact⟨hU,cK.mono hv hU (hb.block _ (hG.eX id hU)) rfl fun aK b' _ dA vK=>⟨b',dA,vK,rfl,fun h=>h⟩⟩
end Go.AL
namespace Go.AL
section
variable {P : Program} {σ : AS} {rs : List ResultVar} {a : AV} {id : Nat} {env : List (Nat × Bool × AV)} {nt : Nat} {ps : List Tmp} {A B : Code} {Q : Exit -> AS -> Prop} {σ0 : AS}
theorem bg1(ho:iZ P σ rs=some a)(hg:σ.H.get id=some (.cJ env nt ps A B .ready none))(h:Q .normal ({σ0 with H:=iQ σ.H id none}:AS)):
  cB P rs (hold (fun _ H'=>sH id env nt ps A B (hold (fun e H2=>Q e ({σ0 with H:=H2}:AS)) ⟨⟩) H') ⟨⟩) .normal σ:=by
 show nO (iZ P σ rs) _
 rw[ho];exact FV hg h
theorem bg2(ho:iZ P σ rs=some a)(hg:σ.H.get id=some (.cJ env nt ps A B .ready none))(h:Q .normal ({σ0 with H:=iQ σ.H id none}:AS)):
  cB P rs (hold (fun _ H'=>sH id env nt ps A B (hold (fun e H2=>Q e ({σ0 with H:=H2}:AS)) ⟨⟩) H') ⟨⟩) .ret σ:=by
 show nO (iZ P σ rs) _
 rw[ho];exact FV hg h
theorem bg3(ho:iZ P σ rs=some a)(hg:σ.H.get id=some (.cJ env nt ps A B .done (some .ret)))(h:Q .ret ({σ0 with H:=iQ σ.H id none}:AS)):
  cB P rs (hold (fun _ H'=>sH id env nt ps A B (hold (fun e H2=>Q e ({σ0 with H:=H2}:AS)) ⟨⟩) H') ⟨⟩) .normal σ:=by
 show nO (iZ P σ rs) _
 rw[ho];exact Ve hg h
theorem bg4(ho:iZ P σ rs=some a)(hg:σ.H.get id=some (.cJ env nt ps A B .done (some .ret)))(h:Q .ret ({σ0 with H:=iQ σ.H id none}:AS)):
  cB P rs (hold (fun _ H'=>sH id env nt ps A B (hold (fun e H2=>Q e ({σ0 with H:=H2}:AS)) ⟨⟩) H') ⟨⟩) .ret σ:=by
 show nO (iZ P σ rs) _
 rw[ho];exact Ve hg h
theorem bg5{i:Nat}(ho:iZ P σ rs=some a)(hg:σ.H.get id=some (.cJ env nt ps A B .done (some (.exit i))))(h:Q (.exit i) ({σ0 with H:=iQ σ.H id none}:AS)):
  cB P rs (hold (fun _ H'=>sH id env nt ps A B (hold (fun e H2=>Q e ({σ0 with H:=H2}:AS)) ⟨⟩) H') ⟨⟩) .normal σ:=by
 show nO (iZ P σ rs) _
 rw[ho];exact Vf hg h
theorem bg6{i:Nat}(ho:iZ P σ rs=some a)(hg:σ.H.get id=some (.cJ env nt ps A B .done (some (.exit i))))(h:Q (.exit i) ({σ0 with H:=iQ σ.H id none}:AS)):
  cB P rs (hold (fun _ H'=>sH id env nt ps A B (hold (fun e H2=>Q e ({σ0 with H:=H2}:AS)) ⟨⟩) H') ⟨⟩) .ret σ:=by
 show nO (iZ P σ rs) _
 rw[ho];exact Vf hg h
end
end Go.AL
namespace Go.AL
open Go.RowKit Go.WideShapes Go.ChangeShapes
inductive Sh where
 |int (k:IntKind)
 |bool
 |str
 |sl (row:List Sh)
inductive r9:Sh->AV->Prop
 |int (k:IntKind) (n:Int) (h:(Lit.int k n).wf=true):r9 (.int k) (.c (.int k n))
 |bool (b:Bool):r9 .bool (.c (.bool b))
 |str (s:ByteArray) (h:s.size<=maxLen):r9 .str (.c (.string s))
 |sl (row:List Sh) (rows:List (List AV)) (h1:rows.length<=maxLen) (h2:∀r∈rows,r.length=row.length) (h:∀r∈rows,∀(i:Nat) sh a,row[i]? =some sh->r[i]? =some a->r9 sh a):r9 (.sl row) (.snap rows)
def lQ(row:List Sh)(r:List AV):Prop:=r.length=row.length/\∀(i:Nat) sh a,row[i]? =some sh->r[i]? =some a->r9 sh a
theorem r9.Vg{row:List Sh}{rows:List (List AV)}(h1:rows.length<=maxLen)(h:∀r∈rows,lQ row r):r9 (.sl row) (.snap rows):= .sl row rows h1 (fun r hr=>(h r hr).1) fun r hr=>(h r hr).2
theorem lQ.nil:lQ [] []:=⟨rfl,fun i sh a h=>by simp at h⟩
theorem lQ.cons{s:Sh}{a:AV}{row:List Sh}{r:List AV}(h:r9 s a)(hr:lQ row r):lQ (s::row) (a::r):=by
 refine⟨by simp[hr.1],fun i sh x h1 h2=> ?_⟩
 cases i with
 |zero=>simp at h1 h2;subst h1;subst h2;exact h
 |succ i=>exact hr.2 i sh x (by simpa using h1) (by simpa using h2)
theorem lQ.append{x y:List Sh}{r s:List AV}(h:lQ x r)(k:lQ y s):lQ (x++y) (r++s):=by
 refine⟨by simp[h.1,k.1],fun i sh a h1 h2=> ?_⟩
 by_cases hi:i<x.length
 ·rw[lT hi]at h1
  rw[lT (by rw[h.1];exact hi)]at h2
  exact h.2 i sh a h1 h2
 ·rw[lD (by omega)]at h1
  rw[lD (by rw[h.1];omega),h.1]at h2
  exact k.2 _ sh a h1 h2
theorem lQ.xX{s:Sh}{row:List Sh}{r:List AV}(h:lQ (s::row) r):∃a r',r=a::r'/\r9 s a/\lQ row r':=by
 cases r with
 |nil=>have:=h.1;simp at this
 |cons a r'=>exact⟨a,r',rfl,h.2 0 s a rfl rfl,by have:=h.1;simpa using this,fun i sh x h1 h2=>h.2 (i+1) sh x (by simpa using h1) (by simpa using h2)⟩
theorem lQ.Da{r:List AV}(h:lQ [] r):r=[]:=fI h.1
theorem r9.bg7{row:List Sh}{a:AV}(h:r9 (.sl row) a):∃rows,a= .snap rows/\rows.length<=maxLen/\∀r∈rows,lQ row r:=by
 cases h with
 |sl _ rows h1 h2 h=>exact⟨rows,rfl,h1,fun r hr=>⟨h2 r hr,h r hr⟩⟩
theorem r9.CF{k:IntKind}{a:AV}(h:r9 (.int k) a):∃n,a= .c (.int k n)/\(Lit.int k n).wf=true:=by
 cases h with
 |int _ n h=>exact⟨n,rfl,h⟩
def NP(P:Program)(g:TypeId->Option (List Sh)):Nat->List Field->Option (List Sh)
 |_,[]=>some []
 |o,f::r=>if f.offset=o then
    (match g f.type with
    |some x=>if x.length=P.cellsOf f.type then(NP P g (o+x.length) r).map (x++ ·)else none
    |none=>none)else none
def wH(P:Program):Nat->TypeId->Option (List Sh)
 |0,_=>none
 |f+1,t=>match P.underlying t with
  |some .bool=>some [.bool]
  |some (.int k)=>some [.int k]
  |some .string=>some [.str]
  |some (.slice e)=>(match wH P f e with
   |some r=>if r.length=P.cellsOf e/\0<r.length then some [.sl r]else none
   |none=>none)
  |some (.struct fs)=>(match NP P (wH P f) 0 fs.toList with
   |some r=>if r.length=P.cellsOf t then some r else none
   |none=>none)
  |some (.array n e)=>(match wH P f e with
   |some r=>if r.length=P.cellsOf e/\P.cellsOf t=n*r.length then some (List.replicate n r).flatten else none
   |none=>none)
  |_=>none
theorem Vh{α:Type}{Q:Nat->α->Prop}:∀n,(∀i,i<n->∃x,Q i x)->∃l:List α,l.length=n/\∀(i:Nat) x,l[i]? =some x->Q i x
 |0,_=>⟨[],rfl,fun i x h=>by simp at h⟩
 |n+1,h=>by
  obtain⟨l,h1,h2⟩:=Vh n fun i hi=>h i (by omega)
  obtain⟨x,hx⟩:=h n (by omega)
  refine⟨l++[x],by simp[h1],fun i y hy=> ?_⟩
  by_cases hi:i<n
  ·rw[lT (by omega)]at hy;exact h2 i y hy
  ·rw[lD (by omega)]at hy
   have:i=n:=by have:=(dS.1 hy).1;simp at this;omega
   subst this;rw[h1]at hy;simp at hy;subst hy;exact hx
section
variable {P : Program} {H : Type} {enc : TypeId × Value -> H} {W : World} {base : Nat} {spare : Nat -> Bool} {held : Bool}
theorem bg8{b k:Nat}{v:Value}(h:W.cell? ⟨b,k,none⟩=some v):k<u7 W b:=by
 unfold World.cell? at h;unfold u7;split at h
 ·rename_i c e f hb
  rw[hb];simp only[Yx,if_false]at h;exact(jB.1 h).1
 ·cases h
theorem bg9{b k:Nat}{s:Option Nat}{v:Value}(h:W.cell? ⟨b,k,s⟩=some v):s=none:=by
 unfold World.cell? at h;split at h
 ·split at h
  ·cases h
  ·rename_i hs;simpa using hs
 ·cases h
theorem Vi{f:Nat}(ih:∀(fuel:Nat) t cs x row,wH P f t=some row->DataW.trod enc P W base spare held fuel t cs=some x->∃as,lQ row as/\bP (fM (u7 W)) W as cs){cs:List Value}:
  ∀(fs:List Field) (o:Nat) (row:List Sh),NP P (wH P f) o fs=some row->(∀g∈fs,∃fuel y,DataW.trod enc P W base spare held fuel g.type ((cs.drop g.offset).take (P.cellsOf g.type))=some y)->
   ∃as,lQ row as/\bP (fM (u7 W)) W as ((cs.drop o).take row.length)
 |[],o,row,h,_=>by
  simp only[NP,bB]at h;subst h;exact⟨[],.nil,by simpa using bP.nil⟩
 |g::r,o,row,h,hg=>by
  simp only[NP]at h;split at h
  ·rename_i ho
   split at h
   ·rename_i x hx
    split at h
    ·rename_i hl
     cases hr:NP P (wH P f) (o+x.length) r with
     |none=>rw[hr]at h;cases h
     |some y=>
      rw[hr]at h;injection h with h
      subst h;obtain⟨fuel,z,hz⟩:=hg g (by simp)
      obtain⟨as,h1,h2⟩:=ih _ _ _ _ _ hx hz;obtain⟨bs,h3,h4⟩:=Vi ih r (o+x.length) y hr fun g' dA=>hg g' (by simp[dA])
      refine⟨as++bs,h1.append h3,?_⟩;have h5:=h2.append h4;rw[ho,<-hl]at h5
      have h6:(cs.drop o).take (x++y).length=(cs.drop o).take x.length++(cs.drop (o+x.length)).take y.length:=by
       rw[cP,List.take_add,KZ]
      rw[h6];exact h5
    ·cases h
   ·cases h
  ·cases h
theorem Vj{f:Nat}{e:TypeId}{row:List Sh}(bH:wH P f e=some row)(hl:row.length=P.cellsOf e)(ih:∀(fuel:Nat) t cs x row,wH P f t=some row->DataW.trod enc P W base spare held fuel t cs=some x->∃as,lQ row as/\bP (fM (u7 W)) W as cs){cs:List Value}{m:Nat}:
  ∀n,(∀i,i<n->∃y,DataW.trod enc P W base spare held m e ((cs.drop (i*P.cellsOf e)).take (P.cellsOf e))=some y)->
   ∃as,lQ (List.replicate n row).flatten as/\bP (fM (u7 W)) W as (cs.take (n*row.length))
 |0,_=>⟨[],.nil,by simpa using bP.nil⟩
 |n+1,h=>by
  obtain⟨as,h1,h2⟩:=Vj bH hl ih n fun i hi=>h i (by omega)
  obtain⟨y,hy⟩:=h n (by omega)
  obtain⟨bs,h3,h4⟩:=ih _ _ _ _ _ bH hy;refine⟨as++bs,?_,?_⟩
  ·rw[List.replicate_succ',List.flatten_append,List.flatten_singleton]
   exact h1.append h3
  ·have h5:=h2.append h4
   rw[<-hl]at h5;rw[uB,List.take_add];exact h5
theorem Vk:∀(f:Nat) (fuel:Nat) (t:TypeId) (cs:List Value) (x:DataW H×List MemPlace) (row:List Sh),wH P f t=some row->DataW.trod enc P W base spare held fuel t cs=some x->∃as,lQ row as/\bP (fM (u7 W)) W as cs
 |0,_,_,_,_,_,h,_=>by cases h
 |f+1,fuel,t,cs,x,row,h,ht=>by
  have ih:∀(fuel:Nat) t cs x row,wH P f t=some row->DataW.trod enc P W base spare held fuel t cs=some x->∃as,lQ row as/\bP (fM (u7 W)) W as cs:=Vk f;simp only[wH]at h;split at h
  ·rename_i hu
   injection h with h;subst h
   obtain⟨b,rfl,_⟩:=DataW.trod_bool hu ht;exact⟨[.c (.bool b)],.cons (.bool b) .nil,.cons (.c _ rfl) .nil⟩
  ·rename_i k hu
   injection h with h;subst h
   obtain⟨n,rfl,_,hw⟩:=DataW.trod_int hu ht;exact⟨[.c (.int k n)],.cons (.int k n hw) .nil,.cons (.c _ rfl) .nil⟩
  ·rename_i hu
   injection h with h;subst h
   obtain⟨s,rfl,_,hw⟩:=DataW.trod_string hu ht;exact⟨[.c (.string s)],.cons (.str s hw) .nil,.cons (.c _ rfl) .nil⟩
  ·rename_i e hu
   split at h
   ·rename_i r hr
    split at h
    ·rename_i hl
     injection h with h;subst h
     rcases DataW.trod_slice hu ht with⟨rfl,_⟩|⟨a,len,cap,elems,rest,n,rfl,rfl,_,hb,eA,hcm,X0,bX,_⟩
     ·exact⟨[.snap []],.cons (.Vg (by simp) fun r hr=>by cases hr) .nil,.cons (.kY none 0) .nil⟩
     ·obtain⟨tP,bQ⟩:=hl
      have bH:∀i,i<len->∃as,lQ r as/\∃SX,W.cells? base (a.add (i*P.cellsOf e)) (P.cellsOf e)=some SX/\bP (fM (u7 W)) W as SX:=fun i hi=>by
       have h1:=bX i hi;rw[fU (by omega)]at h1
       cases hc:W.cells? base (a.add (i*P.cellsOf e)) (P.cellsOf e)with
       |none=>rw[hc]at h1;cases h1
       |some SX=>
        rw[hc]at h1;obtain⟨as,h2,h3⟩:=ih _ _ _ _ _ hr h1;exact⟨as,h2,SX,rfl,h3⟩
      obtain⟨rows,gH,dB⟩:=Vh len bH
      have J4:r9 (.sl r) (.snap rows):= .Vg (by omega) fun q hq=>by
       obtain⟨i,hi⟩:=Yr hq;exact(dB i q hi).1
      refine⟨[.snap rows],.cons J4 .nil,.cons ?_ .nil⟩;by_cases h0:len=0
      ·have:rows=[]:=fI (by omega)
       subst this;subst h0;exact .kY _ _
      ·obtain⟨K2,off,spot⟩:=a
       have CC:∀(i j:Nat) q y,rows[i]? =some q->q[j]? =some y->∃v,W.cell? ((⟨K2,off,spot⟩:Addr).add (i*P.cellsOf e)|>.add j)=some v/\RV (fM (u7 W)) W y v:=fun i j q y hq hy=>by
        obtain⟨_,SX,h1,h2⟩:=dB i q hq;obtain⟨v,h3,h4⟩:=h2.get hy;refine⟨v,?_,h4⟩;unfold World.cells? at h1;split at h1
        ·have hj:j<P.cellsOf e:=by
          have:=mapM_some_length h1;have h5:=(dS.1 h3).1;simp at this;omega
         have h6:=mapM_some_get h1 j j (by simp[hj])
         rw[h6];exact h3
        ·cases h1
       have hlen:∀(i:Nat) q,rows[i]? =some q->q.length=P.cellsOf e:=fun i q hq=>by rw[(dB i q hq).1.1];exact tP
       obtain⟨q0,DK⟩:∃q,rows[0]? =some q:=⟨rows[0]'(by omega),fU _⟩
       obtain⟨y0,hy0⟩:∃y,q0[0]? =some y:=⟨q0[0]'(by rw[hlen 0 q0 DK];omega),fU _⟩
       have bh1:spot=none:=by
        obtain⟨v,h1,_⟩:=CC 0 0 q0 y0 DK hy0;rw[BQ]at h1;exact bg9 (b:=K2) (k:=off) h1
       subst bh1
       have DO:∀i j,((⟨K2,off,none⟩:Addr).add (i*P.cellsOf e)|>.add j)=⟨K2,off+(i*P.cellsOf e+j),none⟩:=fun i j=>by
        unfold Addr.add;split<;>split<;>simp_all [uE]
       refine .snap rows K2 off (P.cellsOf e) len cap (fun i j=>(W.cell? ⟨K2,off+(i*P.cellsOf e+j),none⟩).getD default) gH.symm eA (fun i q hq=>hlen i q hq) ?_ ?_ ?_
       ·obtain⟨ql,WS⟩:∃q,rows[len-1]? =some q:=⟨rows[len-1]'(by omega),fU _⟩
        obtain⟨yl,Ej⟩:∃y,ql[P.cellsOf e-1]? =some y:=⟨ql[P.cellsOf e-1]'(by rw[hlen _ ql WS];omega),fU _⟩
        obtain⟨v,h1,_⟩:=CC _ _ ql yl WS Ej;rw[DO]at h1;have h2:=bg8 h1
        show off+rows.length*P.cellsOf e<=u7 W K2
        have h3:rows.length*P.cellsOf e=(len-1)*P.cellsOf e+P.cellsOf e:=by
         rw[gH,<-uB];congr 1;omega
        omega
       ·intro i j q y hq hy
        obtain⟨v,h1,_⟩:=CC i j q y hq hy;rw[DO]at h1;rw[h1];rfl
       ·intro i j q y hq hy
        obtain⟨v,h1,h2⟩:=CC i j q y hq hy;rw[DO]at h1;simp only[h1,qR];exact h2
    ·cases h
   ·cases h
  ·rename_i fs hu
   split at h
   ·rename_i r hr
    split at h
    ·rename_i hl
     injection h with h;subst h
     obtain⟨xs,n,rfl,_,j7,pC,bX⟩:=DataW.trod_struct hu ht
     obtain⟨as,h1,h2⟩:=Vi ih (cs:=cs) fs.toList 0 r hr fun g hg=>by
      obtain⟨i,hi⟩:=Yr hg;have h3:=bX i g (by simpa using hi)
      have bG:i<xs.length:=by
       have:=(dS.1 hi).1;simp at this;omega
      exact⟨n,xs[i],by rw[h3];exact fU bG⟩
     refine⟨as,h1,?_⟩;rw[tH,cR (by omega)]at h2
     exact h2
    ·cases h
   ·cases h
  ·rename_i n e hu
   split at h
   ·rename_i r hr
    split at h
    ·rename_i hl
     injection h with h;subst h
     obtain⟨xs,m,rfl,_,j7,pC,bX⟩:=DataW.trod_array hu ht
     obtain⟨as,h1,h2⟩:=Vj hr hl.1 ih (cs:=cs) (m:=m) n fun i hi=>by
      exact⟨xs[i]'(by omega),by rw[bX i hi];exact fU _⟩
     refine⟨as,h1,?_⟩;rw[cR (by omega)]at h2
     exact h2
    ·cases h
   ·cases h
  ·cases h
theorem Vl{r:Go.Reach}{b0:Nat}{t:TypeId}{v:Value}{d:DataW H}{p:List MemPlace}{row:List Sh}(f:Nat)(hs:wH P f t=some row)(hu:(∃fs,P.underlying t=some (.struct fs))\/∃n e,P.underlying t=some (.array n e))
  (hv:Value.okWide P W r b0 t v) (h:DataW.Trod enc P W base spare held t v d p):∃as,lQ row as/\RV (fM (u7 W)) W (.agg as) v:=by
 obtain⟨fuel,h⟩:=h;obtain⟨as,h1,h2⟩:=Vk _ _ _ _ _ _ hs h
 obtain⟨cs,rfl⟩:∃cs,v= .agg cs:=by
  unfold Value.okWide at hv;rcases hu with⟨fs,hu⟩|⟨n,e,hu⟩
  ·rw[hu]at hv;obtain⟨cs,h,_⟩:=hv;exact⟨cs,h⟩
  ·rw[hu]at hv;obtain⟨cs,h,_⟩:=hv;exact⟨cs,h⟩
 refine⟨as,h1,?_⟩;exact .agg as cs (by have:=h2.1;simpa[Value.cells]using this) fun i x v hx hv=>h2.2 i x v hx (by simpa[Value.cells]using hv)
end
theorem Vm{α:Type}{f:α->List AV}{p:α->Prop}{row:List Sh}(bH:∀r,lQ row r->∃x,p x/\r=f x):∀(rows:List (List AV)),(∀r∈rows,lQ row r)->∃l:List α,(∀x∈l,p x)/\rows=l.map f
 |[],_=>⟨[],(fun x h=>by cases h),rfl⟩
 |r::rs,h=>by
  obtain⟨x,hp,rfl⟩:=bH r (h r (by simp))
  obtain⟨l,h1,rfl⟩:=Vm bH rs fun r hr=>h r (by simp[hr])
  exact⟨x::l,(fun y hy=>by rcases fB.1 hy with rfl|hy;exact hp;exact h1 y hy),rfl⟩
theorem Qd{α:Type}{f:α->List AV}{p:α->Prop}{row:List Sh}(bH:∀r,lQ row r->∃x,p x/\r=f x){a:AV}(h:r9 (.sl row) a):∃l:List α,(∀x∈l,p x)/\l.length<=maxLen/\a= .snap (l.map f):=by
 obtain⟨rows,rfl,h1,h2⟩:=h.bg7;obtain⟨l,h3,rfl⟩:=Vm bH rows h2;exact⟨l,h3,by simpa using h1,rfl⟩
end Go.AL
