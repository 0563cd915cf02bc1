/- Target: a layer over the walks (Lc). No condition but those named. -/
import Derived.Test.YtpaomccedbjknaaGreatDoorLd
import Derived.LoopNIn
import Derived.IntWalk
import Derived.DataReads
import Derived.WideShapes
import Derived.ProofKit
import Derived.OpenShut
import Derived.ChangeArms
set_option linter.all false
namespace Go.AL
open Go.RowKit
def S4(P:Program)(c:Code)(Q:Exit->AS->Prop):Nat->AS->Prop
 |0,_=>False
 |n+1,σ=>AW P c σ (cF (S4 P c Q n) Q)
theorem Vw{F:Fence}{m:Nat}{P:Program}{c:Code}{Q Q':Exit->Act->World->Prop}(hq:∀e a w,Q e a w->Q' e a w):∀(n:Nat) {a:Act} {w:World},Code.roundsIn F m P c Q n a w->Code.roundsIn F m P c Q' n a w
 |0,_,_,h=>h.elim
 |n+1,a,w,h=>by
  rw[roundsIn_succ]at h⊢;refine wpIn_mono h fun e a' w' he=> ?_
  cases e with
  |normal=>exact Vw hq n he
  |_=>exact hq _ _ _ he
theorem Vx{P:Program}{c:Code}{Q:Exit->AS->Prop}{ro:Option Nat}:∀(n:Nat) {σ:AS},S4 P c Q n σ->∀{E:Env} {W:World} {act:Act},MU ro W->Rel E W σ act->Code.roundsIn (l7 ro) 3 P c (fun e cK W'=>∃E' aN,eU E W act E' W' cK/\Rel E' W' aN cK/\aN.nt=σ.nt/\Q e aN) n act W
 |0,σ,h,_,_,_,_,_=>h.elim
 |n+1,σ,h,E,W,act,dP,hr=>by
  rw[roundsIn_succ];refine wpIn_mono (h ro E W act dP hr) fun e a w ⟨E',aN,h1,h2,h3,h4⟩=> ?_
  cases e with
  |normal=>
   have:=Vx n h4 (dP.mono h1.nP) h2;refine Vw ?_ n this;exact fun e' a' w' ⟨wW,dV,h5,h6,h7,h8⟩=>⟨wW,dV,h1.trans h5,h6,h7.trans h3,h8⟩
  |_=>exact⟨E',aN,h1,h2,h3,h4⟩
theorem fZ{P:Program}{c:Code}{σ:AS}{Q:Exit->AS->Prop}(n:Nat)(h:S4 P c Q n σ):AW P (.loop c) σ Q:=fun ro E W act dP hr=>wpIn_loop_rounds n (Vx n h dP hr)
theorem gD{P:Program}{c:Code}{σ:AS}{Q:Exit->AS->Prop}{n:Nat}(h:AW P c σ (cF (S4 P c Q n) Q)):S4 P c Q (n+1) σ:=h
theorem bo7{P:Program}{σ:AS}{Q:Exit->AS->Prop}{c:Operand}{x y:Code}(hc:jL (σ.get true c)=some true)(h:AW P x σ Q):AW P (.cond c x y) σ Q:=Fp (zL hc) (fun _=>h) (fun h=>by cases h)
theorem bo8{P:Program}{σ:AS}{Q:Exit->AS->Prop}{c:Operand}{x y:Code}(hc:jL (σ.get true c)=some false)(h:AW P y σ Q):AW P (.cond c x y) σ Q:=Fp (zL hc) (fun h=>by cases h) (fun _=>h)
end Go.AL
namespace Go.AL
open Go.RowKit
inductive Wk:AV->AV->Prop
 |refl (a:AV):Wk a a
 |nil {a:Option Addr} {cap:Nat}:Wk (.c (.slice a 0 cap)) (.snap [])
 |agg (xs ys:List AV) (hl:xs.length=ys.length) (h:∀(i:Nat) x y,xs[i]? =some x->ys[i]? =some y->Wk x y):Wk (.agg xs) (.agg ys)
 |aK (xs ys:List AV) (hl:xs.length=ys.length) (h:∀(i:Nat) x y,xs[i]? =some x->ys[i]? =some y->Wk x y):Wk (.aK xs) (.aK ys)
 |cH (rows dU:List (List AV)) (i o:Nat) (hl:rows.length=dU.length) (dG:∀(k:Nat) a b,rows[k]? =some a->dU[k]? =some b->a.length=b.length)
   (h:∀(k j:Nat) a b x y,rows[k]? =some a->dU[k]? =some b->a[j]? =some x->b[j]? =some y->Wk x y):Wk (.cH rows i o) (.cH dU i o)
 |snap (rows dU:List (List AV)) (hl:rows.length=dU.length) (dG:∀(k:Nat) a b,rows[k]? =some a->dU[k]? =some b->a.length=b.length)
   (h:∀(k j:Nat) a b x y,rows[k]? =some a->dU[k]? =some b->a[j]? =some x->b[j]? =some y->Wk x y):Wk (.snap rows) (.snap dU)
def y1(xs ys:List AV):Prop:=xs.length=ys.length/\∀(i:Nat) x y,xs[i]? =some x->ys[i]? =some y->Wk x y
theorem mS:y1 [] []:=⟨rfl,fun i x y h=>by simp at h⟩
theorem tY(xs:List AV):y1 xs xs:=⟨rfl,fun i x y h h'=>by rw[h]at h';injection h' with h';subst h';exact .refl x⟩
theorem eE{x y:AV}{xs ys:List AV}(h:Wk x y)(hs:y1 xs ys):y1 (x::xs) (y::ys):=by
 refine⟨by simp[hs.1],fun i a b h1 h2=> ?_⟩
 cases i with
 |zero=>simp at h1 h2;subst h1 h2;exact h
 |succ i=>exact hs.2 i a b (by simpa using h1) (by simpa using h2)
theorem vD{xs ys:List AV}(h:y1 xs ys):Wk (.agg xs) (.agg ys):= .agg xs ys h.1 h.2
theorem H9{xs ys:List AV}(h:y1 xs ys):Wk (.aK xs) (.aK ys):= .aK xs ys h.1 h.2
theorem RV.wk{E:Env}{W:World}{a b:AV}(h:Wk a b):∀{v:Value},RV E W a v->RV E W b v:=by
 induction h with
 |refl a=>exact fun r=>r
 |nil=>intro v r;cases r;exact .kP _ _
 |agg xs ys hl h ih=>
  intro v r;cases r with
  |agg _ vs wX hr=>
  refine .agg ys vs (hl▸wX) fun i y v hy hv=> ?_
  obtain⟨x,hx⟩:∃x,xs[i]? =some x:=⟨xs[i]'(by have:=(fT.1 hy).1;omega),by simp⟩
  exact ih i x y hx hy (hr i x v hx hv)
 |aK xs ys hl h ih=>
  intro v r;cases r with
  |aK _ vs wX hr=>
  refine .aK ys vs (hl▸wX) fun i y v hy hv=> ?_
  obtain⟨x,hx⟩:∃x,xs[i]? =some x:=⟨xs[i]'(by have:=(fT.1 hy).1;omega),by simp⟩
  exact ih i x y hx hy (hr i x v hx hv)
 |cH rows dU i o hl dG h ih=>
  intro v r;cases r with
  |cH _ _ _ b off s vs hs hL hc hr=>
  have get:∀(k:Nat) gN,dU[k]? =some gN->∃row,rows[k]? =some row/\row.length=gN.length:=fun k gN h2=>by
   have hk:k<rows.length:=by have:=(fT.1 h2).1;omega
   exact⟨rows[k],gY hk,dG k _ _ (gY hk) h2⟩
  have S5:∀(k j:Nat) gN y,dU[k]? =some gN->gN[j]? =some y->∃row x,rows[k]? =some row/\row[j]? =some x:=fun k j gN y h2 h3=>by
   obtain⟨row,h4,h5⟩:=get k gN h2;have hj:j<row.length:=by have:=(fT.1 h3).1;omega
   exact⟨row,row[j],h4,gY hj⟩
  refine .cH dU i o b off s vs (fun k gN h2=> ?_) (hl▸hL) (fun k j gN y h2 h3=> ?_) (fun k j gN y h2 h3=> ?_)
  ·obtain⟨row,h4,h5⟩:=get k gN h2
   rw[<-h5];exact hs k row h4
  ·obtain⟨row,x,h4,h5⟩:=S5 k j gN y h2 h3
   exact hc k j row x h4 h5
  ·obtain⟨row,x,h4,h5⟩:=S5 k j gN y h2 h3
   exact ih k j row gN x y h4 h2 h5 h3 (hr k j row x h4 h5)
 |snap rows dU hl dG h ih=>
  intro v r
  have get:∀(k:Nat) gN,dU[k]? =some gN->∃row,rows[k]? =some row/\row.length=gN.length:=fun k gN h2=>by
   have hk:k<rows.length:=by have:=(fT.1 h2).1;omega
   exact⟨rows[k],gY hk,dG k _ _ (gY hk) h2⟩
  have S5:∀(k j:Nat) gN y,dU[k]? =some gN->gN[j]? =some y->∃row x,rows[k]? =some row/\row[j]? =some x:=fun k j gN y h2 h3=>by
   obtain⟨row,h4,h5⟩:=get k gN h2;have hj:j<row.length:=by have:=(fT.1 h3).1;omega
   exact⟨row,row[j],h4,gY hj⟩
  cases r with
  |kP a cap=>
   have:dU=[]:=Ic.1 hl.symm;subst this;exact .kP _ _
  |snap _ b off s n cap vs hn pH hs hL hc hr=>
  refine .snap dU b off s n cap vs (hl▸hn) pH (fun k gN h2=> ?_) (hl▸hL) (fun k j gN y h2 h3=> ?_) (fun k j gN y h2 h3=> ?_)
  ·obtain⟨row,h4,h5⟩:=get k gN h2
   rw[<-h5];exact hs k row h4
  ·obtain⟨row,x,h4,h5⟩:=S5 k j gN y h2 h3
   exact hc k j row x h4 h5
  ·obtain⟨row,x,h4,h5⟩:=S5 k j gN y h2 h3
   exact ih k j row gN x y h4 h2 h5 h3 (hr k j row x h4 h5)
def r7(xs ys:List (List AV)):Prop:=xs.length=ys.length/\∀(k:Nat) a b,xs[k]? =some a->ys[k]? =some b->y1 a b
theorem BH:r7 [] []:=⟨rfl,fun i x y h=>by simp at h⟩
theorem u3{x y:List AV}{xs ys:List (List AV)}(h:y1 x y)(hs:r7 xs ys):r7 (x::xs) (y::ys):=by
 refine⟨by simp[hs.1],fun i a b h1 h2=> ?_⟩
 cases i with
 |zero=>simp at h1 h2;subst h1 h2;exact h
 |succ i=>exact hs.2 i a b (by simpa using h1) (by simpa using h2)
theorem HA{xs ys:List (List AV)}(h:r7 xs ys):Wk (.snap xs) (.snap ys):=
 .snap xs ys h.1 (fun k a b h1 h2=>(h.2 k a b h1 h2).1) (fun k j a b x y h1 h2 h3 h4=>(h.2 k a b h1 h2).2 j x y h3 h4)
theorem eA.wk{P:Program}{n:FuncId}{args:List AV}{b:AV}(h:eA P n args (Wk · b))(hn:bF b):eA P n args (·=b):=
 ⟨h.1,fun L W vs hL hr=>(h.2 L W vs hL hr).mono fun e W' ⟨v,he,r,L',h1,h2,h3,h4,h5,h6⟩=>⟨v,he,b,L',h1,h2,h3,h4.wk h6,hn,rfl⟩⟩
theorem TH{a b:Int}(h:a<b):decide (a<b)=true:=by simp[h]
theorem KP{a b:Int}(h:¬a<b):decide (a<b)=false:=by simp[h]
theorem vC{a b:Int}(h:a<=b):decide (a<=b)=true:=by simp[h]
theorem zW{a b:Int}(h:¬a<=b):decide (a<=b)=false:=by simp[h]
theorem ab4{a b:Int}(h:a≠b):(a !=b)=true:=by simp[h]
theorem ab5{a b:Int}(h:a=b):(a !=b)=false:=by simp[h]
theorem ab2{a b:Int}(h:a=b):(a==b)=true:=by simp[h]
theorem ab3{a b:Int}(h:a≠b):(a==b)=false:=by simp[h]
end Go.AL
namespace Go.AL
open Go.RowKit
def X6:Op->Bool
 | .call ⟨.value _,_,_⟩=>false
 | .pick _ _ _=>false
 |_=>true
section
variable {P : Program} {σ : AS}
theorem bo9{o:Oper}{K:AS->Prop}(aS:X6 o.op=true){a:AV}{wr:List (Nat×Option aI)}{rd:List Nat}(kQ:res P (σ.get true) σ.H.get σ.H.next o=some (a,wr,rd))
  (hk:K (({σ with H:=σ.H.app wr}:AS).put o.dst true a)):p5 P o σ K:=by
 unfold p5;split
 ·rename_i f as ts h;rw[h]at aS;cases aS
 ·rename_i b x y h;rw[h]at aS;cases aS
 ·rename_i x h;rw[Vd h]at kQ;cases kQ
 ·rw[kQ,uU];exact hk
theorem bp0{ops:Array Oper}{o:Oper}{rest:List Oper}{K:AS->Prop}{p:AS×List Oper}{j:Nat}{want:Bool}{a:AV}{wr:List (Nat×Option aI)}{rd:List Nat}(aS:X6 o.op=true)(hg:o.guard=some (j,want))
  (hw:nQ (nA ops.toList j σ.env) want=some true) (kQ:res P (σ.get true) σ.H.get σ.H.next o=some (a,wr,rd)) (hr:run P ops.toList rest (({σ with H:=σ.H.app wr}:AS).put o.dst true a)=p) (h:b8 P true ops p.2 p.1 K):b8 P true ops (o::rest) σ K:=by
 show nC P true ops o σ _
 unfold nC;simp only[hg];rw[hw,uU];simp only[hold];refine .inr ?_;unfold MV;split
 ·rename_i f as ts h;rw[h]at aS;cases aS
 ·rename_i b x y h;rw[h]at aS;cases aS
 ·have hx:p5 P o σ fun aN=>b8 P true ops rest aN K:=bo9 aS kQ (nF _ _ hr h)
  cases hpt:parts o.op with
  |true=>simp only[if_true,xA,hold];exact⟨fun _=>hx,fun h=>by cases h⟩
  |false=>
   simp only[qZ,if_false,kQ];cases wr with
   |nil=>simp only[JH,xA];exact nF _ _ hr h
   |cons w r=>simp only[JH,xA,hold];exact⟨fun _=>hx,fun h=>by cases h⟩
def AY(ops:List Oper):List Oper->AS->Option (AS×List Oper)
 |[],σ=>some (σ,[])
 |o::r,σ=>Fu (AY ops r) ops σ o r o.guard
where
 Fv (f:AS->Option (AS×List Oper)) (σ:AS) (o:Oper) (r:List Oper):Option Bool->Option (AS×List Oper)
  |some c=>cond c (some (σ,o::r)) (f (σ.put o.dst false (.c (.bool false))))
  |none=>some (σ,o::r)
 Fu (f:AS->Option (AS×List Oper)) (ops:List Oper) (σ:AS) (o:Oper) (r:List Oper):Option (Nat×Bool)->Option (AS×List Oper)
  |some (j,want)=>Fv f σ o r (nQ (nA ops j σ.env) want)
  |none=>some (σ,o::r)
theorem Vy{ops:Array Oper}{K:AS->Prop}:∀(l:List Oper) (σ:AS) {p:AS×List Oper},AY ops.toList l σ=some p->b8 P true ops p.2 p.1 K->b8 P true ops l σ K
 |[],σ,p,h,hk=>by simp only[AY]at h;injection h with h;subst h;exact hk
 |o::r,σ,p,h,hk=>by
  simp only[AY]at h;unfold AY.Fu at h;split at h
  ·rename_i j want hg
   unfold AY.Fv at h;split at h
   ·rename_i c hc
    cases c with
    |true=>simp only[cond]at h;injection h with h;subst h;exact hk
    |false=>
     simp only[cond]at h
     show nC P true ops o σ _
     unfold nC;simp only[hg];rw[hc,uU];exact .inl (.inl ⟨rfl,Vy r _ h hk⟩)
   ·injection h with h;subst h;exact hk
  ·injection h with h;subst h;exact hk
theorem bp1{ops:Array Oper}{o:Oper}{rest:List Oper}{K:AS->Prop}{p q:AS×List Oper}{j:Nat}{want:Bool}(hg:o.guard=some (j,want))
  (hw:nQ (nA ops.toList j σ.env) want=some false) (hs:AY ops.toList rest (σ.put o.dst false (.c (.bool false)))=some q)
  (hr:run P ops.toList q.2 q.1=p) (h:b8 P true ops p.2 p.1 K):b8 P true ops (o::rest) σ K:=by
 show nC P true ops o σ _
 unfold nC;simp only[hg];rw[hw,uU];exact .inl (.inl ⟨rfl,Vy _ _ hs (nF _ _ hr h)⟩)
theorem bp2{o:Oper}{K:AS->Prop}{b x y:Operand}{b0:Bool}{a:AV}(aS:o.op= .pick b x y)(hb:jL (σ.get true b)=some b0)(hn:yD (jL (σ.get b0 x)) (jL (σ.get (!b0) y))=none)(ha:σ.get true (cond b0 x y)=some a)(hk:K (σ.put o.dst true a)):p5 P o σ K:=by
 unfold p5;simp only[aS];rw[hb,uU];simp only[hold];rw[hn];refine⟨fun h=> ?_,fun h=> ?_⟩<;>subst h<;>simp only[cond]at ha<;>rw[ha,uU]<;>exact hk
theorem bp3{ops:Array Oper}{o:Oper}{rest:List Oper}{K:AS->Prop}{p:AS×List Oper}{b x y:Operand}{b0:Bool}{a:AV}(aS:o.op= .pick b x y)(hg:o.guard=none)
  (hb:jL (σ.get true b)=some b0) (hn:yD (jL (σ.get b0 x)) (jL (σ.get (!b0) y))=none) (ha:σ.get true (cond b0 x y)=some a) (hr:run P ops.toList rest (σ.put o.dst true a)=p) (h:b8 P true ops p.2 p.1 K):b8 P true ops (o::rest) σ K:=by
 show nC P true ops o σ _
 unfold nC;simp only[hg];exact bp2 aS hb hn ha (nF _ _ hr h)
end
attribute [go_sem] AY AY.Fv AY.Fu X6
end Go.AL
namespace Go.AL
open Go.RowKit
section
variable {P : Program} {σ : AS}
theorem bp4{ops:Array Oper}{o:Oper}{rest:List Oper}{K:AS->Prop}{f:Operand}{as:Array Operand}{ts:Array TypeId}{n:FuncId}{bW args:List AV}{r:AV}{G':Nat->Option aI}{p:AS×List Oper}(aS:o.op= .call ⟨.value f,as,ts⟩)(hg:o.guard=none)
  (hp:eA P n args (·=r)) (hc:fN (σ.get true f) (dN (σ.get true) as.toList)=some (n,bW)) (he:bW.map (nE σ.H.get)=args) (hn:∀a∈args,bF a) (hG:wA σ.H.get (l8 oJ bW)=G')
  (hr:run P ops.toList rest (({σ with H:=⟨σ.H.next,G'⟩}:AS).put o.dst true r)=p) (h:b8 P true ops p.2 p.1 K):b8 P true ops (o::rest) σ K:=by
 show nC P true ops o σ _
 unfold nC;simp only[hg];unfold p5;simp only[aS];refine .inl ?_;rw[hc,uU];refine fW.Vz hp he hn fun r' _ cG=> ?_
 subst cG;rw[hG];exact nF _ _ hr h
theorem bp5{ops:Array Oper}{o:Oper}{rest:List Oper}{K:AS->Prop}{f:Operand}{as:Array Operand}{ts:Array TypeId}{n:FuncId}{bW args:List AV}{r:AV}{G':Nat->Option aI}{p:AS×List Oper}{j:Nat}{want:Bool}(aS:o.op= .call ⟨.value f,as,ts⟩)(hg:o.guard=some (j,want))
  (hp:eA P n args (·=r)) (hw:nQ (nA ops.toList j σ.env) want=some true) (hc:fN (σ.get true f) (dN (σ.get true) as.toList)=some (n,bW)) (he:bW.map (nE σ.H.get)=args) (hn:∀a∈args,bF a) (hG:wA σ.H.get (l8 oJ bW)=G')
  (hr:run P ops.toList rest (({σ with H:=⟨σ.H.next,G'⟩}:AS).put o.dst true r)=p) (h:b8 P true ops p.2 p.1 K):b8 P true ops (o::rest) σ K:=by
 show nC P true ops o σ _
 unfold nC;simp only[hg];rw[hw,uU];simp only[hold];refine .inl (.inr ⟨rfl,?_⟩);unfold p5;simp only[aS];refine .inl ?_;rw[hc,uU];refine fW.Vz hp he hn fun r' _ cG=> ?_
 subst cG;rw[hG];exact nF _ _ hr h
theorem DG{ops:Array Oper}{o:Oper}{rest:List Oper}{K:AS->Prop}{f:Operand}{as:Array Operand}{ts:Array TypeId}{n:FuncId}{args:List AV}{Q:AV->Heap->Prop}(aS:o.op= .call ⟨.value f,as,ts⟩)(hg:o.guard=none)
  (hc:fN (σ.get true f) (dN (σ.get true) as.toList)=some (n,args)) (hp:fW P n args σ.H Q) (h:∀r H',Q r H'->b8 P true ops rest (({σ with H:=H'}:AS).put o.dst true r) K):b8 P true ops (o::rest) σ K:=by
 show nC P true ops o σ _
 unfold nC;simp only[hg];unfold p5;simp only[aS];refine .inl ?_;rw[hc,uU];exact hp.mono fun r H' hq=>h r H' hq
end
attribute [go_sem] tW oJ l8 qU bp6 Wa
end Go.AL
namespace Go.AL
open Go.RowKit
section
variable {P : Program} {σ : AS}
theorem bP.wk{E:Env}{W:World}{as bs:List AV}{vs:List Value}(h:y1 as bs)(r:bP E W as vs):bP E W bs vs:=
 ⟨h.1▸r.1,fun i y v hy hv=>by
   obtain⟨x,hx⟩:∃x,as[i]? =some x:=⟨as[i]'(by have:=(fT.1 hy).1;have:=h.1;omega),by simp⟩
   exact(r.2 i x v hx hv).wk (h.2 i x y hx hy)⟩
theorem eA.less{n:FuncId}{as bs:List AV}{Q:AV->Prop}(h:eA P n bs Q)(hw:y1 as bs):eA P n as Q:=
 ⟨h.1,fun L W vs hL hr=>h.2 L W vs hL (hr.wk hw)⟩
end
end Go.AL
namespace Go.AL
open Go.RowKit
def uY(W:World)(b:Nat):Nat:=match W.heap[b]? with
 |some (.cells cur _ _)=>cur.size
 |_=>0
theorem bp7(W:World)(b:Nat)(h:W.heap.size<=b):uY W b=0:=by
 unfold uY;rw[OW h]
theorem eA.calls{P:Program}{n:FuncId}{args:List AV}{x:Value}(h:eA P n args (·= .c x))(W:World)(vs:List Value)(hr:bP (eZ (uY W)) W args vs):
  Calls P n vs.toArray W fun e W'=>e= .returned x/\Below W.heap.size W W':=
 (h.2 (uY W) W vs (bp7 W) hr).mono fun e W' ⟨v,he,r,L',hb,_,_,iP,_,hq⟩=>by
   subst hq;cases iP;exact⟨he,hb⟩
end Go.AL
namespace Go.AL
attribute [go_sem] Nat.reduceEqDiff Nat.reduceAdd Nat.reduceSub Nat.reduceMul Nat.reduceLT Nat.reduceLeDiff reduceCtorEq Int.reduceToNat Int.reduceLT Int.reduceLE Nat.reduceBEq Nat.reduceBNe IntWalk.iteOmega IntWalk.toNatUp vB KJ Int.reduceAdd Int.reduceSub Int.reduceMul Int.reduceNeg IntWalk.i64_in IntWalk.u8_in IntWalk.rem_in Int.reduceBEq Int.reduceBNe Int.zero_add Int.toNat_zero zR Nat.mul_one Nat.one_mul
attribute [go_sem] MP MQ RL RK ME EB vW G5 WO List.getLast?_concat MN MO sM uH sN yY rY KI List.all_nil yH Zu Option.isSome_some Zv
attribute [go_sem ↓] reduceIte
end Go.AL
namespace Go.AL
open Go.RowKit
abbrev zV(x:Int):AV:= .c (.int .i64 x)
abbrev bV(b:Bool):AV:= .c (.bool b)
class rN{α:Type}(f:α->List AV)(k:outParam Nat):Prop where
 len:∀a,(f a).length=k
 one:∀a,(f a).all AV.one=true
 bp8:∀a,∀x∈f a,bF x
def aB{α:Type}(f:α->List AV)(l:List α):List (List AV):=l.map f
section
variable {α : Type} {f : α -> List AV} {k : Nat}
theorem fK(l:List α):(aB f l).length=l.length:=by simp[aB]
theorem yJ:aB f []=[]:=rfl
theorem tB(d:α){l:List α}{i:Nat}(h:i<l.length):(aB f l)[i]? =some (f (l.getD i d)):=by
 simp[aB,h]
theorem YP(l:List α)(n:Nat):(aB f l).take n=aB f (l.take n):=by simp[aB]
theorem YN(l:List α)(n:Nat):(aB f l).drop n=aB f (l.drop n):=by simp[aB]
theorem DR(a b:List α):aB f a++aB f b=aB f (a++b):=by simp[aB]
theorem kK(a:List α)(x:α):aB f a++[f x]=aB f (a++[x]):=by simp[aB]
theorem KO(l:List α)(i:Nat)(x:α):(aB f l).set i (f x)=aB f (l.set i x):=by simp[aB,List.map_set]
theorem aD7(x:α):[f x]=aB f [x]:=rfl
theorem YF(n:Nat)(x:α):List.replicate n (f x)=aB f (List.replicate n x):=by simp[aB]
theorem Dc(l:List α):(aB f l).isEmpty=l.isEmpty:=by simp[aB]
theorem Bp[h:rN f k](l:List α):(aB f l).all (fun r=>r.length==k&&r.all AV.one)=true:=by
 simp only[aB,List.all_map,iM,Function.comp,jF,beq_iff_eq];exact fun x _=>⟨h.len x,iM.1 (h.one x)⟩
theorem bp9[h:rN f k](l:List α):(aB f l).all (fun r=>r.length==k)=true:=by
 simp only[aB,List.all_map,iM,Function.comp,beq_iff_eq];exact fun x _=>h.len x
theorem oN[h:rN f k](l:List α):∀row∈aB f l,∀x∈row,bF x:=by
 intro row hr x hx;simp only[aB,mF]at hr;obtain⟨a,_,rfl⟩:=hr;exact h.bp8 a x hx
theorem gJ[h:rN f k](l:List α):bF (.snap (aB f l)):=fC.2 (oN l)
theorem hZ[h:rN f k](l:List α):(∀row,row∈aB f l->∀x,x∈row->bF x)=True:=eq_true (oN l)
theorem qF{β:Type}{l:List β}(h:l≠[]):l.isEmpty=false:=by cases l<;>simp_all
theorem eB(d:α){l:List α}{i:Nat}(h:i<l.length):l.getD i d∈l:=by
 rw[rL,gY h];exact EN h
end
def aW(x:Int):List AV:=[zV x]
instance :rN aW 1:=⟨fun _=>rfl,fun _=>rfl,fun _ x hx=>by simp[aW]at hx;subst hx;exact .c _⟩
def eH(x:Bool):List AV:=[bV x]
instance :rN eH 1:=⟨fun _=>rfl,fun _=>rfl,fun _ x hx=>by simp[eH]at hx;subst hx;exact .c _⟩
theorem bq0(a:List Int)(x:Int):aB aW a++[[zV x]]=aB aW (a++[x]):=kK a x
theorem bq1(l:List Bool)(i:Nat)(x:Bool):(aB eH l).set i [bV x]=aB eH (l.set i x):=KO l i x
theorem Mx(n:Nat)(x:Bool):List.replicate n [bV x]=aB eH (List.replicate n x):=YF (f:=eH) n x
attribute [go_sem] fK YP YN DR Dc Bp bp9 gJ hZ bq0 bq1 Mx aW eH cU GR v7 sY Nat.sub_zero Int.sub_zero
end Go.AL
namespace Go.AL
open Go.RowKit
section
variable {P : Program} {σ : AS}
theorem bq2{ops:List Oper}{N0 i:Nat}{o:Oper}{r:List Oper}{σ dV:AS}{es:List Entry}{f:Operand}{as:Array Operand}{ts:Array TypeId}{n:FuncId}{bW args:List AV}{a:AV}{wr:List (Nat×Option aI)}{rd:List Nat}(aS:o.op= .call ⟨.value f,as,ts⟩)(hg:o.guard=none)
  (hp:eA P n args (·=a)) (hc:fN (σ.get true f) (dN (σ.get true) as.toList)=some (n,bW)) (he:bW.map (nE σ.H.get)=args) (hn:∀a∈args,bF a) (iW:l8 oJ bW=rd) (hw:(rd.map fun id=>(id,qU (σ.H.get id)))=wr) (h:fX P ops N0 (i+1) r (σ.app o.dst ⟨true,a,wr,rd⟩) es dV):
  fX P ops N0 i (o::r) σ (⟨true,a,wr,rd⟩::es) dV:=
 .cons i o r σ _ es dV (.X7 f as ts n bW args aS (by unfold l9;rw[hg]) rfl hc he hn hp (.inl (by rw[iW];exact hw.symm)) (fun id aC=>by rw[<-iW];exact aC)) h
theorem bq3{ops:List Oper}{N0 i:Nat}{o:Oper}{r:List Oper}{σ dV:AS}{es:List Entry}{f:Operand}{as:Array Operand}{ts:Array TypeId}{n:FuncId}{args:List AV}{el:TypeId}{k:Nat}{rows:List (List AV)}(aS:o.op= .call ⟨.value f,as,ts⟩)(hg:o.guard=none)
  (hp:r5 P n args el k rows) (hc:fN (σ.get true f) (dN (σ.get true) as.toList)=some (n,args)) {a:AV} (ha:AV.own (N0+i) 0 rows.length=a) (h:fX P ops N0 (i+1) r (σ.app o.dst ⟨true,a,[(N0+i,some (.cells el k rows true true))],[]⟩) es dV):
  fX P ops N0 i (o::r) σ (⟨true,a,[(N0+i,some (.cells el k rows true true))],[]⟩::es) dV:=
 .cons i o r σ _ es dV (.NA f as ts n args el k rows aS (by unfold l9;rw[hg]) rfl hc hp ha.symm rfl) h
theorem bq4{ops:Array Oper}{o:Oper}{rest:List Oper}{K:AS->Prop}{f:Operand}{as:Array Operand}{ts:Array TypeId}{n:FuncId}{args:List AV}{el:TypeId}{k:Nat}{rows:List (List AV)}{p:AS×List Oper}(aS:o.op= .call ⟨.value f,as,ts⟩)(hg:o.guard=none)
  (hp:r5 P n args el k rows) (hc:fN (σ.get true f) (dN (σ.get true) as.toList)=some (n,args))
  (hr:run P ops.toList rest (({σ with H:=⟨σ.H.next+1,aY σ.H.get [(σ.H.next,some (.cells el k rows true true))]⟩}:AS).put o.dst true (.own σ.H.next 0 rows.length))=p) (h:b8 P true ops p.2 p.1 K):b8 P true ops (o::rest) σ K:=
 DG aS hg hc hp.run fun r H' ⟨h1,h2⟩=>by subst h1;subst h2;exact nF _ _ hr h
theorem bq5{ops:Array Oper}{o:Oper}{rest:List Oper}{K:AS->Prop}{f:Operand}{as:Array Operand}{ts:Array TypeId}{n:FuncId}{fn:Func}{c:Code}{args:List AV}{nt:Nat}(hf:P.funcs[n]? =some fn)(hb:fn.body=some c)(eW:(fn.name== "runtime.NumGoroutine")=false)(cL:fn.ntmps=nt)
  (aS:o.op= .call ⟨.value f,as,ts⟩) (hg:o.guard=none) (hc:fN (σ.get true f) (dN (σ.get true) as.toList)=some (n,args)) (hlen:args.length<=nt)
  (h:AW P c ⟨jW 0 args,σ.H,nt⟩ (hold (bT P fn.results.toList (hold (fun a H'=>b8 P true ops rest (({σ with H:=H'}:AS).put o.dst true a) K) ⟨⟩)) ⟨⟩)):b8 P true ops (o::rest) σ K:=by
 subst cL;exact DG aS hg hc (CN hf hb eW hlen h) fun r H' hq=>hq
end
theorem NA{P:Program}{n:FuncId}{fn:Func}{c:Code}{args:List AV}{e:TypeId}{k:Nat}{rows:List (List AV)}(ha:∀a∈args,bF a)(fA:∀row∈rows,∀x∈row,bF x)(hf:P.funcs[n]? =some fn)(hb:fn.body=some c)(eW:(fn.name== "runtime.NumGoroutine")=false)(hlen:args.length<=fn.ntmps)
  (h:AW P c ⟨jW 0 args,⟨0,bN []⟩,fn.ntmps⟩ (hold (bT P fn.results.toList (hold (fun a H'=>∃i,a= .own i 0 rows.length/\H'.get i=some (.cells e k rows true true)) ⟨⟩)) ⟨⟩)):r5 P n args e k rows:=
 bl4 ha fA (CN hf hb eW hlen h)
theorem Fw{E:Env}{W:World}{pre post:List AV}{vs:List Value}(h:bP E W (pre++ .snap []::post) vs):∃a cap,bP E W (pre++ .c (.slice a 0 cap)::post) vs:=by
 have bG:pre.length<vs.length:=by have:=h.1;simp at this;omega
 have hv:=h.2 pre.length (.snap []) vs[pre.length] (by simp) (gY bG)
 have key:∃a cap,vs[pre.length]= .slice a 0 cap:=by
  generalize S6:vs[pre.length]=v at hv;cases hv with
  |kP a cap=>exact⟨a,cap,rfl⟩
  |snap _ b off s n cap ws hn pH=>simp at hn;subst hn;exact⟨_,cap,rfl⟩
 obtain⟨a,cap,hk⟩:=key;refine⟨a,cap,by simpa using h.1,fun i x v hx lD=> ?_⟩
 rcases Iq i pre.length with h1|h1|h1
 ·rw[rM h1]at hx
  exact h.2 i x v (by rw[rM h1];exact hx) lD
 ·subst h1
  simp at hx;subst hx;rw[gY bG]at lD;injection lD with lD
  rw[<-lD,hk];exact .c _ rfl
 ·refine h.2 i x v ?_ lD
  obtain⟨d,rfl⟩:∃d,i=pre.length+(d+1):=⟨i-pre.length-1,oM⟩
  rw[nI oM]at hx⊢
  simpa using hx
theorem eA.nil{P:Program}{n:FuncId}{pre post:List AV}{Q:AV->Prop}(h:∀a cap,eA P n (pre++ .c (.slice a 0 cap)::post) Q):eA P n (pre++ .snap []::post) Q:=
 ⟨(h none 0).1,fun L W vs hL hr=>let ⟨a,cap,cG⟩:=Fw hr;(h a cap).2 L W vs hL cG⟩
end Go.AL
namespace Go.AL
open Go.RowKit
theorem eA.ah8{P:Program}{n:FuncId}{pre post rest:List AV}{Q:AV->Prop}(h:∀a cap,eA P n (.agg (pre++ .c (.slice a 0 cap)::post)::rest) Q):eA P n (.agg (pre++ .snap []::post)::rest) Q:=
 ⟨(h none 0).1,fun L W vs hL hr=>by
   cases vs with
   |nil=>have:=hr.1;simp at this
   |cons v vs=>
    have hv:=hr.2 0 _ v rfl rfl;cases hv with
    |agg _ us hl hu=>
    obtain⟨a,cap,hx⟩:=Fw (E:=eZ L) (W:=W) (pre:=pre) (post:=post) (vs:=us.toList) ⟨by simpa using hl,fun i x v hx hv=>hu i x v hx (by simpa using hv)⟩
    refine(h a cap).2 L W _ hL ⟨by have:=hr.1;simpa using this,fun i x v hx hv=> ?_⟩
    cases i with
    |zero=>
     simp at hx hv;subst hx;subst hv;exact .agg _ us (by have:=hx.1;simpa using this) fun i x v h1 h2=>hx.2 i x v h1 (by simpa using h2)
    |succ i=>exact hr.2 (i+1) x v (by simpa using hx) (by simpa using hv)⟩
def lG(G:Nat->Option aI)(k:Nat):List (Nat×Option aI)->Option aI
 |[]=>G k
 |(i,b)::r=>if k=i then b else lG G k r
def fU(G:Nat->Option aI)(l:List (Nat×Option aI))(k:Nat):Option aI:=lG G k l
theorem bq6(G:Nat->Option aI)(l:List (Nat×Option aI))(k:Nat):fU G l k=lG G k l:=rfl
theorem bq7(G:Nat->Option aI):fU G []=G:=rfl
theorem bq8(G:Nat->Option aI)(l:List (Nat×Option aI))(i:Nat)(b:Option aI):(fun k=>if k=i then b else fU G l k)=fU G (DV l i b):=by
 funext k
 induction l with
 |nil=>rfl
 |cons p r ih=>
  obtain⟨j,c⟩:=p;simp only[DV];by_cases kZ:i=j
  ·subst kZ
   simp only[if_true,fU,lG];split<;>rfl
  ·simp only[kZ,if_false,fU,lG]
   simp only[fU]at ih;rw[<-ih];by_cases Wb:k=j
   ·subst Wb;simp[wD kZ]
   ·simp[Wb]
theorem bq9(G:Nat->Option aI)(l:List (Nat×Option aI))(i:Nat)(b:Option aI)(r:List (Nat×Option aI)):aY (fU G l) ((i,b)::r)=aY (fU G (DV l i b)) r:=by
 rw[<-bq8];rfl
def VO(wB H':Heap):Prop:=H'.next<=wB.next/\∀id b,wB.get id=some b->H'.get id=some b
theorem RH.less{E:Env}{W:World}{H' wB:Heap}(h:RH E W H')(hl:VO wB H'):RH E W wB:=
 ⟨fun id aC=>tX (h.next id aC) hl.1,h.core.M8 fun id b hb=>⟨b,hl.2 id b hb,aI.le_refl b⟩⟩
theorem BF{G:Nat->Option aI}:∀id b,bN [] id=some b->G id=some b:=fun id b h=>by cases h
theorem u1{G:Nat->Option aI}{l:List (Nat×Option aI)}{i:Nat}{x:Option aI}(h:G i=x)(hr:∀id b,bN l id=some b->G id=some b):∀id b,bN ((i,x)::l) id=some b->G id=some b:=fun id b hb=>by
 simp only[bN,pN]at hb;split at hb
 ·rename_i he;subst he;rw[h];exact hb
 ·exact hr id b hb
theorem QR{G:Nat->Option aI}{l:List (Nat×Option aI)}{i:Nat}(hr:∀id b,bN l id=some b->G id=some b):∀id b,bN ((i,none)::l) id=some b->G id=some b:=fun id b hb=>by
 simp only[bN,pN]at hb;split at hb
 ·cases hb
 ·exact hr id b hb
theorem JP{a b:Nat}(h:a≠b):(a==b)=false:=by simpa using h
theorem JQ{a b:Nat}(h:a=b):(a==b)=true:=by simpa using h
attribute [go_sem] bq6 lG bq9
end Go.AL
namespace Go.AL
open Go.RowKit
theorem ZA(G:Nat->Option aI)(l:List (Nat×Option aI)):∀(l2:List (Nat×Option aI)),fU (fU G l) l2=fU G (l2++l)
 |[]=>rfl
 |(i,x)::r=>by
  funext k
  have h:=congrFun (ZA G l r) k;simp only[fU,lG,BB]at h⊢;split
  ·rfl
  ·exact h
def G9(G:Nat->Option aI)(l l':List (Nat×Option aI)):Prop:=∀p∈l',p.2=none\/fU G l p.1=p.2
theorem U6{G:Nat->Option aI}{l:List (Nat×Option aI)}:G9 G l []:=fun p hp=>by cases hp
theorem Z6{G:Nat->Option aI}{l l':List (Nat×Option aI)}{i:Nat}{x:Option aI}(h:fU G l i=x)(hr:G9 G l l'):G9 G l ((i,x)::l'):=fun p hp=>by
 rcases dJ.1 hp with rfl|hp
 ·exact .inr h
 ·exact hr p hp
theorem Z7{G:Nat->Option aI}{l l':List (Nat×Option aI)}{i:Nat}(hr:G9 G l l'):G9 G l ((i,none)::l'):=fun p hp=>by
 rcases dJ.1 hp with rfl|hp
 ·exact .inl rfl
 ·exact hr p hp
def HH(k:Nat):List (Nat×Option aI)->Prop
 |[]=>False
 |(i,_)::r=>i=k\/HH k r
def F4(N:Nat)(l':List (Nat×Option aI)):List (Nat×Option aI)->Prop
 |[]=>True
 |(i,_)::r=>(N<=i\/HH i l')/\F4 N l' r
theorem Wc{N:Nat}{l':List (Nat×Option aI)}:∀{l:List (Nat×Option aI)},F4 N l' l->∀p∈l,N<=p.1\/HH p.1 l'
 |(i,x)::r,h,p,hp=>by
  rcases dJ.1 hp with rfl|hp
  ·exact h.1
  ·exact Wc h.2 p hp
theorem X8(G:Nat->Option aI)(k:Nat):∀(l:List (Nat×Option aI)),(∃p∈l,p.1=k/\lG G k l=p.2)\/(¬HH k l/\lG G k l=G k)
 |[]=> .inr ⟨fun h=>h,rfl⟩
 |(i,x)::r=>by
  by_cases h:k=i
  ·exact .inl ⟨(i,x),by simp,h.symm,by simp[lG,h]⟩
  ·rcases X8 G k r with⟨p,hp,h1,h2⟩|⟨h1,h2⟩
   ·exact .inl ⟨p,by simp[hp],h1,by simp only[lG,if_neg h];exact h2⟩
   ·exact .inr ⟨fun hm=>hm.elim (fun e=>h e.symm) h1,by simp only[lG,if_neg h];exact h2⟩
theorem Z5{G:Nat->Option aI}{N:Nat}{l l':List (Nat×Option aI)}(hG:∀id,N<=id->G id=none)(hs:G9 G l l')(hk:F4 N l' l):∀id b,fU G l' id=some b->fU G l id=some b:=fun id b hb=>by
 rcases X8 G id l' with⟨p,hp,h1,h2⟩|⟨h1,h2⟩
 ·have h3:p.2=some b:=by rw[<-h2];exact hb
  rcases hs p hp with h4|h4
  ·rw[h4]at h3;cases h3
  ·rw[<-h1,h4,h3]
 ·have h3:G id=some b:=by rw[<-h2];exact hb
  have h4:id<N:=by
   rcases qY id N with h|h
   ·exact h
   ·rw[hG id h]at h3;cases h3
  rcases X8 G id l with⟨p,hp,h5,h6⟩|⟨h5,h6⟩
  ·exfalso
   rcases Wc hk p hp with h7|h7
   ·omega
   ·rw[h5]at h7;exact h1 h7
  ·show lG G id l=some b
   rw[h6,h3]
theorem br0{G:Nat->Option aI}{N N':Nat}(hG:∀id,N<=id->G id=none)(hN:N<=N'){l:List (Nat×Option aI)}(hl:∀p∈l,p.1<N'):∀id,N'<=id->fU G l id=none:=fun id aC=>by
 rcases X8 G id l with⟨p,hp,h1,h2⟩|⟨h1,h2⟩
 ·have:=hl p hp;omega
 ·show lG G id l=none
  rw[h2];exact hG id oM
def PR(N:Nat):List (Nat×Option aI)->Prop
 |[]=>True
 |(i,_)::r=>i<N/\PR N r
theorem Wd{N:Nat}:∀{l:List (Nat×Option aI)},PR N l->∀p∈l,p.1<N
 |(i,x)::r,h,p,hp=>by
  rcases dJ.1 hp with rfl|hp
  ·exact h.1
  ·exact Wd h.2 p hp
theorem Ll{G:Nat->Option aI}{N N':Nat}(hG:∀id,N<=id->G id=none)(hN:N<=N'){l:List (Nat×Option aI)}(hl:PR N' l):∀id,N'<=id->fU G l id=none:=br0 hG hN (Wd hl)
end Go.AL
namespace Go.AL
open Go.RowKit
theorem br1{P:Program}{ops:List Oper}{N0 i:Nat}{o:Oper}{r:List Oper}{σ dV:AS}{es:List Entry}{a:AV}{wr:List (Nat×Option aI)}{rd:List Nat}{j:Nat}{want:Bool}(hg:o.guard=some (j,want))
  (hgc:nQ (nA ops j σ.env) want=some true) (hr:res P (σ.get true) σ.H.get (N0+i) o=some (a,wr,rd)) (h:fX P ops N0 (i+1) r (σ.app o.dst ⟨true,a,wr,rd⟩) es dV):fX P ops N0 i (o::r) σ (⟨true,a,wr,rd⟩::es) dV:=
 .cons i o r σ _ es dV (.res (by unfold l9;rw[hg];exact hgc) hr (.inr rfl)) h
end Go.AL
namespace Go.AL
open Go.RowKit
section
variable {E : Env} {W : World} {G : Nat -> Option aI}
theorem bE.S7(hG:RC E W G)(o:Obj):bE E W E (W.alloc o)where
 os:=rfl
 tape:=rfl
 output:=rfl
 size:=by simp
 used:=fun id h=>h
 jK:=fun id h=>⟨rfl,rfl⟩
 lim:=fun b=>cA _
 wV:=fun b k hk=>by
  refine World.cell?_alloc_old W o _ fun e=> ?_
  have:=hG.lim b (by simp at e;omega)
  omega
 rJ:=fun b hb _=>Below.heap_alloc W o b hb
 aR:=fun b cur e f h=>⟨cur,f,by rw[Below.heap_alloc W o b (k7.1 h).1];exact h,rfl⟩
 still:=fun _ _ _=>rfl
 fresh:=fun id h1 h2=>absurd h2 h1
 loops:=fun b r h=>⟨r,by rw[Below.heap_alloc W o b (k7.1 h).1];exact h,rfl⟩
theorem RC.S7(hG:RC E W G)(o:Obj):RC E (W.alloc o) G where
 lim:=fun b hb=>hG.lim b (by simp at hb;omega)
 eJ:=fun id h=>by have:=hG.eJ id h;simp;omega
 ok:=fun id b h=>by
  obtain⟨h1,h2⟩:=hG.ok id b h;exact⟨h1,h2.mono (bE.S7 hG o) h1 (Below.heap_alloc W _ _ (hG.eJ id h1)) rfl fun aL b' aT hg he=>⟨b',hg,he,rfl,fun h=>h⟩⟩
theorem RC.br3(hG:RC E W G){aF:Nat}(hn:¬E.U aF)(r:Loop)(env:List (Nat×Bool×AV))(ps:List Tmp)(hp:r.params=ps.toArray)
  (Fh:∀t c a,lk env t=some (c,a)->∃v,r.tmps[t]? =some v/\(c=true->RV E W a v)/\(c=false->v=undef)):
  RC (E.more aF W.heap.size 0) (W.alloc (.loop r)) (aY G [(aF,some (.cJ env r.tmps.size ps r.assign r.body r.state r.pending))])where
 lim:=fun b hb=>hG.lim b (by simp at hb;omega)
 eJ:=fun id h=>by
  rcases h with h|h
  ·have aT:id≠aF:=fun e=>hn (e▸h)
   have:=hG.eJ id h;simp[Env.more,aT];omega
  ·subst h;simp[Env.more]
 ok:=fun id b h=>by
  have hv:=bE.alloc hG hn (.loop r) 0;by_cases aC:id=aF
  ·subst aC
   simp only[aY,if_true,bM]at h;subst h;refine⟨.inr rfl,⟨r.fn,r.tmps,r.defers,?_,rfl,fun t c a ht=> ?_⟩,?_,fun aL b' aT hg=> ?_⟩
   ·simp only[Env.more,if_true]
    rw[World.alloc_heap_new W _,<-hp]
   ·obtain⟨v,h3,h4,h5⟩:=Fh t c a ht
    exact⟨v,h3,fun hc=>(h4 hc).mono hv,h5⟩
   ·simp only[Env.more,if_true];exact hG.lim _ (cA _)
   ·simp only[aY,aT,if_false]at hg
    have:=hG.eJ aL (hG.ok aL b' hg).1;simp only[Env.more,aT,if_true,if_false];omega
  ·simp only[aY,aC,if_false]at h
   obtain⟨h1,h2⟩:=hG.ok id b h;have bG:=hG.eJ id h1;refine⟨.inl h1,h2.mono hv h1 (Below.heap_alloc W _ _ bG) rfl fun aL b' aT hg he=> ?_⟩
   by_cases M6:aL=aF
   ·subst M6;simp only[Env.more,if_true]at he;omega
   ·simp only[aY,M6,if_false]at hg
    simp only[Env.more,M6,if_false]at he;exact⟨b',hg,he,rfl,fun h=>h⟩
end
def We(Q:Exit->AS->Prop)(σ:AS):Option Code->Prop
 |none=>Q .normal σ
 |some .ret=>Q .ret σ
 |some (.exit i)=>Q (.exit i) σ
 |_=>False
def sX(id:Nat)(env:List (Nat×Bool×AV))(nt:Nat)(ps:List Tmp)(A B:Code)(Q:Exit->Heap->Prop)(H':Heap):Prop:=
 ∃env nt ps A B st pe,H'.get id=some (.cJ env nt ps A B st pe)/\st≠ .busy/\We (fun e σ=>Q e σ.H) ⟨[],iU H' id none,0⟩ pe
theorem br4{P:Program}{σ:AS}{Q:Exit->AS->Prop}{g:Operand}{ps:Array Tmp}{assign body:Code}{n:FuncId}{fn:Func}{c:Code}{first cap:List AV}(hg:σ.get true g=some (.fn (.func n) first cap))
  (hf:P.funcs[n]? =some fn) (hb:fn.body=some c) (eW:(fn.name== "runtime.NumGoroutine")=false) (hlen:(first++[AV.jT σ.H.next]++cap).length<=fn.ntmps)
  (h:∀R A B,R=σ.env->A=assign->B=body->AW P c ⟨jW 0 (first++[.jT σ.H.next]++cap),iU ⟨σ.H.next+1,σ.H.get⟩ σ.H.next (some (.cJ R σ.nt ps.toList A B .ready none)),fn.ntmps⟩
    (hold (bT P fn.results.toList (hold (fun _ H'=>sX σ.H.next R σ.nt ps.toList A B (hold (fun e H2=>Q e ({σ with H:=H2}:AS)) ⟨⟩) H') ⟨⟩)) ⟨⟩)):AW P (.rangeFunc g ps assign body) σ Q:=fun ro E W act dP hr=>by
 have WW:=CN hf hb eW hlen (h _ _ _ rfl rfl rfl);have h1:=hr.get rfl hg;generalize nD:act.eval g=fv at h1;cases h1 with
 |fn _ _ _ vf vc hl dG h3 h4=>
 have gT:¬E.U σ.H.next:=fun hU=>KK _ (hr.heap.next _ hU)
 refine wpIn_rangeFunc ?_;intro S8 _
 --entering
 have enter:∃(l:Nat) (mark:List Deferred) (D:Nat) (W0:World),(Instr.enterLoop S8 act.tmps ps assign body (l7 ro).round).run P W= .ok (l,mark) (W0.alloc (.loop {state:= .ready,pending:=none,fn:=S8,tmps:=act.tmps,params:=ps,assign,body,defers:=D}))/\l=W0.heap.size/\
   bE E W E W0/\RC E W0 σ.H.get/\Marks E W0 (mark++act.defers)/\(∀D,sW D∈mark++act.defers->sW D∈act.defers\/W.heap.size<=D)/\pJ (mark++act.defers)=pJ act.defers:=by
  cases ro with
  |none=>
   refine⟨W.heap.size+1,[sW W.heap.size],W.heap.size,W.alloc (.deferred (some [])),run_enterLoop_outer _ _ _ _ _,by simp,bE.S7 hr.heap.core _,hr.heap.core.S7 _,?_,fun D hD=> ?_,rfl⟩
   ·obtain⟨Ds,qD,tV,uW⟩:=hr.defers.mono (bE.S7 hr.heap.core (.deferred (some [])))
    have bG:∀D∈Ds,D<W.heap.size:=fun D hD=>by
     obtain⟨Ds',br5,_,br6⟩:=hr.defers;exact(k7.1 (br6 D (bl5 br5 (JG qD hD))).1).1
    refine⟨W.heap.size::Ds,by rw[Y1,TD rfl,qD];rfl,Il.2 ⟨fun h=>KK _ (bG _ h),tV⟩,fun D hD=> ?_⟩
    rcases dJ.1 hD with h5|h5
    ·subst h5
     exact⟨World.alloc_heap_new W _,fun id aC he=>by have:=hr.heap.core.eJ id aC;omega⟩
    ·exact uW D h5
   ·rcases dJ.1 hD with h5|h5
    ·exact .inr (Nat.le_of_eq (Ux h5).symm)
    ·exact .inl h5
  |some l0=>
   obtain⟨r0,AM⟩:=dP l0 rfl;exact⟨W.heap.size,[],r0.defers,W,run_enterLoop_inner AM _ _ _ _ _,rfl,bE.refl E W,hr.heap.core,hr.defers,(fun D hD=> .inl hD),rfl⟩
 obtain⟨l,mark,D,W0,MW,mX,BR,lS,hM0,nU,br8⟩:=enter;have oD:=bE.alloc lS gT (.loop {state:= .ready,pending:=none,fn:=S8,tmps:=act.tmps,params:=ps,assign,body,defers:=D}) 0
 have S9:=lS.br3 gT {state:= .ready,pending:=none,fn:=S8,tmps:=act.tmps,params:=ps,assign,body,defers:=D} σ.env ps.toList (by simp) (fun t c a ht=>by
  obtain⟨v,h5,h6,h7⟩:=hr.env t c a ht
  exact⟨v,h5,fun hc=>(h6 hc).mono BR,h7⟩)
 rw[<-mX]at oD S9;have Fx:=hM0.mono oD;generalize W0.alloc (.loop {state:= .ready,pending:=none,fn:=S8,tmps:=act.tmps,params:=ps,assign,body,defers:=D})=W1 at MW oD S9 Fx;have S6:=BR.trans oD;have MZ:(E.more σ.H.next l 0).ι σ.H.next=l:=by simp[Env.more]
 have x8:(E.more σ.H.next l 0).U σ.H.next:= .inr rfl
 have Wf:∀id,(E.more σ.H.next l 0).U id->id<σ.H.next+1:=fun id aC=>by
  rcases aC with h5|h5
  ·exact OT (hr.heap.next id h5)
  ·subst h5;exact KL _
 generalize E.more σ.H.next l 0=E1 at S6 oD S9 Fx MZ x8 Wf
 have dO:act.tmps.size=σ.nt:=hr.size;simp only[dO]at S9;have kI:RH E1 W1 (iU ⟨σ.H.next+1,σ.H.get⟩ σ.H.next (some (.cJ σ.env σ.nt ps.toList assign body .ready none))):=⟨Wf,S9⟩
 have lE:bP E1 W1 (first++[.jT σ.H.next]++cap) (vf.toList++[.func (.yield l) #[] #[]]++vc.toList):=by
  refine bP.append (bP.append ?_ ?_) ?_
  ·exact⟨by simpa using hl,fun i x v hx hv=>(h3 i x v hx (by simpa using hv)).mono S6⟩
  ·have:=RV.jT (E:=E1) (W:=W1) σ.H.next x8
   rw[MZ]at this;exact .cons this .nil
  ·exact⟨by simpa using dG,fun i x v hx hv=>(h4 i x v hx (by simpa using hv)).mono S6⟩
 have hlb:(vf.toList++[Value.func (.yield l) #[] #[]]++vc.toList).toArray=vf++ #[Value.func (.yield l) #[] #[]]++vc:=by
  apply zT;simp
 refine⟨l,mark,W1,{target:= .fn (.func n) vc,args:=vf++ #[Value.func (.yield l) #[] #[]]},W1,n,vf++ #[Value.func (.yield l) #[] #[]]++vc,W1,MW,?_,fun _ _=>trivial,?_,yB,?_⟩
 ·simp only[resolve,nD,Deferred.ofValue]
  simp[Act.eval,Sem.run_pure]
 ·simp only[invoke]
  exact yE WW.1 _ _
 ·refine zK ?_
  rw[<-hlb];refine(WW.2 E1 W1 _ kI lE).mono fun e W' ⟨v,he,E',r,H',fI,NB,iP,hk⟩=> ?_
  subst he;obtain⟨_,_,_,_,_,st,pe,oY,iR,hj⟩:=hk;obtain⟨rc,u5,bs0,Wg,_,_,_,_,_,pS⟩:=WX NB oY;obtain⟨CK,Fy⟩:=pS .exhausted pe;have bs1:E'.ι σ.H.next=l:=(fI.jK _ x8).1.trans MZ
  rw[bs1]at u5 CK Fy;have tH:=run_endLoop (P:=P) u5 (by rw[bs0];exact iR)
  have heq:({rc with state:=LoopState.exhausted}:Loop)={rc with state:=LoopState.exhausted,pending:=pe}:=by rw[<-Wg]
  rw[heq,Wg]at tH;refine⟨pe,_,tH,?_⟩;have RW:bE E W E' (W'.putObj l (.loop {rc with state:= .exhausted,pending:=pe})):=(S6.trans fI).trans CK
  have hH4:RH E' (W'.putObj l (.loop {rc with state:= .exhausted,pending:=pe})) (iU H' σ.H.next none):=by
   refine⟨Fy.next,Fy.core.M8 fun id b aC=>⟨b,?_,aI.le_refl b⟩⟩
   simp only[iU,aY]at aC⊢;by_cases aT:id=σ.H.next
   ·rw[if_pos aT]at aC;cases aC
   ·rw[if_neg aT]at aC⊢;exact aC
  have hM4:Marks E' (W'.putObj l (.loop {rc with state:= .exhausted,pending:=pe})) (mark++act.defers):=Fx.mono (fI.trans CK)
  have bL:Rel E' (W'.putObj l (.loop {rc with state:= .exhausted,pending:=pe})) ({σ with H:=iU H' σ.H.next none}:AS) {act with defers:=mark++act.defers}:=by
   have:=hr.mono RW hH4;exact⟨hM4,this.size,this.env,this.heap⟩
  have hw:eU E W act E' (W'.putObj l (.loop {rc with state:= .exhausted,pending:=pe})) {act with defers:=mark++act.defers}:=⟨RW,nU,br8⟩
  unfold We at hj;simp only[hold]at hj;split at hj
  ·exact⟨E',_,hw,bL,rfl,hj⟩
  ·exact wpIn_ret ⟨E',_,hw,bL,rfl,hj⟩
  ·exact wpIn_exit ⟨E',_,hw,bL,rfl,hj⟩
  ·exact hj.elim
end Go.AL
namespace Go.AL
open Go.RowKit
section
variable {P : Program} {σ : AS}
theorem Wh{ops:Array Oper}{o:Oper}{rest:List Oper}{K:AS->Prop}{j:Nat}{want:Bool}(hg:o.guard=some (j,want))(hw:nQ (nA ops.toList j σ.env) want=some true)
  (h:p5 P o σ (hold (fun aN=>b8 P true ops rest aN K) ⟨⟩)):b8 P true ops (o::rest) σ K:=by
 show nC P true ops o σ _
 unfold nC;simp only[hg];rw[hw,uU];simp only[hold];exact .inl (.inr ⟨rfl,h⟩)
theorem bs4{ops:Array Oper}{o:Oper}{rest:List Oper}{K:AS->Prop}{f:Operand}{as:Array Operand}{ts:Array TypeId}{n:FuncId}{args:List AV}{j:Nat}{want:Bool}(aS:o.op= .call ⟨.value f,as,ts⟩)(hg:o.guard=some (j,want))
  (hw:nQ (nA ops.toList j σ.env) want=some true) (hc:fN (σ.get true f) (dN (σ.get true) as.toList)=some (n,args)) {Q:AV->Heap->Prop} (hp:fW P n args σ.H Q)
  (h:∀r H',Q r H'->b8 P true ops rest (({σ with H:=H'}:AS).put o.dst true r) K):b8 P true ops (o::rest) σ K:=by
 refine Wh hg hw ?_;unfold p5;simp only[aS];refine .inl ?_;rw[hc,uU];exact hp.mono fun r H' hq=>h r H' hq
theorem bs5{ops:Array Oper}{o:Oper}{rest:List Oper}{K:AS->Prop}{f:Operand}{as:Array Operand}{ts:Array TypeId}{id:Nat}{args:List AV}{env AZ:List (Nat×Bool×AV)}{nt:Nat}{ps:List Tmp}{A A' B:Code}(aS:o.op= .call ⟨.value f,as,ts⟩)(hg:o.guard=none)
  (he:env=AZ) (hA:A=A') (hf:σ.get true f=some (.jT id)) (ha:dN (σ.get true) as.toList=some args) (hr:σ.H.get id=some (.cJ env nt ps A B .ready none)) (hl:args.length=ps.length) (pW:ps.all (fun p=>decide (p<nt))=true)
  (h:AW P A' ⟨CJ ps args AZ,σ.H,nt⟩ (hold (JI P id env nt ps A B (hold (fun b H'=>b8 P true ops rest (({σ with H:=H'}:AS).put o.dst true (.c (.bool b))) K) ⟨⟩)) ⟨⟩)):b8 P true ops (o::rest) σ K:=by
 subst he hA
 show nC P true ops o σ _
 unfold nC;simp only[hg];unfold p5;simp only[aS];exact .inr ⟨id,args,env,nt,ps,A,B,hf,ha,hr,hl,pW,h⟩
theorem bs6{ops:Array Oper}{o:Oper}{rest:List Oper}{K:AS->Prop}{f:Operand}{as:Array Operand}{ts:Array TypeId}{id:Nat}{args:List AV}{env AZ:List (Nat×Bool×AV)}{nt:Nat}{ps:List Tmp}{A A' B:Code}{j:Nat}{want:Bool}(aS:o.op= .call ⟨.value f,as,ts⟩)(hg:o.guard=some (j,want))
  (he:env=AZ) (hA:A=A') (hw:nQ (nA ops.toList j σ.env) want=some true) (hf:σ.get true f=some (.jT id)) (ha:dN (σ.get true) as.toList=some args) (hr:σ.H.get id=some (.cJ env nt ps A B .ready none)) (hl:args.length=ps.length) (pW:ps.all (fun p=>decide (p<nt))=true)
  (h:AW P A' ⟨CJ ps args AZ,σ.H,nt⟩ (hold (JI P id env nt ps A B (hold (fun b H'=>b8 P true ops rest (({σ with H:=H'}:AS).put o.dst true (.c (.bool b))) K) ⟨⟩)) ⟨⟩)):b8 P true ops (o::rest) σ K:=by
 subst he hA;refine Wh hg hw ?_;unfold p5;simp only[aS];exact .inr ⟨id,args,env,nt,ps,A,B,hf,ha,hr,hl,pW,h⟩
theorem bs7{id:Nat}{env:List (Nat×Bool×AV)}{nt:Nat}{ps:List Tmp}{A B B':Code}{K:Bool->Heap->Prop}(hB:B=B')(hg:σ.H.get id=some (.cJ env nt ps A B .ready none))
  (h:AW P B' ⟨σ.env,iU σ.H id (some (.cJ env nt ps A B .busy none)),σ.nt⟩ (hold (EG id env nt ps A B K) ⟨⟩)):JI P id env nt ps A B K .normal σ:=by
 subst hB;exact⟨_,_,_,_,_,hg,h⟩
theorem bs8{id:Nat}{env:List (Nat×Bool×AV)}{nt:Nat}{ps:List Tmp}{A B:Code}{ops:Array Oper}{rest:List Oper}{σ0:AS}{dst:Option Tmp}{K:AS->Prop}{p:AS×List Oper}(hg:σ.H.get id=some (.cJ env nt ps A B .busy none))
  (hr:run P ops.toList rest (({σ0 with H:=iU σ.H id (some (.cJ env nt ps A B .ready none))}:AS).put dst true (.c (.bool true)))=p) (h:b8 P true ops p.2 p.1 K):
  EG id env nt ps A B (hold (fun b H'=>b8 P true ops rest (({σ0 with H:=H'}:AS).put dst true (.c (.bool b))) K) ⟨⟩) .normal σ:=⟨_,_,_,_,_,hg,nF _ _ hr h⟩
theorem bs9{id:Nat}{env:List (Nat×Bool×AV)}{nt:Nat}{ps:List Tmp}{A B:Code}{ops:Array Oper}{rest:List Oper}{σ0:AS}{dst:Option Tmp}{K:AS->Prop}{p:AS×List Oper}(hg:σ.H.get id=some (.cJ env nt ps A B .busy none))
  (hr:run P ops.toList rest (({σ0 with H:=iU σ.H id (some (.cJ env nt ps A B .done (some .ret)))}:AS).put dst true (.c (.bool false)))=p) (h:b8 P true ops p.2 p.1 K):
  EG id env nt ps A B (hold (fun b H'=>b8 P true ops rest (({σ0 with H:=H'}:AS).put dst true (.c (.bool b))) K) ⟨⟩) .ret σ:=⟨_,_,_,_,_,hg,nF _ _ hr h⟩
theorem bt0{id:Nat}{env:List (Nat×Bool×AV)}{nt:Nat}{ps:List Tmp}{A B:Code}{ops:Array Oper}{rest:List Oper}{σ0:AS}{dst:Option Tmp}{K:AS->Prop}{p:AS×List Oper}{i:Nat}(hg:σ.H.get id=some (.cJ env nt ps A B .busy none))
  (hr:run P ops.toList rest (({σ0 with H:=iU σ.H id (some (.cJ env nt ps A B .done (some (.exit i))))}:AS).put dst true (.c (.bool false)))=p) (h:b8 P true ops p.2 p.1 K):
  EG id env nt ps A B (hold (fun b H'=>b8 P true ops rest (({σ0 with H:=H'}:AS).put dst true (.c (.bool b))) K) ⟨⟩) (.exit i) σ:=⟨_,_,_,_,_,hg,nF _ _ hr h⟩
theorem bt1{Q:Exit->AS->Prop}{g:Operand}{ps:Array Tmp}{assign body:Code}{n:FuncId}{fn:Func}{c:Code}{first cap:List AV}{nt:Nat}{args:List AV}(hf:P.funcs[n]? =some fn)(hb:fn.body=some c)(eW:(fn.name== "runtime.NumGoroutine")=false)(cL:fn.ntmps=nt)
  (hg:σ.get true g=some (.fn (.func n) first cap)) (ha:first++[AV.jT σ.H.next]++cap=args) (hlen:args.length<=nt)
  (h:∀R A B,R=σ.env->A=assign->B=body->AW P c ⟨jW 0 args,iU ⟨σ.H.next+1,σ.H.get⟩ σ.H.next (some (.cJ R σ.nt ps.toList A B .ready none)),nt⟩
    (hold (bT P fn.results.toList (hold (fun _ H'=>sX σ.H.next R σ.nt ps.toList A B (hold (fun e H2=>Q e ({σ with H:=H2}:AS)) ⟨⟩) H') ⟨⟩)) ⟨⟩)):AW P (.rangeFunc g ps assign body) σ Q:=by
 subst cL ha;exact br4 hg hf hb eW hlen h
theorem FM{id:Nat}{env:List (Nat×Bool×AV)}{nt:Nat}{ps:List Tmp}{A B:Code}{Q:Exit->Heap->Prop}{H:Heap}(hg:H.get id=some (.cJ env nt ps A B .ready none))(h:Q .normal (iU H id none)):sX id env nt ps A B Q H:=⟨_,_,_,_,_,_,_,hg,by simp,h⟩
theorem Wi{id:Nat}{env:List (Nat×Bool×AV)}{nt:Nat}{ps:List Tmp}{A B:Code}{Q:Exit->Heap->Prop}{H:Heap}(hg:H.get id=some (.cJ env nt ps A B .done (some .ret)))(h:Q .ret (iU H id none)):sX id env nt ps A B Q H:=⟨_,_,_,_,_,_,_,hg,by simp,h⟩
theorem Wj{id:Nat}{env:List (Nat×Bool×AV)}{nt:Nat}{ps:List Tmp}{A B:Code}{Q:Exit->Heap->Prop}{H:Heap}{i:Nat}(hg:H.get id=some (.cJ env nt ps A B .done (some (.exit i))))(h:Q (.exit i) (iU H id none)):sX id env nt ps A B Q H:=⟨_,_,_,_,_,_,_,hg,by simp,h⟩
end
attribute [go_sem] iU CJ
end Go.AL
namespace Go.AL
open Go.RowKit
theorem bE.below{E:Env}{W W':World}{G:Nat->Option aI}(hG:RC E W G)(hb:Below W.heap.size W W'):bE E W E W'/\RC E W' G:=by
 have bG:∀b k,k<E.L b->b<W.heap.size:=fun b k hk=>by
  rcases qY b W.heap.size with h|h
  ·exact h
  ·have:=hG.lim b h;omega
 have hv:bE E W E W':=
  ⟨hb.os,hb.tape,hb.output,hb.size,fun _ h=>h,fun _ _=>⟨rfl,rfl⟩,fun b=>cA _,fun b k hk=>hb.cell (p:=⟨b,k,none⟩) (bG b k hk),fun b cE _=>hb.block b cE,fun b cur e f hc=>⟨cur,f,by rw[hb.block b (k7.1 hc).1];exact hc,rfl⟩,fun b cE _=>rfl,fun id h h'=>absurd h' h,fun b r h=>⟨r,by rw[hb.block b (k7.1 h).1];exact h,rfl⟩⟩
 refine⟨hv,fun b cE=>hG.lim b (tA hb.size cE),fun id hU=>tX (hG.eJ id hU) hb.size,fun id b hg=> ?_⟩
 obtain⟨hU,eC⟩:=hG.ok id b hg;exact⟨hU,eC.mono hv hU (hb.block _ (hG.eJ id hU)) rfl fun aL b' _ dR RO=>⟨b',dR,RO,rfl,fun h=>h⟩⟩
end Go.AL
namespace Go.AL
section
variable {P : Program} {σ : AS} {rs : List ResultVar} {a : AV} {id : Nat} {env : List (Nat × Bool × AV)} {nt : Nat} {ps : List Tmp} {A B : Code} {Q : Exit -> AS -> Prop} {σ0 : AS}
theorem bt2(ho:iL P σ rs=some a)(hg:σ.H.get id=some (.cJ env nt ps A B .ready none))(h:Q .normal ({σ0 with H:=iU σ.H id none}:AS)):
  bT P rs (hold (fun _ H'=>sX id env nt ps A B (hold (fun e H2=>Q e ({σ0 with H:=H2}:AS)) ⟨⟩) H') ⟨⟩) .normal σ:=by
 show nB (iL P σ rs) _
 rw[ho];exact FM hg h
theorem bt3(ho:iL P σ rs=some a)(hg:σ.H.get id=some (.cJ env nt ps A B .ready none))(h:Q .normal ({σ0 with H:=iU σ.H id none}:AS)):
  bT P rs (hold (fun _ H'=>sX id env nt ps A B (hold (fun e H2=>Q e ({σ0 with H:=H2}:AS)) ⟨⟩) H') ⟨⟩) .ret σ:=by
 show nB (iL P σ rs) _
 rw[ho];exact FM hg h
theorem bt4(ho:iL P σ rs=some a)(hg:σ.H.get id=some (.cJ env nt ps A B .done (some .ret)))(h:Q .ret ({σ0 with H:=iU σ.H id none}:AS)):
  bT P rs (hold (fun _ H'=>sX id env nt ps A B (hold (fun e H2=>Q e ({σ0 with H:=H2}:AS)) ⟨⟩) H') ⟨⟩) .normal σ:=by
 show nB (iL P σ rs) _
 rw[ho];exact Wi hg h
theorem bt5(ho:iL P σ rs=some a)(hg:σ.H.get id=some (.cJ env nt ps A B .done (some .ret)))(h:Q .ret ({σ0 with H:=iU σ.H id none}:AS)):
  bT P rs (hold (fun _ H'=>sX id env nt ps A B (hold (fun e H2=>Q e ({σ0 with H:=H2}:AS)) ⟨⟩) H') ⟨⟩) .ret σ:=by
 show nB (iL P σ rs) _
 rw[ho];exact Wi hg h
theorem bt6{i:Nat}(ho:iL P σ rs=some a)(hg:σ.H.get id=some (.cJ env nt ps A B .done (some (.exit i))))(h:Q (.exit i) ({σ0 with H:=iU σ.H id none}:AS)):
  bT P rs (hold (fun _ H'=>sX id env nt ps A B (hold (fun e H2=>Q e ({σ0 with H:=H2}:AS)) ⟨⟩) H') ⟨⟩) .normal σ:=by
 show nB (iL P σ rs) _
 rw[ho];exact Wj hg h
theorem bt7{i:Nat}(ho:iL P σ rs=some a)(hg:σ.H.get id=some (.cJ env nt ps A B .done (some (.exit i))))(h:Q (.exit i) ({σ0 with H:=iU σ.H id none}:AS)):
  bT P rs (hold (fun _ H'=>sX id env nt ps A B (hold (fun e H2=>Q e ({σ0 with H:=H2}:AS)) ⟨⟩) H') ⟨⟩) .ret σ:=by
 show nB (iL P σ rs) _
 rw[ho];exact Wj hg h
end
end Go.AL
namespace Go.AL
open Go.RowKit Go.WideShapes Go.ChangeShapes
inductive Sh where
 |int (k:IntKind)
 |bool
 |str
 |sl (row:List Sh)
inductive s5:Sh->AV->Prop
 |int (k:IntKind) (n:Int) (h:(Lit.int k n).wf=true):s5 (.int k) (.c (.int k n))
 |bool (b:Bool):s5 .bool (.c (.bool b))
 |str (s:ByteArray) (h:s.size<=maxLen):s5 .str (.c (.string s))
 |sl (row:List Sh) (rows:List (List AV)) (h1:rows.length<=maxLen) (h2:∀r∈rows,r.length=row.length) (h:∀r∈rows,∀(i:Nat) sh a,row[i]? =some sh->r[i]? =some a->s5 sh a):s5 (.sl row) (.snap rows)
def lT(row:List Sh)(r:List AV):Prop:=r.length=row.length/\∀(i:Nat) sh a,row[i]? =some sh->r[i]? =some a->s5 sh a
theorem s5.Wl{row:List Sh}{rows:List (List AV)}(h1:rows.length<=maxLen)(h:∀r∈rows,lT row r):s5 (.sl row) (.snap rows):= .sl row rows h1 (fun r hr=>(h r hr).1) fun r hr=>(h r hr).2
theorem lT.nil:lT [] []:=⟨rfl,fun i sh a h=>by simp at h⟩
theorem lT.cons{s:Sh}{a:AV}{row:List Sh}{r:List AV}(h:s5 s a)(hr:lT row r):lT (s::row) (a::r):=by
 refine⟨by simp[hr.1],fun i sh x h1 h2=> ?_⟩
 cases i with
 |zero=>simp at h1 h2;subst h1;subst h2;exact h
 |succ i=>exact hr.2 i sh x (by simpa using h1) (by simpa using h2)
theorem lT.append{x y:List Sh}{r s:List AV}(h:lT x r)(k:lT y s):lT (x++y) (r++s):=by
 refine⟨by simp[h.1,k.1],fun i sh a h1 h2=> ?_⟩
 by_cases hi:i<x.length
 ·rw[rM hi]at h1
  rw[rM (by rw[h.1];exact hi)]at h2
  exact h.2 i sh a h1 h2
 ·rw[nI oM]at h1
  rw[nI (by rw[h.1];omega),h.1]at h2
  exact k.2 _ sh a h1 h2
theorem lT.DT{s:Sh}{row:List Sh}{r:List AV}(h:lT (s::row) r):∃a r',r=a::r'/\s5 s a/\lT row r':=by
 cases r with
 |nil=>have:=h.1;simp at this
 |cons a r'=>exact⟨a,r',rfl,h.2 0 s a rfl rfl,by have:=h.1;simpa using this,fun i sh x h1 h2=>h.2 (i+1) sh x (by simpa using h1) (by simpa using h2)⟩
theorem lT.Bt{r:List AV}(h:lT [] r):r=[]:=eL h.1
theorem s5.bt8{row:List Sh}{a:AV}(h:s5 (.sl row) a):∃rows,a= .snap rows/\rows.length<=maxLen/\∀r∈rows,lT row r:=by
 cases h with
 |sl _ rows h1 h2 h=>exact⟨rows,rfl,h1,fun r hr=>⟨h2 r hr,h r hr⟩⟩
theorem s5.Qd{k:IntKind}{a:AV}(h:s5 (.int k) a):∃n,a= .c (.int k n)/\(Lit.int k n).wf=true:=by
 cases h with
 |int _ n h=>exact⟨n,rfl,h⟩
def NC(P:Program)(g:TypeId->Option (List Sh)):Nat->List Field->Option (List Sh)
 |_,[]=>some []
 |o,f::r=>if f.offset=o then
    (match g f.type with
    |some x=>if x.length=P.cellsOf f.type then(NC P g (o+x.length) r).map (x++ ·)else none
    |none=>none)else none
def y3(P:Program):Nat->TypeId->Option (List Sh)
 |0,_=>none
 |f+1,t=>match P.underlying t with
  |some .bool=>some [.bool]
  |some (.int k)=>some [.int k]
  |some .string=>some [.str]
  |some (.slice e)=>(match y3 P f e with
   |some r=>if r.length=P.cellsOf e/\0<r.length then some [.sl r]else none
   |none=>none)
  |some (.struct fs)=>(match NC P (y3 P f) 0 fs.toList with
   |some r=>if r.length=P.cellsOf t then some r else none
   |none=>none)
  |some (.array n e)=>(match y3 P f e with
   |some r=>if r.length=P.cellsOf e/\P.cellsOf t=n*r.length then some (List.replicate n r).flatten else none
   |none=>none)
  |_=>none
theorem Wm{α:Type}{Q:Nat->α->Prop}:∀n,(∀i,i<n->∃x,Q i x)->∃l:List α,l.length=n/\∀(i:Nat) x,l[i]? =some x->Q i x
 |0,_=>⟨[],rfl,fun i x h=>by simp at h⟩
 |n+1,h=>by
  obtain⟨l,h1,h2⟩:=Wm n fun i hi=>h i oM
  obtain⟨x,hx⟩:=h n oM
  refine⟨l++[x],by simp[h1],fun i y hy=> ?_⟩
  by_cases hi:i<n
  ·rw[rM oM]at hy;exact h2 i y hy
  ·rw[nI oM]at hy
   have:i=n:=by have:=(fT.1 hy).1;simp at this;omega
   subst this;rw[h1]at hy;simp at hy;subst hy;exact hx
section
variable {P : Program} {H : Type} {enc : TypeId × Value -> H} {W : World} {base : Nat} {spare : Nat -> Bool} {held : Bool}
theorem bt9{b k:Nat}{v:Value}(h:W.cell? ⟨b,k,none⟩=some v):k<uY W b:=by
 unfold World.cell? at h;unfold uY;split at h
 ·rename_i c e f hb
  rw[hb];simp only[Zv,if_false]at h;exact(k7.1 h).1
 ·cases h
theorem bu0{b k:Nat}{s:Option Nat}{v:Value}(h:W.cell? ⟨b,k,s⟩=some v):s=none:=by
 unfold World.cell? at h;split at h
 ·split at h
  ·cases h
  ·rename_i hs;simpa using hs
 ·cases h
theorem Wn{f:Nat}(ih:∀(fuel:Nat) t cs x row,y3 P f t=some row->DataW.trod enc P W base spare held fuel t cs=some x->∃as,lT row as/\bP (eZ (uY W)) W as cs){cs:List Value}:
  ∀(fs:List Field) (o:Nat) (row:List Sh),NC P (y3 P f) o fs=some row->(∀g∈fs,∃fuel y,DataW.trod enc P W base spare held fuel g.type ((cs.drop g.offset).take (P.cellsOf g.type))=some y)->
   ∃as,lT row as/\bP (eZ (uY W)) W as ((cs.drop o).take row.length)
 |[],o,row,h,_=>by
  simp only[NC,bM]at h;subst h;exact⟨[],.nil,by simpa using bP.nil⟩
 |g::r,o,row,h,hg=>by
  simp only[NC]at h;split at h
  ·rename_i ho
   split at h
   ·rename_i x hx
    split at h
    ·rename_i hl
     cases hr:NC P (y3 P f) (o+x.length) r with
     |none=>rw[hr]at h;cases h
     |some y=>
      rw[hr]at h;injection h with h
      subst h;obtain⟨fuel,z,hz⟩:=hg g (by simp)
      obtain⟨as,h1,h2⟩:=ih _ _ _ _ _ hx hz;obtain⟨bs,h3,h4⟩:=Wn ih r (o+x.length) y hr fun g' dR=>hg g' (by simp[dR])
      refine⟨as++bs,h1.append h3,?_⟩;have h5:=h2.append h4;rw[ho,<-hl]at h5
      have h6:(cs.drop o).take (x++y).length=(cs.drop o).take x.length++(cs.drop (o+x.length)).take y.length:=by
       rw[cU,List.take_add,Iu]
      rw[h6];exact h5
    ·cases h
   ·cases h
  ·cases h
theorem Wo{f:Nat}{e:TypeId}{row:List Sh}(cS:y3 P f e=some row)(hl:row.length=P.cellsOf e)(ih:∀(fuel:Nat) t cs x row,y3 P f t=some row->DataW.trod enc P W base spare held fuel t cs=some x->∃as,lT row as/\bP (eZ (uY W)) W as cs){cs:List Value}{m:Nat}:
  ∀n,(∀i,i<n->∃y,DataW.trod enc P W base spare held m e ((cs.drop (i*P.cellsOf e)).take (P.cellsOf e))=some y)->
   ∃as,lT (List.replicate n row).flatten as/\bP (eZ (uY W)) W as (cs.take (n*row.length))
 |0,_=>⟨[],.nil,by simpa using bP.nil⟩
 |n+1,h=>by
  obtain⟨as,h1,h2⟩:=Wo cS hl ih n fun i hi=>h i oM
  obtain⟨y,hy⟩:=h n oM
  obtain⟨bs,h3,h4⟩:=ih _ _ _ _ _ cS hy;refine⟨as++bs,?_,?_⟩
  ·rw[List.replicate_succ',List.flatten_append,List.flatten_singleton]
   exact h1.append h3
  ·have h5:=h2.append h4
   rw[<-hl]at h5;rw[BC,List.take_add];exact h5
theorem Wp:∀(f:Nat) (fuel:Nat) (t:TypeId) (cs:List Value) (x:DataW H×List MemPlace) (row:List Sh),y3 P f t=some row->DataW.trod enc P W base spare held fuel t cs=some x->∃as,lT row as/\bP (eZ (uY W)) W as cs
 |0,_,_,_,_,_,h,_=>by cases h
 |f+1,fuel,t,cs,x,row,h,ht=>by
  have ih:∀(fuel:Nat) t cs x row,y3 P f t=some row->DataW.trod enc P W base spare held fuel t cs=some x->∃as,lT row as/\bP (eZ (uY W)) W as cs:=Wp f;simp only[y3]at h;split at h
  ·rename_i hu
   injection h with h;subst h
   obtain⟨b,rfl,_⟩:=DataW.trod_bool hu ht;exact⟨[.c (.bool b)],.cons (.bool b) .nil,.cons (.c _ rfl) .nil⟩
  ·rename_i k hu
   injection h with h;subst h
   obtain⟨n,rfl,_,hw⟩:=DataW.trod_int hu ht;exact⟨[.c (.int k n)],.cons (.int k n hw) .nil,.cons (.c _ rfl) .nil⟩
  ·rename_i hu
   injection h with h;subst h
   obtain⟨s,rfl,_,hw⟩:=DataW.trod_string hu ht;exact⟨[.c (.string s)],.cons (.str s hw) .nil,.cons (.c _ rfl) .nil⟩
  ·rename_i e hu
   split at h
   ·rename_i r hr
    split at h
    ·rename_i hl
     injection h with h;subst h
     rcases DataW.trod_slice hu ht with⟨rfl,_⟩|⟨a,len,cap,elems,rest,n,rfl,rfl,_,hb,eI,BM,hel,dQ,_⟩
     ·exact⟨[.snap []],.cons (.Wl (by simp) fun r hr=>by cases hr) .nil,.cons (.kP none 0) .nil⟩
     ·obtain⟨AG,dG⟩:=hl
      have cS:∀i,i<len->∃as,lT r as/\∃SA,W.cells? base (a.add (i*P.cellsOf e)) (P.cellsOf e)=some SA/\bP (eZ (uY W)) W as SA:=fun i hi=>by
       have h1:=dQ i hi;rw[gY oM]at h1
       cases hc:W.cells? base (a.add (i*P.cellsOf e)) (P.cellsOf e)with
       |none=>rw[hc]at h1;cases h1
       |some SA=>
        rw[hc]at h1;obtain⟨as,h2,h3⟩:=ih _ _ _ _ _ hr h1;exact⟨as,h2,SA,rfl,h3⟩
      obtain⟨rows,rU,fA⟩:=Wm len cS
      have hcf:s5 (.sl r) (.snap rows):= .Wl oM fun q hq=>by
       obtain⟨i,hi⟩:=Zr hq;exact(fA i q hi).1
      refine⟨[.snap rows],.cons hcf .nil,.cons ?_ .nil⟩;by_cases h0:len=0
      ·have:rows=[]:=eL oM
       subst this;subst h0;exact .kP _ _
      ·obtain⟨JR,off,spot⟩:=a
       have I1:∀(i j:Nat) q y,rows[i]? =some q->q[j]? =some y->∃v,W.cell? ((⟨JR,off,spot⟩:Addr).add (i*P.cellsOf e)|>.add j)=some v/\RV (eZ (uY W)) W y v:=fun i j q y hq hy=>by
        obtain⟨_,SA,h1,h2⟩:=fA i q hq;obtain⟨v,h3,h4⟩:=h2.get hy;refine⟨v,?_,h4⟩;unfold World.cells? at h1;split at h1
        ·have hj:j<P.cellsOf e:=by
          have:=mapM_some_length h1;have h5:=(fT.1 h3).1;simp at this;omega
         have h6:=mapM_some_get h1 j j (by simp[hj])
         rw[h6];exact h3
        ·cases h1
       have hlen:∀(i:Nat) q,rows[i]? =some q->q.length=P.cellsOf e:=fun i q hq=>by rw[(fA i q hq).1.1];exact AG
       obtain⟨q0,DO⟩:∃q,rows[0]? =some q:=⟨rows[0]' oM,gY _⟩
       obtain⟨y0,hy0⟩:∃y,q0[0]? =some y:=⟨q0[0]'(by rw[hlen 0 q0 DO];omega),gY _⟩
       have bu3:spot=none:=by
        obtain⟨v,h1,_⟩:=I1 0 0 q0 y0 DO hy0;rw[zR]at h1;exact bu0 (b:=JR) (k:=off) h1
       subst bu3
       have DS:∀i j,((⟨JR,off,none⟩:Addr).add (i*P.cellsOf e)|>.add j)=⟨JR,off+(i*P.cellsOf e+j),none⟩:=fun i j=>by
        unfold Addr.add;split<;>split<;>simp_all [TC]
       refine .snap rows JR off (P.cellsOf e) len cap (fun i j=>(W.cell? ⟨JR,off+(i*P.cellsOf e+j),none⟩).getD default) rU.symm eI (fun i q hq=>hlen i q hq) ?_ ?_ ?_
       ·obtain⟨ql,Wq⟩:∃q,rows[len-1]? =some q:=⟨rows[len-1]' oM,gY _⟩
        obtain⟨yl,Dw⟩:∃y,ql[P.cellsOf e-1]? =some y:=⟨ql[P.cellsOf e-1]'(by rw[hlen _ ql Wq];omega),gY _⟩
        obtain⟨v,h1,_⟩:=I1 _ _ ql yl Wq Dw;rw[DS]at h1;have h2:=bt9 h1
        show off+rows.length*P.cellsOf e<=uY W JR
        have h3:rows.length*P.cellsOf e=(len-1)*P.cellsOf e+P.cellsOf e:=by
         rw[rU,<-BC];congr 1;omega
        omega
       ·intro i j q y hq hy
        obtain⟨v,h1,_⟩:=I1 i j q y hq hy;rw[DS]at h1;rw[h1];rfl
       ·intro i j q y hq hy
        obtain⟨v,h1,h2⟩:=I1 i j q y hq hy;rw[DS]at h1;simp only[h1,yH];exact h2
    ·cases h
   ·cases h
  ·rename_i fs hu
   split at h
   ·rename_i r hr
    split at h
    ·rename_i hl
     injection h with h;subst h
     obtain⟨xs,n,rfl,_,gZ,pY,dQ⟩:=DataW.trod_struct hu ht
     obtain⟨as,h1,h2⟩:=Wn ih (cs:=cs) fs.toList 0 r hr fun g hg=>by
      obtain⟨i,hi⟩:=Zr hg;have h3:=dQ i g (by simpa using hi)
      have bG:i<xs.length:=by
       have:=(fT.1 hi).1;simp at this;omega
      exact⟨n,xs[i],by rw[h3];exact gY bG⟩
     refine⟨as,h1,?_⟩;rw[sZ,cN oM]at h2
     exact h2
    ·cases h
   ·cases h
  ·rename_i n e hu
   split at h
   ·rename_i r hr
    split at h
    ·rename_i hl
     injection h with h;subst h
     obtain⟨xs,m,rfl,_,gZ,pY,dQ⟩:=DataW.trod_array hu ht
     obtain⟨as,h1,h2⟩:=Wo hr hl.1 ih (cs:=cs) (m:=m) n fun i hi=>by
      exact⟨xs[i]' oM,by rw[dQ i hi];exact gY _⟩
     refine⟨as,h1,?_⟩;rw[cN oM]at h2
     exact h2
    ·cases h
   ·cases h
  ·cases h
theorem bu4{r:Go.Reach}{b0:Nat}{t:TypeId}{v:Value}{d:DataW H}{p:List MemPlace}{row:List Sh}(f:Nat)(hs:y3 P f t=some row)(hu:(∃fs,P.underlying t=some (.struct fs))\/∃n e,P.underlying t=some (.array n e))
  (hv:Value.okWide P W r b0 t v) (h:DataW.Trod enc P W base spare held t v d p):∃as,lT row as/\RV (eZ (uY W)) W (.agg as) v:=by
 obtain⟨fuel,h⟩:=h;obtain⟨as,h1,h2⟩:=Wp _ _ _ _ _ _ hs h
 obtain⟨cs,rfl⟩:∃cs,v= .agg cs:=by
  unfold Value.okWide at hv;rcases hu with⟨fs,hu⟩|⟨n,e,hu⟩
  ·rw[hu]at hv;obtain⟨cs,h,_⟩:=hv;exact⟨cs,h⟩
  ·rw[hu]at hv;obtain⟨cs,h,_⟩:=hv;exact⟨cs,h⟩
 refine⟨as,h1,?_⟩;exact .agg as cs (by have:=h2.1;simpa[Value.cells]using this) fun i x v hx hv=>h2.2 i x v hx (by simpa[Value.cells]using hv)
end
theorem Wr{α:Type}{f:α->List AV}{p:α->Prop}{row:List Sh}(cS:∀r,lT row r->∃x,p x/\r=f x):∀(rows:List (List AV)),(∀r∈rows,lT row r)->∃l:List α,(∀x∈l,p x)/\rows=l.map f
 |[],_=>⟨[],(fun x h=>by cases h),rfl⟩
 |r::rs,h=>by
  obtain⟨x,hp,rfl⟩:=cS r (h r (by simp))
  obtain⟨l,h1,rfl⟩:=Wr cS rs fun r hr=>h r (by simp[hr])
  exact⟨x::l,(fun y hy=>by rcases dJ.1 hy with rfl|hy;exact hp;exact h1 y hy),rfl⟩
theorem Qe{α:Type}{f:α->List AV}{p:α->Prop}{row:List Sh}(cS:∀r,lT row r->∃x,p x/\r=f x){a:AV}(h:s5 (.sl row) a):∃l:List α,(∀x∈l,p x)/\l.length<=maxLen/\a= .snap (l.map f):=by
 obtain⟨rows,rfl,h1,h2⟩:=h.bt8;obtain⟨l,h3,rfl⟩:=Wr cS rows h2;exact⟨l,h3,by simpa using h1,rfl⟩
end Go.AL
