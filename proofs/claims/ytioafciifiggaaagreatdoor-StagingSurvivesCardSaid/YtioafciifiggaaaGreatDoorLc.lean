/- Staging. No condition. -/
import Derived.Test.YtioafciifiggaaaGreatDoorL0
import Derived.Test.YtioafciifiggaaaGreatDoorLd
import Derived.LoopNIn
import Derived.IntWalk
import Derived.DataReads
import Derived.WideShapes
import Derived.ProofKit
import Derived.OpenShut
import Derived.ChangeArms
set_option linter.all false
namespace Go.AL
open Go.RowKit
def XS(P:Program)(c:Code)(Q:Exit->AS->Prop):Nat->AS->Prop
 |0,_=>False
 |n+1,σ=>AW P c σ (dR (XS P c Q n) Q)
theorem ax0{F:Fence}{m:Nat}{P:Program}{c:Code}{Q Q':Exit->Act->World->Prop}(hq:∀e a w,Q e a w->Q' e a w):∀(n:Nat) {a:Act} {w:World},Code.roundsIn F m P c Q n a w->Code.roundsIn F m P c Q' n a w
 |0,_,_,h=>h.elim
 |n+1,a,w,h=>by
  rw[roundsIn_succ]at h⊢;refine wpIn_mono h fun e a' w' he=> ?_
  cases e with
  |normal=>exact ax0 hq n he
  |_=>exact hq _ _ _ he
theorem ax1{P:Program}{c:Code}{Q:Exit->AS->Prop}{ro:Option Nat}:∀(n:Nat) {σ:AS},XS P c Q n σ->∀{E:Env} {W:World} {act:Act},R9 ro W->Rel E W σ act->Code.roundsIn (kK ro) 3 P c (fun e cF W'=>∃E' aK,eE E W act E' W' cF/\Rel E' W' aK cF/\aK.nt=σ.nt/\Q e aK) n act W
 |0,σ,h,_,_,_,_,_=>h.elim
 |n+1,σ,h,E,W,act,eN,hr=>by
  rw[roundsIn_succ];refine wpIn_mono (h ro E W act eN hr) fun e a w ⟨E',aK,h1,h2,h3,h4⟩=> ?_
  cases e with
  |normal=>
   have:=ax1 n h4 (eN.mono h1.pS) h2;refine ax0 ?_ n this;exact fun e' a' w' ⟨v7,eA,h5,h6,h7,h8⟩=>⟨v7,eA,h1.trans h5,h6,h7.trans h3,h8⟩
  |_=>exact⟨E',aK,h1,h2,h3,h4⟩
theorem kC{P:Program}{c:Code}{σ:AS}{Q:Exit->AS->Prop}(n:Nat)(h:XS P c Q n σ):AW P (.loop c) σ Q:=fun ro E W act eN hr=>wpIn_loop_rounds n (ax1 n h eN hr)
theorem kM{P:Program}{c:Code}{σ:AS}{Q:Exit->AS->Prop}{n:Nat}(h:AW P c σ (dR (XS P c Q n) Q)):XS P c Q (n+1) σ:=h
theorem bX8{P:Program}{σ:AS}{Q:Exit->AS->Prop}{c:Operand}{x y:Code}(hc:kU (σ.get true c)=some true)(h:AW P x σ Q):AW P (.cond c x y) σ Q:=Pw (CI hc) (fun _=>h) (fun h=>by cases h)
theorem bX9{P:Program}{σ:AS}{Q:Exit->AS->Prop}{c:Operand}{x y:Code}(hc:kU (σ.get true c)=some false)(h:AW P y σ Q):AW P (.cond c x y) σ Q:=Pw (CI hc) (fun h=>by cases h) (fun _=>h)
end Go.AL
namespace Go.AL
open Go.RowKit
inductive Wk:AV->AV->Prop
 |refl (a:AV):Wk a a
 |nil {a:Option Addr} {cap:Nat}:Wk (.c (.slice a 0 cap)) (.snap [])
 |agg (xs ys:List AV) (hl:xs.length=ys.length) (h:∀(i:Nat) x y,xs[i]? =some x->ys[i]? =some y->Wk x y):Wk (.agg xs) (.agg ys)
 |aU (xs ys:List AV) (hl:xs.length=ys.length) (h:∀(i:Nat) x y,xs[i]? =some x->ys[i]? =some y->Wk x y):Wk (.aU xs) (.aU ys)
 |dD (rows fH:List (List AV)) (i o:Nat) (hl:rows.length=fH.length) (cW:∀(k:Nat) a b,rows[k]? =some a->fH[k]? =some b->a.length=b.length)
   (h:∀(k j:Nat) a b x y,rows[k]? =some a->fH[k]? =some b->a[j]? =some x->b[j]? =some y->Wk x y):Wk (.dD rows i o) (.dD fH i o)
 |snap (rows fH:List (List AV)) (hl:rows.length=fH.length) (cW:∀(k:Nat) a b,rows[k]? =some a->fH[k]? =some b->a.length=b.length)
   (h:∀(k j:Nat) a b x y,rows[k]? =some a->fH[k]? =some b->a[j]? =some x->b[j]? =some y->Wk x y):Wk (.snap rows) (.snap fH)
def C9(xs ys:List AV):Prop:=xs.length=ys.length/\∀(i:Nat) x y,xs[i]? =some x->ys[i]? =some y->Wk x y
theorem sD:C9 [] []:=⟨rfl,fun i x y h=>by simp at h⟩
theorem TZ(xs:List AV):C9 xs xs:=⟨rfl,fun i x y h h'=>by rw[h]at h';injection h' with h';subst h';exact .refl x⟩
theorem jH{x y:AV}{xs ys:List AV}(h:Wk x y)(hs:C9 xs ys):C9 (x::xs) (y::ys):=by
 refine⟨by simp[hs.1],fun i a b h1 h2=> ?_⟩
 cases i with
 |zero=>simp at h1 h2;subst h1 h2;exact h
 |succ i=>exact hs.2 i a b (by simpa using h1) (by simpa using h2)
theorem BJ{xs ys:List AV}(h:C9 xs ys):Wk (.agg xs) (.agg ys):= .agg xs ys h.1 h.2
theorem KL{xs ys:List AV}(h:C9 xs ys):Wk (.aU xs) (.aU ys):= .aU xs ys h.1 h.2
theorem RV.wk{E:Env}{W:World}{a b:AV}(h:Wk a b):∀{v:Value},RV E W a v->RV E W b v:=by
 induction h with
 |refl a=>exact fun r=>r
 |nil=>intro v r;cases r;exact .lV _ _
 |agg xs ys hl h ih=>
  intro v r;cases r with
  |agg _ vs u4 hr=>
  refine .agg ys vs (hl▸u4) fun i y v hy hv=> ?_
  obtain⟨x,hx⟩:∃x,xs[i]? =some x:=⟨xs[i]'(by have:=(dV.1 hy).1;omega),by simp⟩
  exact ih i x y hx hy (hr i x v hx hv)
 |aU xs ys hl h ih=>
  intro v r;cases r with
  |aU _ vs u4 hr=>
  refine .aU ys vs (hl▸u4) fun i y v hy hv=> ?_
  obtain⟨x,hx⟩:∃x,xs[i]? =some x:=⟨xs[i]'(by have:=(dV.1 hy).1;omega),by simp⟩
  exact ih i x y hx hy (hr i x v hx hv)
 |dD rows fH i o hl cW h ih=>
  intro v r;cases r with
  |dD _ _ _ b off s vs hs hL hc hr=>
  have get:∀(k:Nat) fP,fH[k]? =some fP->∃row,rows[k]? =some row/\row.length=fP.length:=fun k fP h2=>by
   have hk:k<rows.length:=by have:=(dV.1 h2).1;omega
   exact⟨rows[k],eQ hk,cW k _ _ (eQ hk) h2⟩
  have XT:∀(k j:Nat) fP y,fH[k]? =some fP->fP[j]? =some y->∃row x,rows[k]? =some row/\row[j]? =some x:=fun k j fP y h2 h3=>by
   obtain⟨row,h4,h5⟩:=get k fP h2;have hj:j<row.length:=by have:=(dV.1 h3).1;omega
   exact⟨row,row[j],h4,eQ hj⟩
  refine .dD fH i o b off s vs (fun k fP h2=> ?_) (hl▸hL) (fun k j fP y h2 h3=> ?_) (fun k j fP y h2 h3=> ?_)
  ·obtain⟨row,h4,h5⟩:=get k fP h2
   rw[<-h5];exact hs k row h4
  ·obtain⟨row,x,h4,h5⟩:=XT k j fP y h2 h3
   exact hc k j row x h4 h5
  ·obtain⟨row,x,h4,h5⟩:=XT k j fP y h2 h3
   exact ih k j row fP x y h4 h2 h5 h3 (hr k j row x h4 h5)
 |snap rows fH hl cW h ih=>
  intro v r
  have get:∀(k:Nat) fP,fH[k]? =some fP->∃row,rows[k]? =some row/\row.length=fP.length:=fun k fP h2=>by
   have hk:k<rows.length:=by have:=(dV.1 h2).1;omega
   exact⟨rows[k],eQ hk,cW k _ _ (eQ hk) h2⟩
  have XT:∀(k j:Nat) fP y,fH[k]? =some fP->fP[j]? =some y->∃row x,rows[k]? =some row/\row[j]? =some x:=fun k j fP y h2 h3=>by
   obtain⟨row,h4,h5⟩:=get k fP h2;have hj:j<row.length:=by have:=(dV.1 h3).1;omega
   exact⟨row,row[j],h4,eQ hj⟩
  cases r with
  |lV a cap=>
   have:fH=[]:=Tg.1 hl.symm;subst this;exact .lV _ _
  |snap _ b off s n cap vs hn qK hs hL hc hr=>
  refine .snap fH b off s n cap vs (hl▸hn) qK (fun k fP h2=> ?_) (hl▸hL) (fun k j fP y h2 h3=> ?_) (fun k j fP y h2 h3=> ?_)
  ·obtain⟨row,h4,h5⟩:=get k fP h2
   rw[<-h5];exact hs k row h4
  ·obtain⟨row,x,h4,h5⟩:=XT k j fP y h2 h3
   exact hc k j row x h4 h5
  ·obtain⟨row,x,h4,h5⟩:=XT k j fP y h2 h3
   exact ih k j row fP x y h4 h2 h5 h3 (hr k j row x h4 h5)
def xJ(xs ys:List (List AV)):Prop:=xs.length=ys.length/\∀(k:Nat) a b,xs[k]? =some a->ys[k]? =some b->C9 a b
theorem CY:xJ [] []:=⟨rfl,fun i x y h=>by simp at h⟩
theorem yN{x y:List AV}{xs ys:List (List AV)}(h:C9 x y)(hs:xJ xs ys):xJ (x::xs) (y::ys):=by
 refine⟨by simp[hs.1],fun i a b h1 h2=> ?_⟩
 cases i with
 |zero=>simp at h1 h2;subst h1 h2;exact h
 |succ i=>exact hs.2 i a b (by simpa using h1) (by simpa using h2)
theorem IC{xs ys:List (List AV)}(h:xJ xs ys):Wk (.snap xs) (.snap ys):=
 .snap xs ys h.1 (fun k a b h1 h2=>(h.2 k a b h1 h2).1) (fun k j a b x y h1 h2 h3 h4=>(h.2 k a b h1 h2).2 j x y h3 h4)
theorem eU.wk{P:Program}{n:FuncId}{args:List AV}{b:AV}(h:eU P n args (Wk · b))(hn:bK b):eU P n args (·=b):=
 ⟨h.1,fun L W vs hL hr=>(h.2 L W vs hL hr).mono fun e W' ⟨v,he,r,L',h1,h2,h3,h4,h5,h6⟩=>⟨v,he,b,L',h1,h2,h3,h4.wk h6,hn,rfl⟩⟩
theorem Ue{a b:Int}(h:a<b):decide (a<b)=true:=by simp[h]
theorem ZC{a b:Int}(h:¬a<b):decide (a<b)=false:=by simp[h]
theorem xG{a b:Int}(h:a<=b):decide (a<=b)=true:=by simp[h]
theorem CT{a b:Int}(h:¬a<=b):decide (a<=b)=false:=by simp[h]
theorem aJ1{a b:Int}(h:a≠b):(a !=b)=true:=by simp[h]
theorem aJ2{a b:Int}(h:a=b):(a !=b)=false:=by simp[h]
theorem aI9{a b:Int}(h:a=b):(a==b)=true:=by simp[h]
theorem aJ0{a b:Int}(h:a≠b):(a==b)=false:=by simp[h]
end Go.AL
namespace Go.AL
open Go.RowKit
def Eo:Op->Bool
 | .call ⟨.value _,_,_⟩=>false
 | .pick _ _ _=>false
 |_=>true
section
variable {P : Program} {σ : AS}
theorem bY0{o:Oper}{K:AS->Prop}(aO:Eo o.op=true){a:AV}{wr:List (Nat×Option aI)}{rd:List Nat}(mP:res P (σ.get true) σ.H.get σ.H.next o=some (a,wr,rd))
  (hk:K (({σ with H:=σ.H.app wr}:AS).put o.dst true a)):rG P o σ K:=by
 unfold rG;split
 ·rename_i f as ts h;rw[h]at aO;cases aO
 ·rename_i b x y h;rw[h]at aO;cases aO
 ·rename_i x h;rw[av4 h]at mP;cases mP
 ·rw[mP,yD];exact hk
theorem bY1{ops:Array Oper}{o:Oper}{rest:List Oper}{K:AS->Prop}{p:AS×List Oper}{j:Nat}{want:Bool}{a:AV}{wr:List (Nat×Option aI)}{rd:List Nat}(aO:Eo o.op=true)(hg:o.guard=some (j,want))
  (hw:qL (pT ops.toList j σ.env) want=some true) (mP:res P (σ.get true) σ.H.get σ.H.next o=some (a,wr,rd)) (hr:run P ops.toList rest (({σ with H:=σ.H.app wr}:AS).put o.dst true a)=p) (h:b9 P true ops p.2 p.1 K):b9 P true ops (o::rest) σ K:=by
 show oR P true ops o σ _
 unfold oR;simp only[hg];rw[hw,yD];simp only[hold];refine .inr ?_;unfold RE;split
 ·rename_i f as ts h;rw[h]at aO;cases aO
 ·rename_i b x y h;rw[h]at aO;cases aO
 ·have hx:rG P o σ fun aK=>b9 P true ops rest aK K:=bY0 aO mP (pI _ _ hr h)
  cases hpt:parts o.op with
  |true=>simp only[if_true,zI,hold];exact⟨fun _=>hx,fun h=>by cases h⟩
  |false=>
   simp only[mG,if_false,mP];cases wr with
   |nil=>simp only[MX,zI];exact pI _ _ hr h
   |cons w r=>simp only[MX,zI,hold];exact⟨fun _=>hx,fun h=>by cases h⟩
def E6(ops:List Oper):List Oper->AS->Option (AS×List Oper)
 |[],σ=>some (σ,[])
 |o::r,σ=>Py (E6 ops r) ops σ o r o.guard
where
 Pz (f:AS->Option (AS×List Oper)) (σ:AS) (o:Oper) (r:List Oper):Option Bool->Option (AS×List Oper)
  |some c=>cond c (some (σ,o::r)) (f (σ.put o.dst false (.c (.bool false))))
  |none=>some (σ,o::r)
 Py (f:AS->Option (AS×List Oper)) (ops:List Oper) (σ:AS) (o:Oper) (r:List Oper):Option (Nat×Bool)->Option (AS×List Oper)
  |some (j,want)=>Pz f σ o r (qL (pT ops j σ.env) want)
  |none=>some (σ,o::r)
theorem ax2{ops:Array Oper}{K:AS->Prop}:∀(l:List Oper) (σ:AS) {p:AS×List Oper},E6 ops.toList l σ=some p->b9 P true ops p.2 p.1 K->b9 P true ops l σ K
 |[],σ,p,h,hk=>by simp only[E6]at h;injection h with h;subst h;exact hk
 |o::r,σ,p,h,hk=>by
  simp only[E6]at h;unfold E6.Py at h;split at h
  ·rename_i j want hg
   unfold E6.Pz at h;split at h
   ·rename_i c hc
    cases c with
    |true=>simp only[cond]at h;injection h with h;subst h;exact hk
    |false=>
     simp only[cond]at h
     show oR P true ops o σ _
     unfold oR;simp only[hg];rw[hc,yD];exact .inl (.inl ⟨rfl,ax2 r _ h hk⟩)
   ·injection h with h;subst h;exact hk
  ·injection h with h;subst h;exact hk
theorem bY2{ops:Array Oper}{o:Oper}{rest:List Oper}{K:AS->Prop}{p q:AS×List Oper}{j:Nat}{want:Bool}(hg:o.guard=some (j,want))
  (hw:qL (pT ops.toList j σ.env) want=some false) (hs:E6 ops.toList rest (σ.put o.dst false (.c (.bool false)))=some q)
  (hr:run P ops.toList q.2 q.1=p) (h:b9 P true ops p.2 p.1 K):b9 P true ops (o::rest) σ K:=by
 show oR P true ops o σ _
 unfold oR;simp only[hg];rw[hw,yD];exact .inl (.inl ⟨rfl,ax2 _ _ hs (pI _ _ hr h)⟩)
theorem bY3{o:Oper}{K:AS->Prop}{b x y:Operand}{b0:Bool}{a:AV}(aO:o.op= .pick b x y)(hb:kU (σ.get true b)=some b0)(hn:B5 (kU (σ.get b0 x)) (kU (σ.get (!b0) y))=none)(ha:σ.get true (cond b0 x y)=some a)(hk:K (σ.put o.dst true a)):rG P o σ K:=by
 unfold rG;simp only[aO];rw[hb,yD];simp only[hold];rw[hn];refine⟨fun h=> ?_,fun h=> ?_⟩<;>subst h<;>simp only[cond]at ha<;>rw[ha,yD]<;>exact hk
theorem bY4{ops:Array Oper}{o:Oper}{rest:List Oper}{K:AS->Prop}{p:AS×List Oper}{b x y:Operand}{b0:Bool}{a:AV}(aO:o.op= .pick b x y)(hg:o.guard=none)
  (hb:kU (σ.get true b)=some b0) (hn:B5 (kU (σ.get b0 x)) (kU (σ.get (!b0) y))=none) (ha:σ.get true (cond b0 x y)=some a) (hr:run P ops.toList rest (σ.put o.dst true a)=p) (h:b9 P true ops p.2 p.1 K):b9 P true ops (o::rest) σ K:=by
 show oR P true ops o σ _
 unfold oR;simp only[hg];exact bY3 aO hb hn ha (pI _ _ hr h)
end
attribute [go_sem] E6 E6.Pz E6.Py Eo
end Go.AL
namespace Go.AL
open Go.RowKit
section
variable {P : Program} {σ : AS}
theorem bY5{ops:Array Oper}{o:Oper}{rest:List Oper}{K:AS->Prop}{f:Operand}{as:Array Operand}{ts:Array TypeId}{n:FuncId}{cA args:List AV}{r:AV}{G':Nat->Option aI}{p:AS×List Oper}(aO:o.op= .call ⟨.value f,as,ts⟩)(hg:o.guard=none)
  (hp:eU P n args (·=r)) (hc:fZ (σ.get true f) (dZ (σ.get true) as.toList)=some (n,cA)) (he:cA.map (o0 σ.H.get)=args) (hn:∀a∈args,bK a) (hG:u9 σ.H.get (mC nD cA)=G')
  (hr:run P ops.toList rest (({σ with H:=⟨σ.H.next,G'⟩}:AS).put o.dst true r)=p) (h:b9 P true ops p.2 p.1 K):b9 P true ops (o::rest) σ K:=by
 show oR P true ops o σ _
 unfold oR;simp only[hg];unfold rG;simp only[aO];refine .inl ?_;rw[hc,yD];refine fU.ax3 hp he hn fun r' _ cZ=> ?_
 subst cZ;rw[hG];exact pI _ _ hr h
theorem bY6{ops:Array Oper}{o:Oper}{rest:List Oper}{K:AS->Prop}{f:Operand}{as:Array Operand}{ts:Array TypeId}{n:FuncId}{cA args:List AV}{r:AV}{G':Nat->Option aI}{p:AS×List Oper}{j:Nat}{want:Bool}(aO:o.op= .call ⟨.value f,as,ts⟩)(hg:o.guard=some (j,want))
  (hp:eU P n args (·=r)) (hw:qL (pT ops.toList j σ.env) want=some true) (hc:fZ (σ.get true f) (dZ (σ.get true) as.toList)=some (n,cA)) (he:cA.map (o0 σ.H.get)=args) (hn:∀a∈args,bK a) (hG:u9 σ.H.get (mC nD cA)=G')
  (hr:run P ops.toList rest (({σ with H:=⟨σ.H.next,G'⟩}:AS).put o.dst true r)=p) (h:b9 P true ops p.2 p.1 K):b9 P true ops (o::rest) σ K:=by
 show oR P true ops o σ _
 unfold oR;simp only[hg];rw[hw,yD];simp only[hold];refine .inl (.inr ⟨rfl,?_⟩);unfold rG;simp only[aO];refine .inl ?_;rw[hc,yD];refine fU.ax3 hp he hn fun r' _ cZ=> ?_
 subst cZ;rw[hG];exact pI _ _ hr h
theorem EK{ops:Array Oper}{o:Oper}{rest:List Oper}{K:AS->Prop}{f:Operand}{as:Array Operand}{ts:Array TypeId}{n:FuncId}{args:List AV}{Q:AV->Heap->Prop}(aO:o.op= .call ⟨.value f,as,ts⟩)(hg:o.guard=none)
  (hc:fZ (σ.get true f) (dZ (σ.get true) as.toList)=some (n,args)) (hp:fU P n args σ.H Q) (h:∀r H',Q r H'->b9 P true ops rest (({σ with H:=H'}:AS).put o.dst true r) K):b9 P true ops (o::rest) σ K:=by
 show oR P true ops o σ _
 unfold oR;simp only[hg];unfold rG;simp only[aO];refine .inl ?_;rw[hc,yD];exact hp.mono fun r H' hq=>h r H' hq
end
attribute [go_sem] yG nD mC qN bY7 ax4
end Go.AL
namespace Go.AL
open Go.RowKit
section
variable {P : Program} {σ : AS}
theorem bX.wk{E:Env}{W:World}{as bs:List AV}{vs:List Value}(h:C9 as bs)(r:bX E W as vs):bX E W bs vs:=
 ⟨h.1▸r.1,fun i y v hy hv=>by
   obtain⟨x,hx⟩:∃x,as[i]? =some x:=⟨as[i]'(by have:=(dV.1 hy).1;have:=h.1;omega),by simp⟩
   exact(r.2 i x v hx hv).wk (h.2 i x y hx hy)⟩
theorem eU.less{n:FuncId}{as bs:List AV}{Q:AV->Prop}(h:eU P n bs Q)(hw:C9 as bs):eU P n as Q:=
 ⟨h.1,fun L W vs hL hr=>h.2 L W vs hL (hr.wk hw)⟩
end
end Go.AL
namespace Go.AL
open Go.RowKit
def xD(W:World)(b:Nat):Nat:=match W.heap[b]? with
 |some (.cells cur _ _)=>cur.size
 |_=>0
theorem bY8(W:World)(b:Nat)(h:W.heap.size<=b):xD W b=0:=by
 unfold xD;rw[O5 h]
theorem eU.calls{P:Program}{n:FuncId}{args:List AV}{x:Value}(h:eU P n args (·= .c x))(W:World)(vs:List Value)(hr:bX (fM (xD W)) W args vs):
  Calls P n vs.toArray W fun e W'=>e= .returned x/\Below W.heap.size W W':=
 (h.2 (xD W) W vs (bY8 W) hr).mono fun e W' ⟨v,he,r,L',hb,_,_,iF,_,hq⟩=>by
   subst hq;cases iF;exact⟨he,hb⟩
end Go.AL
namespace Go.AL
attribute [go_sem] Nat.reduceEqDiff Nat.reduceAdd Nat.reduceSub Nat.reduceMul Nat.reduceLT Nat.reduceLeDiff reduceCtorEq Int.reduceToNat Int.reduceLT Int.reduceLE Nat.reduceBEq Nat.reduceBNe IntWalk.iteOmega IntWalk.toNatUp pJ zN Int.reduceAdd Int.reduceSub Int.reduceMul Int.reduceNeg IntWalk.i64_in IntWalk.u8_in IntWalk.rem_in Int.reduceBEq Int.reduceBNe Tq Int.toNat_zero CN Nat.mul_one Nat.one_mul
attribute [go_sem] R4 R5 XA X9 QS E5 AQ JP Ea List.getLast?_concat QZ R3 rI tR tS xO qW I4 List.all_nil vZ aH3 Option.isSome_some aH4
attribute [go_sem ↓] reduceIte
end Go.AL
namespace Go.AL
open Go.RowKit
abbrev zV(x:Int):AV:= .c (.int .i64 x)
abbrev bV(b:Bool):AV:= .c (.bool b)
class wF{α:Type}(f:α->List AV)(k:outParam Nat):Prop where
 len:∀a,(f a).length=k
 one:∀a,(f a).all AV.one=true
 bY9:∀a,∀x∈f a,bK x
def aA{α:Type}(f:α->List AV)(l:List α):List (List AV):=l.map f
section
variable {α : Type} {f : α -> List AV} {k : Nat}
theorem mH(l:List α):(aA f l).length=l.length:=by simp[aA]
theorem G6:aA f []=[]:=rfl
theorem pD(d:α){l:List α}{i:Nat}(h:i<l.length):(aA f l)[i]? =some (f (l.getD i d)):=by
 simp[aA,h]
theorem Gs(l:List α)(n:Nat):(aA f l).take n=aA f (l.take n):=by simp[aA]
theorem Gn(l:List α)(n:Nat):(aA f l).drop n=aA f (l.drop n):=by simp[aA]
theorem LH(a b:List α):aA f a++aA f b=aA f (a++b):=by simp[aA]
theorem sP(a:List α)(x:α):aA f a++[f x]=aA f (a++[x]):=by simp[aA]
theorem TR(l:List α)(i:Nat)(x:α):(aA f l).set i (f x)=aA f (l.set i x):=by simp[aA,List.map_set]
theorem bl2(x:α):[f x]=aA f [x]:=rfl
theorem Gj(n:Nat)(x:α):List.replicate n (f x)=aA f (List.replicate n x):=by simp[aA]
theorem bZ0(l:List α):(aA f l).isEmpty=l.isEmpty:=by simp[aA]
theorem Kq[h:wF f k](l:List α):(aA f l).all (fun r=>r.length==k&&r.all AV.one)=true:=by
 simp only[aA,List.all_map,gK,Function.comp,k6,beq_iff_eq];exact fun x _=>⟨h.len x,gK.1 (h.one x)⟩
theorem bZ1[h:wF f k](l:List α):(aA f l).all (fun r=>r.length==k)=true:=by
 simp only[aA,List.all_map,gK,Function.comp,beq_iff_eq];exact fun x _=>h.len x
theorem oB[h:wF f k](l:List α):∀row∈aA f l,∀x∈row,bK x:=by
 intro row hr x hx;simp only[aA,kV]at hr;obtain⟨a,_,rfl⟩:=hr;exact h.bY9 a x hx
theorem kL[h:wF f k](l:List α):bK (.snap (aA f l)):=fC.2 (oB l)
theorem jA[h:wF f k](l:List α):(∀row,row∈aA f l->∀x,x∈row->bK x)=True:=eq_true (oB l)
theorem wG{β:Type}{l:List β}(h:l≠[]):l.isEmpty=false:=by cases l<;>simp_all
theorem cQ(d:α){l:List α}{i:Nat}(h:i<l.length):l.getD i d∈l:=by
 rw[eP,eQ h];exact FZ h
end
def bD(x:Int):List AV:=[zV x]
instance :wF bD 1:=⟨fun _=>rfl,fun _=>rfl,fun _ x hx=>by simp[bD]at hx;subst hx;exact .c _⟩
def eJ(x:Bool):List AV:=[bV x]
instance :wF eJ 1:=⟨fun _=>rfl,fun _=>rfl,fun _ x hx=>by simp[eJ]at hx;subst hx;exact .c _⟩
theorem bZ2(a:List Int)(x:Int):aA bD a++[[zV x]]=aA bD (a++[x]):=sP a x
theorem bZ3(l:List Bool)(i:Nat)(x:Bool):(aA eJ l).set i [bV x]=aA eJ (l.set i x):=TR l i x
theorem Ym(n:Nat)(x:Bool):List.replicate n [bV x]=aA eJ (List.replicate n x):=Gj (f:=eJ) n x
attribute [go_sem] mH Gs Gn LH bZ0 Kq bZ1 kL jA bZ2 bZ3 Ym bD eJ bP BD mD mE Nat.sub_zero Int.sub_zero
end Go.AL
namespace Go.AL
open Go.RowKit
section
variable {P : Program} {σ : AS}
theorem bZ4{ops:List Oper}{N0 i:Nat}{o:Oper}{r:List Oper}{σ eA:AS}{es:List Entry}{f:Operand}{as:Array Operand}{ts:Array TypeId}{n:FuncId}{cA args:List AV}{a:AV}{wr:List (Nat×Option aI)}{rd:List Nat}(aO:o.op= .call ⟨.value f,as,ts⟩)(hg:o.guard=none)
  (hp:eU P n args (·=a)) (hc:fZ (σ.get true f) (dZ (σ.get true) as.toList)=some (n,cA)) (he:cA.map (o0 σ.H.get)=args) (hn:∀a∈args,bK a) (dS:mC nD cA=rd) (hw:(rd.map fun id=>(id,qN (σ.H.get id)))=wr) (h:gP P ops N0 (i+1) r (σ.app o.dst ⟨true,a,wr,rd⟩) es eA):
  gP P ops N0 i (o::r) σ (⟨true,a,wr,rd⟩::es) eA:=
 .cons i o r σ _ es eA (.Ep f as ts n cA args aO (by unfold mZ;rw[hg]) rfl hc he hn hp (.inl (by rw[dS];exact hw.symm)) (fun id aB=>by rw[<-dS];exact aB)) h
theorem bZ5{ops:List Oper}{N0 i:Nat}{o:Oper}{r:List Oper}{σ eA:AS}{es:List Entry}{f:Operand}{as:Array Operand}{ts:Array TypeId}{n:FuncId}{args:List AV}{el:TypeId}{k:Nat}{rows:List (List AV)}(aO:o.op= .call ⟨.value f,as,ts⟩)(hg:o.guard=none)
  (hp:sC P n args el k rows) (hc:fZ (σ.get true f) (dZ (σ.get true) as.toList)=some (n,args)) {a:AV} (ha:AV.own (N0+i) 0 rows.length=a) (h:gP P ops N0 (i+1) r (σ.app o.dst ⟨true,a,[(N0+i,some (.cells el k rows true true))],[]⟩) es eA):
  gP P ops N0 i (o::r) σ (⟨true,a,[(N0+i,some (.cells el k rows true true))],[]⟩::es) eA:=
 .cons i o r σ _ es eA (.RQ f as ts n args el k rows aO (by unfold mZ;rw[hg]) rfl hc hp ha.symm rfl) h
theorem bZ6{ops:Array Oper}{o:Oper}{rest:List Oper}{K:AS->Prop}{f:Operand}{as:Array Operand}{ts:Array TypeId}{n:FuncId}{args:List AV}{el:TypeId}{k:Nat}{rows:List (List AV)}{p:AS×List Oper}(aO:o.op= .call ⟨.value f,as,ts⟩)(hg:o.guard=none)
  (hp:sC P n args el k rows) (hc:fZ (σ.get true f) (dZ (σ.get true) as.toList)=some (n,args))
  (hr:run P ops.toList rest (({σ with H:=⟨σ.H.next+1,aX σ.H.get [(σ.H.next,some (.cells el k rows true true))]⟩}:AS).put o.dst true (.own σ.H.next 0 rows.length))=p) (h:b9 P true ops p.2 p.1 K):b9 P true ops (o::rest) σ K:=
 EK aO hg hc hp.run fun r H' ⟨h1,h2⟩=>by subst h1;subst h2;exact pI _ _ hr h
theorem bZ7{ops:Array Oper}{o:Oper}{rest:List Oper}{K:AS->Prop}{f:Operand}{as:Array Operand}{ts:Array TypeId}{n:FuncId}{fn:Func}{c:Code}{args:List AV}{nt:Nat}(hf:P.funcs[n]? =some fn)(hb:fn.body=some c)(fI:(fn.name== "runtime.NumGoroutine")=false)(cM:fn.ntmps=nt)
  (aO:o.op= .call ⟨.value f,as,ts⟩) (hg:o.guard=none) (hc:fZ (σ.get true f) (dZ (σ.get true) as.toList)=some (n,args)) (hlen:args.length<=nt)
  (h:AW P c ⟨mB 0 args,σ.H,nt⟩ (hold (cH P fn.results.toList (hold (fun a H'=>b9 P true ops rest (({σ with H:=H'}:AS).put o.dst true a) K) ⟨⟩)) ⟨⟩)):b9 P true ops (o::rest) σ K:=by
 subst cM;exact EK aO hg hc (FR hf hb fI hlen h) fun r H' hq=>hq
end
theorem RQ{P:Program}{n:FuncId}{fn:Func}{c:Code}{args:List AV}{e:TypeId}{k:Nat}{rows:List (List AV)}(ha:∀a∈args,bK a)(dB:∀row∈rows,∀x∈row,bK x)(hf:P.funcs[n]? =some fn)(hb:fn.body=some c)(fI:(fn.name== "runtime.NumGoroutine")=false)(hlen:args.length<=fn.ntmps)
  (h:AW P c ⟨mB 0 args,⟨0,cV []⟩,fn.ntmps⟩ (hold (cH P fn.results.toList (hold (fun a H'=>∃i,a= .own i 0 rows.length/\H'.get i=some (.cells e k rows true true)) ⟨⟩)) ⟨⟩)):sC P n args e k rows:=
 bU4 ha dB (FR hf hb fI hlen h)
theorem Qa{E:Env}{W:World}{pre post:List AV}{vs:List Value}(h:bX E W (pre++ .snap []::post) vs):∃a cap,bX E W (pre++ .c (.slice a 0 cap)::post) vs:=by
 have bG:pre.length<vs.length:=by have:=h.1;simp at this;omega
 have hv:=h.2 pre.length (.snap []) vs[pre.length] (by simp) (eQ bG)
 have key:∃a cap,vs[pre.length]= .slice a 0 cap:=by
  generalize XU:vs[pre.length]=v at hv;cases hv with
  |lV a cap=>exact⟨a,cap,rfl⟩
  |snap _ b off s n cap ws hn qK=>simp at hn;subst hn;exact⟨_,cap,rfl⟩
 obtain⟨a,cap,hk⟩:=key;refine⟨a,cap,by simpa using h.1,fun i x v hx lR=> ?_⟩
 rcases Tw i pre.length with h1|h1|h1
 ·rw[kG h1]at hx
  exact h.2 i x v (by rw[kG h1];exact hx) lR
 ·subst h1
  simp at hx;subst hx;rw[eQ bG]at lR;injection lR with lR
  rw[<-lR,hk];exact .c _ rfl
 ·refine h.2 i x v ?_ lR
  obtain⟨d,rfl⟩:∃d,i=pre.length+(d+1):=⟨i-pre.length-1,by omega⟩
  rw[k7 (by omega)]at hx⊢
  simpa using hx
theorem eU.nil{P:Program}{n:FuncId}{pre post:List AV}{Q:AV->Prop}(h:∀a cap,eU P n (pre++ .c (.slice a 0 cap)::post) Q):eU P n (pre++ .snap []::post) Q:=
 ⟨(h none 0).1,fun L W vs hL hr=>let ⟨a,cap,cZ⟩:=Qa hr;(h a cap).2 L W vs hL cZ⟩
end Go.AL
namespace Go.AL
open Go.RowKit
theorem eU.aO7{P:Program}{n:FuncId}{pre post rest:List AV}{Q:AV->Prop}(h:∀a cap,eU P n (.agg (pre++ .c (.slice a 0 cap)::post)::rest) Q):eU P n (.agg (pre++ .snap []::post)::rest) Q:=
 ⟨(h none 0).1,fun L W vs hL hr=>by
   cases vs with
   |nil=>have:=hr.1;simp at this
   |cons v vs=>
    have hv:=hr.2 0 _ v rfl rfl;cases hv with
    |agg _ us hl hu=>
    obtain⟨a,cap,hx⟩:=Qa (E:=fM L) (W:=W) (pre:=pre) (post:=post) (vs:=us.toList) ⟨by simpa using hl,fun i x v hx hv=>hu i x v hx (by simpa using hv)⟩
    refine(h a cap).2 L W _ hL ⟨by have:=hr.1;simpa using this,fun i x v hx hv=> ?_⟩
    cases i with
    |zero=>
     simp at hx hv;subst hx;subst hv;exact .agg _ us (by have:=hx.1;simpa using this) fun i x v h1 h2=>hx.2 i x v h1 (by simpa using h2)
    |succ i=>exact hr.2 (i+1) x v (by simpa using hx) (by simpa using hv)⟩
def qB(G:Nat->Option aI)(k:Nat):List (Nat×Option aI)->Option aI
 |[]=>G k
 |(i,b)::r=>if k=i then b else qB G k r
def fR(G:Nat->Option aI)(l:List (Nat×Option aI))(k:Nat):Option aI:=qB G k l
theorem bZ8(G:Nat->Option aI)(l:List (Nat×Option aI))(k:Nat):fR G l k=qB G k l:=rfl
theorem Qb(G:Nat->Option aI):fR G []=G:=rfl
theorem bZ9(G:Nat->Option aI)(l:List (Nat×Option aI))(i:Nat)(b:Option aI):(fun k=>if k=i then b else fR G l k)=fR G (JI l i b):=by
 funext k
 induction l with
 |nil=>rfl
 |cons p r ih=>
  obtain⟨j,c⟩:=p;simp only[JI];by_cases mL:i=j
  ·subst mL
   simp only[if_true,fR,qB];split<;>rfl
  ·simp only[mL,if_false,fR,qB]
   simp only[fR]at ih;rw[<-ih];by_cases X2:k=j
   ·subst X2;simp[mQ mL]
   ·simp[X2]
theorem ca0(G:Nat->Option aI)(l:List (Nat×Option aI))(i:Nat)(b:Option aI)(r:List (Nat×Option aI)):aX (fR G l) ((i,b)::r)=aX (fR G (JI l i b)) r:=by
 rw[<-bZ9];rfl
def XV(pV H':Heap):Prop:=H'.next<=pV.next/\∀id b,pV.get id=some b->H'.get id=some b
theorem RH.less{E:Env}{W:World}{H' pV:Heap}(h:RH E W H')(hl:XV pV H'):RH E W pV:=
 ⟨fun id aB=>vF (h.next id aB) hl.1,h.core.QQ fun id b hb=>⟨b,hl.2 id b hb,aI.le_refl b⟩⟩
theorem BH{G:Nat->Option aI}:∀id b,cV [] id=some b->G id=some b:=fun id b h=>by cases h
theorem sQ{G:Nat->Option aI}{l:List (Nat×Option aI)}{i:Nat}{x:Option aI}(h:G i=x)(hr:∀id b,cV l id=some b->G id=some b):∀id b,cV ((i,x)::l) id=some b->G id=some b:=fun id b hb=>by
 simp only[cV,xI]at hb;split at hb
 ·rename_i he;subst he;rw[h];exact hb
 ·exact hr id b hb
theorem PN{G:Nat->Option aI}{l:List (Nat×Option aI)}{i:Nat}(hr:∀id b,cV l id=some b->G id=some b):∀id b,cV ((i,none)::l) id=some b->G id=some b:=fun id b hb=>by
 simp only[cV,xI]at hb;split at hb
 ·cases hb
 ·exact hr id b hb
theorem N5{a b:Nat}(h:a≠b):(a==b)=false:=by simpa using h
theorem N6{a b:Nat}(h:a=b):(a==b)=true:=by simpa using h
attribute [go_sem] bZ8 qB ca0
end Go.AL
namespace Go.AL
open Go.RowKit
theorem Hu(G:Nat->Option aI)(l:List (Nat×Option aI)):∀(l2:List (Nat×Option aI)),fR (fR G l) l2=fR G (l2++l)
 |[]=>rfl
 |(i,x)::r=>by
  funext k
  have h:=congrFun (Hu G l r) k;simp only[fR,qB,yI]at h⊢;split
  ·rfl
  ·exact h
def B8(G:Nat->Option aI)(l l':List (Nat×Option aI)):Prop:=∀p∈l',p.2=none\/fR G l p.1=p.2
theorem KR{G:Nat->Option aI}{l:List (Nat×Option aI)}:B8 G l []:=fun p hp=>by cases hp
theorem ZT{G:Nat->Option aI}{l l':List (Nat×Option aI)}{i:Nat}{x:Option aI}(h:fR G l i=x)(hr:B8 G l l'):B8 G l ((i,x)::l'):=fun p hp=>by
 rcases cG.1 hp with rfl|hp
 ·exact .inr h
 ·exact hr p hp
theorem UQ{G:Nat->Option aI}{l l':List (Nat×Option aI)}{i:Nat}(hr:B8 G l l'):B8 G l ((i,none)::l'):=fun p hp=>by
 rcases cG.1 hp with rfl|hp
 ·exact .inl rfl
 ·exact hr p hp
def GJ(k:Nat):List (Nat×Option aI)->Prop
 |[]=>False
 |(i,_)::r=>i=k\/GJ k r
def xP(N:Nat)(l':List (Nat×Option aI)):List (Nat×Option aI)->Prop
 |[]=>True
 |(i,_)::r=>(N<=i\/GJ i l')/\xP N l' r
theorem ax5{N:Nat}{l':List (Nat×Option aI)}:∀{l:List (Nat×Option aI)},xP N l' l->∀p∈l,N<=p.1\/GJ p.1 l'
 |(i,x)::r,h,p,hp=>by
  rcases cG.1 hp with rfl|hp
  ·exact h.1
  ·exact ax5 h.2 p hp
theorem Er(G:Nat->Option aI)(k:Nat):∀(l:List (Nat×Option aI)),(∃p∈l,p.1=k/\qB G k l=p.2)\/(¬GJ k l/\qB G k l=G k)
 |[]=> .inr ⟨fun h=>h,rfl⟩
 |(i,x)::r=>by
  by_cases h:k=i
  ·exact .inl ⟨(i,x),by simp,h.symm,by simp[qB,h]⟩
  ·rcases Er G k r with⟨p,hp,h1,h2⟩|⟨h1,h2⟩
   ·exact .inl ⟨p,by simp[hp],h1,by simp only[qB,if_neg h];exact h2⟩
   ·exact .inr ⟨fun hm=>hm.elim (fun e=>h e.symm) h1,by simp only[qB,if_neg h];exact h2⟩
theorem UP{G:Nat->Option aI}{N:Nat}{l l':List (Nat×Option aI)}(hG:∀id,N<=id->G id=none)(hs:B8 G l l')(hk:xP N l' l):∀id b,fR G l' id=some b->fR G l id=some b:=fun id b hb=>by
 rcases Er G id l' with⟨p,hp,h1,h2⟩|⟨h1,h2⟩
 ·have h3:p.2=some b:=by rw[<-h2];exact hb
  rcases hs p hp with h4|h4
  ·rw[h4]at h3;cases h3
  ·rw[<-h1,h4,h3]
 ·have h3:G id=some b:=by rw[<-h2];exact hb
  have h4:id<N:=by
   rcases oA id N with h|h
   ·exact h
   ·rw[hG id h]at h3;cases h3
  rcases Er G id l with⟨p,hp,h5,h6⟩|⟨h5,h6⟩
  ·exfalso
   rcases ax5 hk p hp with h7|h7
   ·omega
   ·rw[h5]at h7;exact h1 h7
  ·show qB G id l=some b
   rw[h6,h3]
theorem ca1{G:Nat->Option aI}{N N':Nat}(hG:∀id,N<=id->G id=none)(hN:N<=N'){l:List (Nat×Option aI)}(hl:∀p∈l,p.1<N'):∀id,N'<=id->fR G l id=none:=fun id aB=>by
 rcases Er G id l with⟨p,hp,h1,h2⟩|⟨h1,h2⟩
 ·have:=hl p hp;omega
 ·show qB G id l=none
  rw[h2];exact hG id (by omega)
def UT(N:Nat):List (Nat×Option aI)->Prop
 |[]=>True
 |(i,_)::r=>i<N/\UT N r
theorem ax6{N:Nat}:∀{l:List (Nat×Option aI)},UT N l->∀p∈l,p.1<N
 |(i,x)::r,h,p,hp=>by
  rcases cG.1 hp with rfl|hp
  ·exact h.1
  ·exact ax6 h.2 p hp
theorem Wj{G:Nat->Option aI}{N N':Nat}(hG:∀id,N<=id->G id=none)(hN:N<=N'){l:List (Nat×Option aI)}(hl:UT N' l):∀id,N'<=id->fR G l id=none:=ca1 hG hN (ax6 hl)
end Go.AL
namespace Go.AL
open Go.RowKit
theorem aU4{P:Program}{n:FuncId}{args:List AV}{H:Heap}{Q:AV->Heap->Prop}(hen:rD P n=true)
  (h:∀(E:Env) (W:World) (vs:List Value),RH E W H->bX E W args vs->Calls P n vs.toArray W fun e W'=>∃v,e= .returned v/\∃r L',Below W.heap.size W W'/\(∀b,b<W.heap.size->L' b=E.L b)/\(∀b,W'.heap.size<=b->L' b=0)/\
    RV ⟨E.ι,E.sz,E.U,L'⟩ W' r v/\Q r H):fU P n args H Q:=
 ⟨hen,fun E W vs hH hr=>(h E W vs hH hr).mono fun e W' ⟨v,he,r,L',hb,h2,h3,h4,h5⟩=>by
   have bG:∀b k,k<E.L b->b<W.heap.size:=fun b k hk=>by
    rcases oA b W.heap.size with h|h
    ·exact h
    ·have:=hH.core.lim b h;omega
   have hv:bE E W ⟨E.ι,E.sz,E.U,L'⟩ W':=by
    refine⟨hb.os,hb.tape,hb.output,hb.size,fun _ h=>h,fun _ _=>⟨rfl,rfl⟩,fun b=> ?_,fun b k hk=> ?_,fun b bY _=>hb.block b bY,fun b cur e f hc=> ?_,fun b bY _=>h2 b bY,fun id h h'=>absurd h' h,fun b r h=>⟨r,by rw[hb.block b (jG.1 h).1];exact h,rfl⟩⟩
    ·rcases oA b W.heap.size with h|h
     ·exact Z5 (h2 b h).symm
     ·rw[hH.core.lim b h];exact iG _
    ·exact hb.cell (p:=⟨b,k,none⟩) (bG b k hk)
    ·exact⟨cur,f,by rw[hb.block b (jG.1 hc).1];exact hc,rfl⟩
   refine⟨v,he,_,r,H,hv,⟨hH.next,h3,fun id hU=>vF (hH.core.eL id hU) hb.size,fun id b hg=> ?_⟩,h4,h5⟩
   obtain⟨hU,dO⟩:=hH.core.ok id b hg;have rX:=hH.core.eL id hU
   exact⟨hU,dO.mono hv hU (hb.block _ rX) (h2 _ rX) fun aM b' _ cL vU=>⟨b',cL,vU,rfl,fun h=>h⟩⟩⟩
end Go.AL
namespace Go.AL
open Go.RowKit
theorem ca3{P:Program}{ops:List Oper}{N0 i:Nat}{o:Oper}{r:List Oper}{σ eA:AS}{es:List Entry}{a:AV}{wr:List (Nat×Option aI)}{rd:List Nat}{j:Nat}{want:Bool}(hg:o.guard=some (j,want))
  (xQ:qL (pT ops j σ.env) want=some true) (hr:res P (σ.get true) σ.H.get (N0+i) o=some (a,wr,rd)) (h:gP P ops N0 (i+1) r (σ.app o.dst ⟨true,a,wr,rd⟩) es eA):gP P ops N0 i (o::r) σ (⟨true,a,wr,rd⟩::es) eA:=
 .cons i o r σ _ es eA (.res (by unfold mZ;rw[hg];exact xQ) hr (.inr rfl)) h
end Go.AL
namespace Go.AL
open Go.RowKit
section
variable {E : Env} {W : World} {G : Nat -> Option aI}
theorem bE.XX(hG:RC E W G)(o:Obj):bE E W E (W.alloc o)where
 os:=rfl
 tape:=rfl
 output:=rfl
 size:=by simp
 used:=fun id h=>h
 kT:=fun id h=>⟨rfl,rfl⟩
 lim:=fun b=>cE _
 zB:=fun b k hk=>by
  refine World.cell?_alloc_old W o _ fun e=> ?_
  have:=hG.lim b (by simp at e;omega)
  omega
 tZ:=fun b hb _=>Below.heap_alloc W o b hb
 b8:=fun b cur e f h=>⟨cur,f,by rw[Below.heap_alloc W o b (jG.1 h).1];exact h,rfl⟩
 still:=fun _ _ _=>rfl
 fresh:=fun id h1 h2=>absurd h2 h1
 loops:=fun b r h=>⟨r,by rw[Below.heap_alloc W o b (jG.1 h).1];exact h,rfl⟩
theorem RC.XX(hG:RC E W G)(o:Obj):RC E (W.alloc o) G where
 lim:=fun b hb=>hG.lim b (by simp at hb;omega)
 eL:=fun id h=>by have:=hG.eL id h;simp;omega
 ok:=fun id b h=>by
  obtain⟨h1,h2⟩:=hG.ok id b h;exact⟨h1,h2.mono (bE.XX hG o) h1 (Below.heap_alloc W _ _ (hG.eL id h1)) rfl fun aM b' aJ hg he=>⟨b',hg,he,rfl,fun h=>h⟩⟩
theorem RC.ca4(hG:RC E W G){aF:Nat}(hn:¬E.U aF)(r:Loop)(env:List (Nat×Bool×AV))(ps:List Tmp)(hp:r.params=ps.toArray)
  (Ps:∀t c a,lk env t=some (c,a)->∃v,r.tmps[t]? =some v/\(c=true->RV E W a v)/\(c=false->v=undef)):
  RC (E.more aF W.heap.size 0) (W.alloc (.loop r)) (aX G [(aF,some (.cO env r.tmps.size ps r.assign r.body r.state r.pending))])where
 lim:=fun b hb=>hG.lim b (by simp at hb;omega)
 eL:=fun id h=>by
  rcases h with h|h
  ·have aJ:id≠aF:=fun e=>hn (e▸h)
   have:=hG.eL id h;simp[Env.more,aJ];omega
  ·subst h;simp[Env.more]
 ok:=fun id b h=>by
  have hv:=bE.alloc hG hn (.loop r) 0;by_cases aB:id=aF
  ·subst aB
   simp only[aX,if_true,bC]at h;subst h;refine⟨.inr rfl,⟨r.fn,r.tmps,r.defers,?_,rfl,fun t c a ht=> ?_⟩,?_,fun aM b' aJ hg=> ?_⟩
   ·simp only[Env.more,if_true]
    rw[World.alloc_heap_new W _,<-hp]
   ·obtain⟨v,h3,h4,h5⟩:=Ps t c a ht
    exact⟨v,h3,fun hc=>(h4 hc).mono hv,h5⟩
   ·simp only[Env.more,if_true];exact hG.lim _ (cE _)
   ·simp only[aX,aJ,if_false]at hg
    have:=hG.eL aM (hG.ok aM b' hg).1;simp only[Env.more,aJ,if_true,if_false];omega
  ·simp only[aX,aB,if_false]at h
   obtain⟨h1,h2⟩:=hG.ok id b h;have bG:=hG.eL id h1;refine⟨.inl h1,h2.mono hv h1 (Below.heap_alloc W _ _ bG) rfl fun aM b' aJ hg he=> ?_⟩
   by_cases vS:aM=aF
   ·subst vS;simp only[Env.more,if_true]at he;omega
   ·simp only[aX,vS,if_false]at hg
    simp only[Env.more,vS,if_false]at he;exact⟨b',hg,he,rfl,fun h=>h⟩
end
def ax7(Q:Exit->AS->Prop)(σ:AS):Option Code->Prop
 |none=>Q .normal σ
 |some .ret=>Q .ret σ
 |some (.exit i)=>Q (.exit i) σ
 |_=>False
def vB(id:Nat)(env:List (Nat×Bool×AV))(nt:Nat)(ps:List Tmp)(A B:Code)(Q:Exit->Heap->Prop)(H':Heap):Prop:=
 ∃env nt ps A B st pe,H'.get id=some (.cO env nt ps A B st pe)/\st≠ .busy/\ax7 (fun e σ=>Q e σ.H) ⟨[],jX H' id none,0⟩ pe
theorem ca5{P:Program}{σ:AS}{Q:Exit->AS->Prop}{g:Operand}{ps:Array Tmp}{assign body:Code}{n:FuncId}{fn:Func}{c:Code}{first cap:List AV}(hg:σ.get true g=some (.fn (.func n) first cap))
  (hf:P.funcs[n]? =some fn) (hb:fn.body=some c) (fI:(fn.name== "runtime.NumGoroutine")=false) (hlen:(first++[AV.kH σ.H.next]++cap).length<=fn.ntmps)
  (h:∀R A B,R=σ.env->A=assign->B=body->AW P c ⟨mB 0 (first++[.kH σ.H.next]++cap),jX ⟨σ.H.next+1,σ.H.get⟩ σ.H.next (some (.cO R σ.nt ps.toList A B .ready none)),fn.ntmps⟩
    (hold (cH P fn.results.toList (hold (fun _ H'=>vB σ.H.next R σ.nt ps.toList A B (hold (fun e H2=>Q e ({σ with H:=H2}:AS)) ⟨⟩) H') ⟨⟩)) ⟨⟩)):AW P (.rangeFunc g ps assign body) σ Q:=fun ro E W act eN hr=>by
 have Ef:=FR hf hb fI hlen (h _ _ _ rfl rfl rfl);have h1:=hr.get rfl hg;generalize pB:act.eval g=fv at h1;cases h1 with
 |fn _ _ _ vf vc hl cW h3 h4=>
 have gR:¬E.U σ.H.next:=fun hU=>KE _ (hr.heap.next _ hU)
 refine wpIn_rangeFunc ?_;intro XY _
 --entering
 have enter:∃(l:Nat) (mark:List Deferred) (D:Nat) (W0:World),(Instr.enterLoop XY act.tmps ps assign body (kK ro).round).run P W= .ok (l,mark) (W0.alloc (.loop {state:= .ready,pending:=none,fn:=XY,tmps:=act.tmps,params:=ps,assign,body,defers:=D}))/\l=W0.heap.size/\
   bE E W E W0/\RC E W0 σ.H.get/\Marks E W0 (mark++act.defers)/\(∀D,tI D∈mark++act.defers->tI D∈act.defers\/W.heap.size<=D)/\rF (mark++act.defers)=rF act.defers:=by
  cases ro with
  |none=>
   refine⟨W.heap.size+1,[tI W.heap.size],W.heap.size,W.alloc (.deferred (some [])),run_enterLoop_outer _ _ _ _ _,by simp,bE.XX hr.heap.core _,hr.heap.core.XX _,?_,fun D hD=> ?_,rfl⟩
   ·obtain⟨Ds,rY,tG,xC⟩:=hr.defers.mono (bE.XX hr.heap.core (.deferred (some [])))
    have bG:∀D∈Ds,D<W.heap.size:=fun D hD=>by
     obtain⟨Ds',ca6,_,ca7⟩:=hr.defers;exact(jG.1 (ca7 D (bU5 ca6 (MW rY hD))).1).1
    refine⟨W.heap.size::Ds,by rw[Gb,TQ rfl,rY];rfl,Fv.2 ⟨fun h=>KE _ (bG _ h),tG⟩,fun D hD=> ?_⟩
    rcases cG.1 hD with h5|h5
    ·subst h5
     exact⟨World.alloc_heap_new W _,fun id aB he=>by have:=hr.heap.core.eL id aB;omega⟩
    ·exact xC D h5
   ·rcases cG.1 hD with h5|h5
    ·exact .inr (Z5 (au8 h5).symm)
    ·exact .inl h5
  |some l0=>
   obtain⟨r0,wV⟩:=eN l0 rfl;exact⟨W.heap.size,[],r0.defers,W,run_enterLoop_inner wV _ _ _ _ _,rfl,bE.refl E W,hr.heap.core,hr.defers,(fun D hD=> .inl hD),rfl⟩
 obtain⟨l,mark,D,W0,IF,oZ,yP,jL,hM0,nP,ca9⟩:=enter;have pN:=bE.alloc jL gR (.loop {state:= .ready,pending:=none,fn:=XY,tmps:=act.tmps,params:=ps,assign,body,defers:=D}) 0
 have XZ:=jL.ca4 gR {state:= .ready,pending:=none,fn:=XY,tmps:=act.tmps,params:=ps,assign,body,defers:=D} σ.env ps.toList (by simp) (fun t c a ht=>by
  obtain⟨v,h5,h6,h7⟩:=hr.env t c a ht
  exact⟨v,h5,fun hc=>(h6 hc).mono yP,h7⟩)
 rw[<-oZ]at pN XZ;have Qc:=hM0.mono pN;generalize W0.alloc (.loop {state:= .ready,pending:=none,fn:=XY,tmps:=act.tmps,params:=ps,assign,body,defers:=D})=W1 at IF pN XZ Qc;have XU:=yP.trans pN;have RG:(E.more σ.H.next l 0).ι σ.H.next=l:=by simp[Env.more]
 have zG:(E.more σ.H.next l 0).U σ.H.next:= .inr rfl
 have Co:∀id,(E.more σ.H.next l 0).U id->id<σ.H.next+1:=fun id aB=>by
  rcases aB with h5|h5
  ·exact TM (hr.heap.next id h5)
  ·subst h5;exact G3 _
 generalize E.more σ.H.next l 0=E1 at XU pN XZ Qc RG zG Co
 have dP:act.tmps.size=σ.nt:=hr.size;simp only[dP]at XZ;have mA:RH E1 W1 (jX ⟨σ.H.next+1,σ.H.get⟩ σ.H.next (some (.cO σ.env σ.nt ps.toList assign body .ready none))):=⟨Co,XZ⟩
 have mY:bX E1 W1 (first++[.kH σ.H.next]++cap) (vf.toList++[.func (.yield l) #[] #[]]++vc.toList):=by
  refine bX.append (bX.append ?_ ?_) ?_
  ·exact⟨by simpa using hl,fun i x v hx hv=>(h3 i x v hx (by simpa using hv)).mono XU⟩
  ·have:=RV.kH (E:=E1) (W:=W1) σ.H.next zG
   rw[RG]at this;exact .cons this .nil
  ·exact⟨by simpa using cW,fun i x v hx hv=>(h4 i x v hx (by simpa using hv)).mono XU⟩
 have hlb:(vf.toList++[Value.func (.yield l) #[] #[]]++vc.toList).toArray=vf++ #[Value.func (.yield l) #[] #[]]++vc:=by
  apply CR;simp
 refine⟨l,mark,W1,{target:= .fn (.func n) vc,args:=vf++ #[Value.func (.yield l) #[] #[]]},W1,n,vf++ #[Value.func (.yield l) #[] #[]]++vc,W1,IF,?_,fun _ _=>trivial,?_,AZ,?_⟩
 ·simp only[resolve,pB,Deferred.ofValue]
  simp[Act.eval,Sem.run_pure]
 ·simp only[invoke]
  exact B6 Ef.1 _ _
 ·refine CH ?_
  rw[<-hlb];refine(Ef.2 E1 W1 _ mA mY).mono fun e W' ⟨v,he,E',r,H',fB,Qd,iF,hk⟩=> ?_
  subst he;obtain⟨_,_,_,_,_,st,pe,GU,eG,hj⟩:=hk;obtain⟨rc,sE,Qe,ax8,_,_,_,_,_,mJ⟩:=Eg Qd GU;obtain⟨RI,Qf⟩:=mJ .exhausted pe;have cb1:E'.ι σ.H.next=l:=(fB.kT _ zG).1.trans RG
  rw[cb1]at sE RI Qf;have rN:=run_endLoop (P:=P) sE (by rw[Qe];exact eG)
  have heq:({rc with state:=LoopState.exhausted}:Loop)={rc with state:=LoopState.exhausted,pending:=pe}:=by rw[<-ax8]
  rw[heq,ax8]at rN;refine⟨pe,_,rN,?_⟩;have XL:bE E W E' (W'.putObj l (.loop {rc with state:= .exhausted,pending:=pe})):=(XU.trans fB).trans RI
  have hH4:RH E' (W'.putObj l (.loop {rc with state:= .exhausted,pending:=pe})) (jX H' σ.H.next none):=by
   refine⟨Qf.next,Qf.core.QQ fun id b aB=>⟨b,?_,aI.le_refl b⟩⟩
   simp only[jX,aX]at aB⊢;by_cases aJ:id=σ.H.next
   ·rw[if_pos aJ]at aB;cases aB
   ·rw[if_neg aJ]at aB⊢;exact aB
  have hM4:Marks E' (W'.putObj l (.loop {rc with state:= .exhausted,pending:=pe})) (mark++act.defers):=Qc.mono (fB.trans RI)
  have cC:Rel E' (W'.putObj l (.loop {rc with state:= .exhausted,pending:=pe})) ({σ with H:=jX H' σ.H.next none}:AS) {act with defers:=mark++act.defers}:=by
   have:=hr.mono XL hH4;exact⟨hM4,this.size,this.env,this.heap⟩
  have hw:eE E W act E' (W'.putObj l (.loop {rc with state:= .exhausted,pending:=pe})) {act with defers:=mark++act.defers}:=⟨XL,nP,ca9⟩
  unfold ax7 at hj;simp only[hold]at hj;split at hj
  ·exact⟨E',_,hw,cC,rfl,hj⟩
  ·exact wpIn_ret ⟨E',_,hw,cC,rfl,hj⟩
  ·exact wpIn_exit ⟨E',_,hw,cC,rfl,hj⟩
  ·exact hj.elim
end Go.AL
namespace Go.AL
open Go.RowKit
section
variable {P : Program} {σ : AS}
theorem cb4{ops:Array Oper}{o:Oper}{rest:List Oper}{K:AS->Prop}{j:Nat}{want:Bool}(hg:o.guard=some (j,want))(hw:qL (pT ops.toList j σ.env) want=some true)
  (h:rG P o σ (hold (fun aK=>b9 P true ops rest aK K) ⟨⟩)):b9 P true ops (o::rest) σ K:=by
 show oR P true ops o σ _
 unfold oR;simp only[hg];rw[hw,yD];simp only[hold];exact .inl (.inr ⟨rfl,h⟩)
theorem cb5{ops:Array Oper}{o:Oper}{rest:List Oper}{K:AS->Prop}{f:Operand}{as:Array Operand}{ts:Array TypeId}{id:Nat}{args:List AV}{env E7:List (Nat×Bool×AV)}{nt:Nat}{ps:List Tmp}{A A' B:Code}(aO:o.op= .call ⟨.value f,as,ts⟩)(hg:o.guard=none)
  (he:env=E7) (hA:A=A') (hf:σ.get true f=some (.kH id)) (ha:dZ (σ.get true) as.toList=some args) (hr:σ.H.get id=some (.cO env nt ps A B .ready none)) (hl:args.length=ps.length) (pM:ps.all (fun p=>decide (p<nt))=true)
  (h:AW P A' ⟨FN ps args E7,σ.H,nt⟩ (hold (MY P id env nt ps A B (hold (fun b H'=>b9 P true ops rest (({σ with H:=H'}:AS).put o.dst true (.c (.bool b))) K) ⟨⟩)) ⟨⟩)):b9 P true ops (o::rest) σ K:=by
 subst he hA
 show oR P true ops o σ _
 unfold oR;simp only[hg];unfold rG;simp only[aO];exact .inr ⟨id,args,env,nt,ps,A,B,hf,ha,hr,hl,pM,h⟩
theorem cb6{ops:Array Oper}{o:Oper}{rest:List Oper}{K:AS->Prop}{f:Operand}{as:Array Operand}{ts:Array TypeId}{id:Nat}{args:List AV}{env E7:List (Nat×Bool×AV)}{nt:Nat}{ps:List Tmp}{A A' B:Code}{j:Nat}{want:Bool}(aO:o.op= .call ⟨.value f,as,ts⟩)(hg:o.guard=some (j,want))
  (he:env=E7) (hA:A=A') (hw:qL (pT ops.toList j σ.env) want=some true) (hf:σ.get true f=some (.kH id)) (ha:dZ (σ.get true) as.toList=some args) (hr:σ.H.get id=some (.cO env nt ps A B .ready none)) (hl:args.length=ps.length) (pM:ps.all (fun p=>decide (p<nt))=true)
  (h:AW P A' ⟨FN ps args E7,σ.H,nt⟩ (hold (MY P id env nt ps A B (hold (fun b H'=>b9 P true ops rest (({σ with H:=H'}:AS).put o.dst true (.c (.bool b))) K) ⟨⟩)) ⟨⟩)):b9 P true ops (o::rest) σ K:=by
 subst he hA;refine cb4 hg hw ?_;unfold rG;simp only[aO];exact .inr ⟨id,args,env,nt,ps,A,B,hf,ha,hr,hl,pM,h⟩
theorem cb7{id:Nat}{env:List (Nat×Bool×AV)}{nt:Nat}{ps:List Tmp}{A B B':Code}{K:Bool->Heap->Prop}(hB:B=B')(hg:σ.H.get id=some (.cO env nt ps A B .ready none))
  (h:AW P B' ⟨σ.env,jX σ.H id (some (.cO env nt ps A B .busy none)),σ.nt⟩ (hold (HQ id env nt ps A B K) ⟨⟩)):MY P id env nt ps A B K .normal σ:=by
 subst hB;exact⟨_,_,_,_,_,hg,h⟩
theorem cb8{id:Nat}{env:List (Nat×Bool×AV)}{nt:Nat}{ps:List Tmp}{A B:Code}{ops:Array Oper}{rest:List Oper}{σ0:AS}{dst:Option Tmp}{K:AS->Prop}{p:AS×List Oper}(hg:σ.H.get id=some (.cO env nt ps A B .busy none))
  (hr:run P ops.toList rest (({σ0 with H:=jX σ.H id (some (.cO env nt ps A B .ready none))}:AS).put dst true (.c (.bool true)))=p) (h:b9 P true ops p.2 p.1 K):
  HQ id env nt ps A B (hold (fun b H'=>b9 P true ops rest (({σ0 with H:=H'}:AS).put dst true (.c (.bool b))) K) ⟨⟩) .normal σ:=⟨_,_,_,_,_,hg,pI _ _ hr h⟩
theorem cb9{id:Nat}{env:List (Nat×Bool×AV)}{nt:Nat}{ps:List Tmp}{A B:Code}{ops:Array Oper}{rest:List Oper}{σ0:AS}{dst:Option Tmp}{K:AS->Prop}{p:AS×List Oper}(hg:σ.H.get id=some (.cO env nt ps A B .busy none))
  (hr:run P ops.toList rest (({σ0 with H:=jX σ.H id (some (.cO env nt ps A B .done (some .ret)))}:AS).put dst true (.c (.bool false)))=p) (h:b9 P true ops p.2 p.1 K):
  HQ id env nt ps A B (hold (fun b H'=>b9 P true ops rest (({σ0 with H:=H'}:AS).put dst true (.c (.bool b))) K) ⟨⟩) .ret σ:=⟨_,_,_,_,_,hg,pI _ _ hr h⟩
theorem cc0{id:Nat}{env:List (Nat×Bool×AV)}{nt:Nat}{ps:List Tmp}{A B:Code}{ops:Array Oper}{rest:List Oper}{σ0:AS}{dst:Option Tmp}{K:AS->Prop}{p:AS×List Oper}{i:Nat}(hg:σ.H.get id=some (.cO env nt ps A B .busy none))
  (hr:run P ops.toList rest (({σ0 with H:=jX σ.H id (some (.cO env nt ps A B .done (some (.exit i))))}:AS).put dst true (.c (.bool false)))=p) (h:b9 P true ops p.2 p.1 K):
  HQ id env nt ps A B (hold (fun b H'=>b9 P true ops rest (({σ0 with H:=H'}:AS).put dst true (.c (.bool b))) K) ⟨⟩) (.exit i) σ:=⟨_,_,_,_,_,hg,pI _ _ hr h⟩
theorem cc1{Q:Exit->AS->Prop}{g:Operand}{ps:Array Tmp}{assign body:Code}{n:FuncId}{fn:Func}{c:Code}{first cap:List AV}{nt:Nat}{args:List AV}(hf:P.funcs[n]? =some fn)(hb:fn.body=some c)(fI:(fn.name== "runtime.NumGoroutine")=false)(cM:fn.ntmps=nt)
  (hg:σ.get true g=some (.fn (.func n) first cap)) (ha:first++[AV.kH σ.H.next]++cap=args) (hlen:args.length<=nt)
  (h:∀R A B,R=σ.env->A=assign->B=body->AW P c ⟨mB 0 args,jX ⟨σ.H.next+1,σ.H.get⟩ σ.H.next (some (.cO R σ.nt ps.toList A B .ready none)),nt⟩
    (hold (cH P fn.results.toList (hold (fun _ H'=>vB σ.H.next R σ.nt ps.toList A B (hold (fun e H2=>Q e ({σ with H:=H2}:AS)) ⟨⟩) H') ⟨⟩)) ⟨⟩)):AW P (.rangeFunc g ps assign body) σ Q:=by
 subst cM ha;exact ca5 hg hf hb fI hlen h
theorem IY{id:Nat}{env:List (Nat×Bool×AV)}{nt:Nat}{ps:List Tmp}{A B:Code}{Q:Exit->Heap->Prop}{H:Heap}(hg:H.get id=some (.cO env nt ps A B .ready none))(h:Q .normal (jX H id none)):vB id env nt ps A B Q H:=⟨_,_,_,_,_,_,_,hg,by simp,h⟩
theorem ax9{id:Nat}{env:List (Nat×Bool×AV)}{nt:Nat}{ps:List Tmp}{A B:Code}{Q:Exit->Heap->Prop}{H:Heap}(hg:H.get id=some (.cO env nt ps A B .done (some .ret)))(h:Q .ret (jX H id none)):vB id env nt ps A B Q H:=⟨_,_,_,_,_,_,_,hg,by simp,h⟩
theorem ay0{id:Nat}{env:List (Nat×Bool×AV)}{nt:Nat}{ps:List Tmp}{A B:Code}{Q:Exit->Heap->Prop}{H:Heap}{i:Nat}(hg:H.get id=some (.cO env nt ps A B .done (some (.exit i))))(h:Q (.exit i) (jX H id none)):vB id env nt ps A B Q H:=⟨_,_,_,_,_,_,_,hg,by simp,h⟩
end
attribute [go_sem] jX FN
end Go.AL
namespace Go.AL
open Go.RowKit
theorem bE.below{E:Env}{W W':World}{G:Nat->Option aI}(hG:RC E W G)(hb:Below W.heap.size W W'):bE E W E W'/\RC E W' G:=by
 have bG:∀b k,k<E.L b->b<W.heap.size:=fun b k hk=>by
  rcases oA b W.heap.size with h|h
  ·exact h
  ·have:=hG.lim b h;omega
 have hv:bE E W E W':=
  ⟨hb.os,hb.tape,hb.output,hb.size,fun _ h=>h,fun _ _=>⟨rfl,rfl⟩,fun b=>cE _,fun b k hk=>hb.cell (p:=⟨b,k,none⟩) (bG b k hk),fun b bY _=>hb.block b bY,fun b cur e f hc=>⟨cur,f,by rw[hb.block b (jG.1 hc).1];exact hc,rfl⟩,fun b bY _=>rfl,fun id h h'=>absurd h' h,fun b r h=>⟨r,by rw[hb.block b (jG.1 h).1];exact h,rfl⟩⟩
 refine⟨hv,fun b bY=>hG.lim b (s8 hb.size bY),fun id hU=>vF (hG.eL id hU) hb.size,fun id b hg=> ?_⟩
 obtain⟨hU,dO⟩:=hG.ok id b hg;exact⟨hU,dO.mono hv hU (hb.block _ (hG.eL id hU)) rfl fun aM b' _ cL vU=>⟨b',cL,vU,rfl,fun h=>h⟩⟩
end Go.AL
namespace Go.AL
section
variable {P : Program} {σ : AS} {rs : List ResultVar} {a : AV} {id : Nat} {env : List (Nat × Bool × AV)} {nt : Nat} {ps : List Tmp} {A B : Code} {Q : Exit -> AS -> Prop} {σ0 : AS}
theorem cc2(ho:jY P σ rs=some a)(hg:σ.H.get id=some (.cO env nt ps A B .ready none))(h:Q .normal ({σ0 with H:=jX σ.H id none}:AS)):
  cH P rs (hold (fun _ H'=>vB id env nt ps A B (hold (fun e H2=>Q e ({σ0 with H:=H2}:AS)) ⟨⟩) H') ⟨⟩) .normal σ:=by
 show p9 (jY P σ rs) _
 rw[ho];exact IY hg h
theorem cc3(ho:jY P σ rs=some a)(hg:σ.H.get id=some (.cO env nt ps A B .ready none))(h:Q .normal ({σ0 with H:=jX σ.H id none}:AS)):
  cH P rs (hold (fun _ H'=>vB id env nt ps A B (hold (fun e H2=>Q e ({σ0 with H:=H2}:AS)) ⟨⟩) H') ⟨⟩) .ret σ:=by
 show p9 (jY P σ rs) _
 rw[ho];exact IY hg h
theorem cc4(ho:jY P σ rs=some a)(hg:σ.H.get id=some (.cO env nt ps A B .done (some .ret)))(h:Q .ret ({σ0 with H:=jX σ.H id none}:AS)):
  cH P rs (hold (fun _ H'=>vB id env nt ps A B (hold (fun e H2=>Q e ({σ0 with H:=H2}:AS)) ⟨⟩) H') ⟨⟩) .normal σ:=by
 show p9 (jY P σ rs) _
 rw[ho];exact ax9 hg h
theorem cc5(ho:jY P σ rs=some a)(hg:σ.H.get id=some (.cO env nt ps A B .done (some .ret)))(h:Q .ret ({σ0 with H:=jX σ.H id none}:AS)):
  cH P rs (hold (fun _ H'=>vB id env nt ps A B (hold (fun e H2=>Q e ({σ0 with H:=H2}:AS)) ⟨⟩) H') ⟨⟩) .ret σ:=by
 show p9 (jY P σ rs) _
 rw[ho];exact ax9 hg h
theorem cc6{i:Nat}(ho:jY P σ rs=some a)(hg:σ.H.get id=some (.cO env nt ps A B .done (some (.exit i))))(h:Q (.exit i) ({σ0 with H:=jX σ.H id none}:AS)):
  cH P rs (hold (fun _ H'=>vB id env nt ps A B (hold (fun e H2=>Q e ({σ0 with H:=H2}:AS)) ⟨⟩) H') ⟨⟩) .normal σ:=by
 show p9 (jY P σ rs) _
 rw[ho];exact ay0 hg h
theorem cc7{i:Nat}(ho:jY P σ rs=some a)(hg:σ.H.get id=some (.cO env nt ps A B .done (some (.exit i))))(h:Q (.exit i) ({σ0 with H:=jX σ.H id none}:AS)):
  cH P rs (hold (fun _ H'=>vB id env nt ps A B (hold (fun e H2=>Q e ({σ0 with H:=H2}:AS)) ⟨⟩) H') ⟨⟩) .ret σ:=by
 show p9 (jY P σ rs) _
 rw[ho];exact ay0 hg h
end
end Go.AL
namespace Go.AL
open Go.RowKit Go.WideShapes Go.ChangeShapes
inductive Sh where
 |int (k:IntKind)
 |bool
 |str
 |sl (row:List Sh)
inductive sM:Sh->AV->Prop
 |int (k:IntKind) (n:Int) (h:(Lit.int k n).wf=true):sM (.int k) (.c (.int k n))
 |bool (b:Bool):sM .bool (.c (.bool b))
 |str (s:ByteArray) (h:s.size<=maxLen):sM .str (.c (.string s))
 |sl (row:List Sh) (rows:List (List AV)) (h1:rows.length<=maxLen) (h2:∀r∈rows,r.length=row.length) (h:∀r∈rows,∀(i:Nat) sh a,row[i]? =some sh->r[i]? =some a->sM sh a):sM (.sl row) (.snap rows)
def oQ(row:List Sh)(r:List AV):Prop:=r.length=row.length/\∀(i:Nat) sh a,row[i]? =some sh->r[i]? =some a->sM sh a
theorem sM.sl'{row:List Sh}{rows:List (List AV)}(h1:rows.length<=maxLen)(h:∀r∈rows,oQ row r):sM (.sl row) (.snap rows):= .sl row rows h1 (fun r hr=>(h r hr).1) fun r hr=>(h r hr).2
theorem oQ.nil:oQ [] []:=⟨rfl,fun i sh a h=>by simp at h⟩
theorem oQ.cons{s:Sh}{a:AV}{row:List Sh}{r:List AV}(h:sM s a)(hr:oQ row r):oQ (s::row) (a::r):=by
 refine⟨by simp[hr.1],fun i sh x h1 h2=> ?_⟩
 cases i with
 |zero=>simp at h1 h2;subst h1;subst h2;exact h
 |succ i=>exact hr.2 i sh x (by simpa using h1) (by simpa using h2)
theorem oQ.append{x y:List Sh}{r s:List AV}(h:oQ x r)(k:oQ y s):oQ (x++y) (r++s):=by
 refine⟨by simp[h.1,k.1],fun i sh a h1 h2=> ?_⟩
 by_cases hi:i<x.length
 ·rw[kG hi]at h1
  rw[kG (by rw[h.1];exact hi)]at h2
  exact h.2 i sh a h1 h2
 ·rw[k7 (by omega)]at h1
  rw[k7 (by rw[h.1];omega),h.1]at h2
  exact k.2 _ sh a h1 h2
theorem oQ.PU{s:Sh}{row:List Sh}{r:List AV}(h:oQ (s::row) r):∃a r',r=a::r'/\sM s a/\oQ row r':=by
 cases r with
 |nil=>have:=h.1;simp at this
 |cons a r'=>exact⟨a,r',rfl,h.2 0 s a rfl rfl,by have:=h.1;simpa using this,fun i sh x h1 h2=>h.2 (i+1) sh x (by simpa using h1) (by simpa using h2)⟩
theorem oQ.Ld{r:List AV}(h:oQ [] r):r=[]:=jQ h.1
theorem sM.cc8{row:List Sh}{a:AV}(h:sM (.sl row) a):∃rows,a= .snap rows/\rows.length<=maxLen/\∀r∈rows,oQ row r:=by
 cases h with
 |sl _ rows h1 h2 h=>exact⟨rows,rfl,h1,fun r hr=>⟨h2 r hr,h r hr⟩⟩
theorem sM.Bw{k:IntKind}{a:AV}(h:sM (.int k) a):∃n,a= .c (.int k n)/\(Lit.int k n).wf=true:=by
 cases h with
 |int _ n h=>exact⟨n,rfl,h⟩
def RS(P:Program)(g:TypeId->Option (List Sh)):Nat->List Field->Option (List Sh)
 |_,[]=>some []
 |o,f::r=>if f.offset=o then
    (match g f.type with
    |some x=>if x.length=P.cellsOf f.type then(RS P g (o+x.length) r).map (x++ ·)else none
    |none=>none)else none
def y9(P:Program):Nat->TypeId->Option (List Sh)
 |0,_=>none
 |f+1,t=>match P.underlying t with
  |some .bool=>some [.bool]
  |some (.int k)=>some [.int k]
  |some .string=>some [.str]
  |some (.slice e)=>(match y9 P f e with
   |some r=>if r.length=P.cellsOf e/\0<r.length then some [.sl r]else none
   |none=>none)
  |some (.struct fs)=>(match RS P (y9 P f) 0 fs.toList with
   |some r=>if r.length=P.cellsOf t then some r else none
   |none=>none)
  |some (.array n e)=>(match y9 P f e with
   |some r=>if r.length=P.cellsOf e/\P.cellsOf t=n*r.length then some (List.replicate n r).flatten else none
   |none=>none)
  |_=>none
theorem ay2{α:Type}{Q:Nat->α->Prop}:∀n,(∀i,i<n->∃x,Q i x)->∃l:List α,l.length=n/\∀(i:Nat) x,l[i]? =some x->Q i x
 |0,_=>⟨[],rfl,fun i x h=>by simp at h⟩
 |n+1,h=>by
  obtain⟨l,h1,h2⟩:=ay2 n fun i hi=>h i (by omega)
  obtain⟨x,hx⟩:=h n (by omega)
  refine⟨l++[x],by simp[h1],fun i y hy=> ?_⟩
  by_cases hi:i<n
  ·rw[kG (by omega)]at hy;exact h2 i y hy
  ·rw[k7 (by omega)]at hy
   have:i=n:=by have:=(dV.1 hy).1;simp at this;omega
   subst this;rw[h1]at hy;simp at hy;subst hy;exact hx
section
variable {P : Program} {H : Type} {enc : TypeId × Value -> H} {W : World} {base : Nat} {spare : Nat -> Bool} {held : Bool}
theorem cc9{b k:Nat}{v:Value}(h:W.cell? ⟨b,k,none⟩=some v):k<xD W b:=by
 unfold World.cell? at h;unfold xD;split at h
 ·rename_i c e f hb
  rw[hb];simp only[aH4,if_false]at h;exact(jG.1 h).1
 ·cases h
theorem cd0{b k:Nat}{s:Option Nat}{v:Value}(h:W.cell? ⟨b,k,s⟩=some v):s=none:=by
 unfold World.cell? at h;split at h
 ·split at h
  ·cases h
  ·rename_i hs;simpa using hs
 ·cases h
theorem ay3{f:Nat}(ih:∀(fuel:Nat) t cs x row,y9 P f t=some row->DataW.trod enc P W base spare held fuel t cs=some x->∃as,oQ row as/\bX (fM (xD W)) W as cs){cs:List Value}:
  ∀(fs:List Field) (o:Nat) (row:List Sh),RS P (y9 P f) o fs=some row->(∀g∈fs,∃fuel y,DataW.trod enc P W base spare held fuel g.type ((cs.drop g.offset).take (P.cellsOf g.type))=some y)->
   ∃as,oQ row as/\bX (fM (xD W)) W as ((cs.drop o).take row.length)
 |[],o,row,h,_=>by
  simp only[RS,bC]at h;subst h;exact⟨[],.nil,by simpa using bX.nil⟩
 |g::r,o,row,h,hg=>by
  simp only[RS]at h;split at h
  ·rename_i ho
   split at h
   ·rename_i x hx
    split at h
    ·rename_i hl
     cases hr:RS P (y9 P f) (o+x.length) r with
     |none=>rw[hr]at h;cases h
     |some y=>
      rw[hr]at h;injection h with h
      subst h;obtain⟨fuel,z,hz⟩:=hg g (by simp)
      obtain⟨as,h1,h2⟩:=ih _ _ _ _ _ hx hz;obtain⟨bs,h3,h4⟩:=ay3 ih r (o+x.length) y hr fun g' cL=>hg g' (by simp[cL])
      refine⟨as++bs,h1.append h3,?_⟩;have h5:=h2.append h4;rw[ho,<-hl]at h5
      have h6:(cs.drop o).take (x++y).length=(cs.drop o).take x.length++(cs.drop (o+x.length)).take y.length:=by
       rw[bP,List.take_add,O7]
      rw[h6];exact h5
    ·cases h
   ·cases h
  ·cases h
theorem ay4{f:Nat}{e:TypeId}{row:List Sh}(bH:y9 P f e=some row)(hl:row.length=P.cellsOf e)(ih:∀(fuel:Nat) t cs x row,y9 P f t=some row->DataW.trod enc P W base spare held fuel t cs=some x->∃as,oQ row as/\bX (fM (xD W)) W as cs){cs:List Value}{m:Nat}:
  ∀n,(∀i,i<n->∃y,DataW.trod enc P W base spare held m e ((cs.drop (i*P.cellsOf e)).take (P.cellsOf e))=some y)->
   ∃as,oQ (List.replicate n row).flatten as/\bX (fM (xD W)) W as (cs.take (n*row.length))
 |0,_=>⟨[],.nil,by simpa using bX.nil⟩
 |n+1,h=>by
  obtain⟨as,h1,h2⟩:=ay4 bH hl ih n fun i hi=>h i (by omega)
  obtain⟨y,hy⟩:=h n (by omega)
  obtain⟨bs,h3,h4⟩:=ih _ _ _ _ _ bH hy;refine⟨as++bs,?_,?_⟩
  ·rw[List.replicate_succ',List.flatten_append,List.flatten_singleton]
   exact h1.append h3
  ·have h5:=h2.append h4
   rw[<-hl]at h5;rw[vG,List.take_add];exact h5
theorem ay5:∀(f:Nat) (fuel:Nat) (t:TypeId) (cs:List Value) (x:DataW H×List MemPlace) (row:List Sh),y9 P f t=some row->DataW.trod enc P W base spare held fuel t cs=some x->∃as,oQ row as/\bX (fM (xD W)) W as cs
 |0,_,_,_,_,_,h,_=>by cases h
 |f+1,fuel,t,cs,x,row,h,ht=>by
  have ih:∀(fuel:Nat) t cs x row,y9 P f t=some row->DataW.trod enc P W base spare held fuel t cs=some x->∃as,oQ row as/\bX (fM (xD W)) W as cs:=ay5 f;simp only[y9]at h;split at h
  ·rename_i hu
   injection h with h;subst h
   obtain⟨b,rfl,_⟩:=DataW.trod_bool hu ht;exact⟨[.c (.bool b)],.cons (.bool b) .nil,.cons (.c _ rfl) .nil⟩
  ·rename_i k hu
   injection h with h;subst h
   obtain⟨n,rfl,_,hw⟩:=DataW.trod_int hu ht;exact⟨[.c (.int k n)],.cons (.int k n hw) .nil,.cons (.c _ rfl) .nil⟩
  ·rename_i hu
   injection h with h;subst h
   obtain⟨s,rfl,_,hw⟩:=DataW.trod_string hu ht;exact⟨[.c (.string s)],.cons (.str s hw) .nil,.cons (.c _ rfl) .nil⟩
  ·rename_i e hu
   split at h
   ·rename_i r hr
    split at h
    ·rename_i hl
     injection h with h;subst h
     rcases DataW.trod_slice hu ht with⟨rfl,_⟩|⟨a,len,cap,elems,rest,n,rfl,rfl,_,hb,eC,hcm,Df,bU,_⟩
     ·exact⟨[.snap []],.cons (.sl' (by simp) fun r hr=>by cases hr) .nil,.cons (.lV none 0) .nil⟩
     ·obtain⟨yU,cW⟩:=hl
      have bH:∀i,i<len->∃as,oQ r as/\∃Y0,W.cells? base (a.add (i*P.cellsOf e)) (P.cellsOf e)=some Y0/\bX (fM (xD W)) W as Y0:=fun i hi=>by
       have h1:=bU i hi;rw[eQ (by omega)]at h1
       cases hc:W.cells? base (a.add (i*P.cellsOf e)) (P.cellsOf e)with
       |none=>rw[hc]at h1;cases h1
       |some Y0=>
        rw[hc]at h1;obtain⟨as,h2,h3⟩:=ih _ _ _ _ _ hr h1;exact⟨as,h2,Y0,rfl,h3⟩
      obtain⟨rows,iR,dB⟩:=ay2 len bH
      have hcf:sM (.sl r) (.snap rows):= .sl' (by omega) fun q hq=>by
       obtain⟨i,hi⟩:=aG6 hq;exact(dB i q hi).1
      refine⟨[.snap rows],.cons hcf .nil,.cons ?_ .nil⟩;by_cases h0:len=0
      ·have:rows=[]:=jQ (by omega)
       subst this;subst h0;exact .lV _ _
      ·obtain⟨GH,off,spot⟩:=a
       have BO:∀(i j:Nat) q y,rows[i]? =some q->q[j]? =some y->∃v,W.cell? ((⟨GH,off,spot⟩:Addr).add (i*P.cellsOf e)|>.add j)=some v/\RV (fM (xD W)) W y v:=fun i j q y hq hy=>by
        obtain⟨_,Y0,h1,h2⟩:=dB i q hq;obtain⟨v,h3,h4⟩:=h2.get hy;refine⟨v,?_,h4⟩;unfold World.cells? at h1;split at h1
        ·have hj:j<P.cellsOf e:=by
          have:=mapM_some_length h1;have h5:=(dV.1 h3).1;simp at this;omega
         have h6:=mapM_some_get h1 j j (by simp[hj])
         rw[h6];exact h3
        ·cases h1
       have hlen:∀(i:Nat) q,rows[i]? =some q->q.length=P.cellsOf e:=fun i q hq=>by rw[(dB i q hq).1.1];exact yU
       obtain⟨q0,BY⟩:∃q,rows[0]? =some q:=⟨rows[0]'(by omega),eQ _⟩
       obtain⟨y0,hy0⟩:∃y,q0[0]? =some y:=⟨q0[0]'(by rw[hlen 0 q0 BY];omega),eQ _⟩
       have cd3:spot=none:=by
        obtain⟨v,h1,_⟩:=BO 0 0 q0 y0 BY hy0;rw[CN]at h1;exact cd0 (b:=GH) (k:=off) h1
       subst cd3
       have wP:∀i j,((⟨GH,off,none⟩:Addr).add (i*P.cellsOf e)|>.add j)=⟨GH,off+(i*P.cellsOf e+j),none⟩:=fun i j=>by
        unfold Addr.add;split<;>split<;>simp_all [s9]
       refine .snap rows GH off (P.cellsOf e) len cap (fun i j=>(W.cell? ⟨GH,off+(i*P.cellsOf e+j),none⟩).getD default) iR.symm eC (fun i q hq=>hlen i q hq) ?_ ?_ ?_
       ·obtain⟨ql,hql⟩:∃q,rows[len-1]? =some q:=⟨rows[len-1]'(by omega),eQ _⟩
        obtain⟨yl,Oi⟩:∃y,ql[P.cellsOf e-1]? =some y:=⟨ql[P.cellsOf e-1]'(by rw[hlen _ ql hql];omega),eQ _⟩
        obtain⟨v,h1,_⟩:=BO _ _ ql yl hql Oi;rw[wP]at h1;have h2:=cc9 h1
        show off+rows.length*P.cellsOf e<=xD W GH
        have h3:rows.length*P.cellsOf e=(len-1)*P.cellsOf e+P.cellsOf e:=by
         rw[iR,<-vG];congr 1;omega
        omega
       ·intro i j q y hq hy
        obtain⟨v,h1,_⟩:=BO i j q y hq hy;rw[wP]at h1;rw[h1];rfl
       ·intro i j q y hq hy
        obtain⟨v,h1,h2⟩:=BO i j q y hq hy;rw[wP]at h1;simp only[h1,vZ];exact h2
    ·cases h
   ·cases h
  ·rename_i fs hu
   split at h
   ·rename_i r hr
    split at h
    ·rename_i hl
     injection h with h;subst h
     obtain⟨xs,n,rfl,_,iE,pK,bU⟩:=DataW.trod_struct hu ht
     obtain⟨as,h1,h2⟩:=ay3 ih (cs:=cs) fs.toList 0 r hr fun g hg=>by
      obtain⟨i,hi⟩:=aG6 hg;have h3:=bU i g (by simpa using hi)
      have bG:i<xs.length:=by
       have:=(dV.1 hi).1;simp at this;omega
      exact⟨n,xs[i],by rw[h3];exact eQ bG⟩
     refine⟨as,h1,?_⟩;rw[CO,eD (by omega)]at h2
     exact h2
    ·cases h
   ·cases h
  ·rename_i n e hu
   split at h
   ·rename_i r hr
    split at h
    ·rename_i hl
     injection h with h;subst h
     obtain⟨xs,m,rfl,_,iE,pK,bU⟩:=DataW.trod_array hu ht
     obtain⟨as,h1,h2⟩:=ay4 hr hl.1 ih (cs:=cs) (m:=m) n fun i hi=>by
      exact⟨xs[i]'(by omega),by rw[bU i hi];exact eQ _⟩
     refine⟨as,h1,?_⟩;rw[eD (by omega)]at h2
     exact h2
    ·cases h
   ·cases h
  ·cases h
theorem Es{r:Go.Reach}{b0:Nat}{t:TypeId}{v:Value}{d:DataW H}{p:List MemPlace}{s:Sh}(f:Nat)(hs:y9 P f t=some [s])(hu:∀fs,P.underlying t≠some (.struct fs))(hu2:∀n e,P.underlying t≠some (.array n e))
  (hv:Value.okWide P W r b0 t v) (h:DataW.Trod enc P W base spare held t v d p):∃a,sM s a/\RV (fM (xD W)) W a v:=by
 obtain⟨fuel,h⟩:=h;obtain⟨as,h1,h2⟩:=ay5 _ _ _ _ _ _ hs h;obtain⟨a,r',rfl,h3,h4⟩:=h1.PU;obtain rfl:=h4.Ld;refine⟨a,h3,?_⟩
 have hc:v.cells= #[v]:=by
  unfold Value.okWide at hv;split at hv
  ·rename_i fs hf;exact absurd hf (hu fs)
  ·rename_i n e hf;exact absurd hf (hu2 n e)
  ·cases v with
   |agg cs=>
    exfalso;unfold Cell.okWide at hv;split at hv<;>first|contradiction|skip
    unfold Cell.ok at hv;split at hv<;>contradiction
   |_=>rfl
 rw[hc]at h2;exact h2.2 0 a v rfl rfl
end
theorem ay7{α:Type}{f:α->List AV}{p:α->Prop}{row:List Sh}(bH:∀r,oQ row r->∃x,p x/\r=f x):∀(rows:List (List AV)),(∀r∈rows,oQ row r)->∃l:List α,(∀x∈l,p x)/\rows=l.map f
 |[],_=>⟨[],(fun x h=>by cases h),rfl⟩
 |r::rs,h=>by
  obtain⟨x,hp,rfl⟩:=bH r (h r (by simp))
  obtain⟨l,h1,rfl⟩:=ay7 bH rs fun r hr=>h r (by simp[hr])
  exact⟨x::l,(fun y hy=>by rcases cG.1 hy with rfl|hy;exact hp;exact h1 y hy),rfl⟩
theorem ae5{α:Type}{f:α->List AV}{p:α->Prop}{row:List Sh}(bH:∀r,oQ row r->∃x,p x/\r=f x){a:AV}(h:sM (.sl row) a):∃l:List α,(∀x∈l,p x)/\l.length<=maxLen/\a= .snap (l.map f):=by
 obtain⟨rows,rfl,h1,h2⟩:=h.cc8;obtain⟨l,h3,rfl⟩:=ay7 bH rows h2;exact⟨l,h3,by simpa using h1,rfl⟩
end Go.AL
