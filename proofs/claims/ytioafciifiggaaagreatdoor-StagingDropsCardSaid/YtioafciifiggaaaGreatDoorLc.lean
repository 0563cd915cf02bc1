/- Staging: a layer over the walks (Lc). No condition but those named. -/
import Derived.Test.YtioafciifiggaaaGreatDoorLd
import Derived.LoopNIn
import Derived.IntWalk
import Derived.DataReads
import Derived.WideShapes
import Derived.ProofKit
import Derived.OpenShut
import Derived.ChangeArms
set_option linter.unusedVariables false
set_option linter.unusedSimpArgs false
namespace Go.AL
open Go.RowKit
def Rounds(P:Program)(c:Code)(Q:Exit→AS→Prop):Nat→AS→Prop
 |0,_=>False
 |n+1,σ=>AW P c σ (thenA (Rounds P c Q n) Q)
theorem rounds_monoA{F:Fence}{m:Nat}{P:Program}{c:Code}{Q Q':Exit→Act→World→Prop}(hq:∀e a w,Q e a w→Q' e a w):∀(n:Nat) {a:Act} {w:World},Code.roundsIn F m P c Q n a w→Code.roundsIn F m P c Q' n a w
 |0,_,_,h=>h.elim
 |n+1,a,w,h=>by
  rw[roundsIn_succ]at h⊢;refine wpIn_mono h fun e a' w' he=> ?_
  cases e with
  |normal=>exact rounds_monoA hq n he
  |_=>exact hq _ _ _ he
theorem rounds_ok{P:Program}{c:Code}{Q:Exit→AS→Prop}{ro:Option Nat}:∀(n:Nat) {σ:AS},Rounds P c Q n σ→∀{E:Env} {W:World} {act:Act},RoOK ro W→Rel E W σ act→Code.roundsIn (fen ro) 3 P c (fun e act' W'=>∃E' σ',Went E W act E' W' act'∧Rel E' W' σ' act'∧σ'.nt=σ.nt∧Q e σ') n act W
 |0,σ,h,_,_,_,_,_=>h.elim
 |n+1,σ,h,E,W,act,hro,hr=>by
  rw[roundsIn_succ];refine wpIn_mono (h ro E W act hro hr) fun e a w ⟨E',σ',h1,h2,h3,h4⟩=> ?_
  cases e with
  |normal=>
   have:=rounds_ok n h4 (hro.mono h1.evo) h2;refine rounds_monoA ?_ n this;exact fun e' a' w' ⟨E'',σ'',h5,h6,h7,h8⟩=>⟨E'',σ'',h1.trans h5,h6,h7.trans h3,h8⟩
  |_=>exact⟨E',σ',h1,h2,h3,h4⟩
theorem w_rounds{P:Program}{c:Code}{σ:AS}{Q:Exit→AS→Prop}(n:Nat)(h:Rounds P c Q n σ):AW P (.loop c) σ Q:=fun ro E W act hro hr=>wpIn_loop_rounds n (rounds_ok n h hro hr)
theorem w_round{P:Program}{c:Code}{σ:AS}{Q:Exit→AS→Prop}{n:Nat}(h:AW P c σ (thenA (Rounds P c Q n) Q)):Rounds P c Q (n+1) σ:=h
theorem w_condT{P:Program}{σ:AS}{Q:Exit→AS→Prop}{c:Operand}{x y:Code}(hc:asB (σ.get true c)=some true)(h:AW P x σ Q):AW P (.cond c x y) σ Q:=aw_cond (asB_out hc) (fun _=>h) (fun h=>by cases h)
theorem w_condF{P:Program}{σ:AS}{Q:Exit→AS→Prop}{c:Operand}{x y:Code}(hc:asB (σ.get true c)=some false)(h:AW P y σ Q):AW P (.cond c x y) σ Q:=aw_cond (asB_out hc) (fun h=>by cases h) (fun _=>h)
end Go.AL
namespace Go.AL
open Go.RowKit
inductive Wk:AV→AV→Prop
 |refl (a:AV):Wk a a
 |nil {a:Option Addr} {cap:Nat}:Wk (.c (.slice a 0 cap)) (.snap [])
 |agg (xs ys:List AV) (hl:xs.length=ys.length) (h:∀(i:Nat) x y,xs[i]? =some x→ys[i]? =some y→Wk x y):Wk (.agg xs) (.agg ys)
 |tup (xs ys:List AV) (hl:xs.length=ys.length) (h:∀(i:Nat) x y,xs[i]? =some x→ys[i]? =some y→Wk x y):Wk (.tup xs) (.tup ys)
 |sptr (rows rows':List (List AV)) (i o:Nat) (hl:rows.length=rows'.length) (hl2:∀(k:Nat) a b,rows[k]? =some a→rows'[k]? =some b→a.length=b.length)
   (h:∀(k j:Nat) a b x y,rows[k]? =some a→rows'[k]? =some b→a[j]? =some x→b[j]? =some y→Wk x y):Wk (.sptr rows i o) (.sptr rows' i o)
 |snap (rows rows':List (List AV)) (hl:rows.length=rows'.length) (hl2:∀(k:Nat) a b,rows[k]? =some a→rows'[k]? =some b→a.length=b.length)
   (h:∀(k j:Nat) a b x y,rows[k]? =some a→rows'[k]? =some b→a[j]? =some x→b[j]? =some y→Wk x y):Wk (.snap rows) (.snap rows')
def Wks(xs ys:List AV):Prop:=xs.length=ys.length∧∀(i:Nat) x y,xs[i]? =some x→ys[i]? =some y→Wk x y
theorem wks_nil:Wks [] []:=⟨rfl,fun i x y h=>by simp at h⟩
theorem wks_refl(xs:List AV):Wks xs xs:=⟨rfl,fun i x y h h'=>by rw[h]at h';injection h' with h';subst h';exact .refl x⟩
theorem wks_cons{x y:AV}{xs ys:List AV}(h:Wk x y)(hs:Wks xs ys):Wks (x::xs) (y::ys):=by
 refine⟨by simp[hs.1],fun i a b h1 h2=> ?_⟩
 cases i with
 |zero=>simp at h1 h2;subst h1 h2;exact h
 |succ i=>exact hs.2 i a b (by simpa using h1) (by simpa using h2)
theorem wk_agg{xs ys:List AV}(h:Wks xs ys):Wk (.agg xs) (.agg ys):= .agg xs ys h.1 h.2
theorem wk_tup{xs ys:List AV}(h:Wks xs ys):Wk (.tup xs) (.tup ys):= .tup xs ys h.1 h.2
theorem RV.wk{E:Env}{W:World}{a b:AV}(h:Wk a b):∀{v:Value},RV E W a v→RV E W b v:=by
 induction h with
 |refl a=>exact fun r=>r
 |nil=>intro v r;cases r;exact .snap0 _ _
 |agg xs ys hl h ih=>
  intro v r;cases r with
  |agg _ vs hl' hr=>
  refine .agg ys vs (hl▸hl') fun i y v hy hv=> ?_
  obtain⟨x,hx⟩:∃x,xs[i]? =some x:=⟨xs[i]'(by have:=(List.getElem?_eq_some_iff.1 hy).1;omega),by simp⟩
  exact ih i x y hx hy (hr i x v hx hv)
 |tup xs ys hl h ih=>
  intro v r;cases r with
  |tup _ vs hl' hr=>
  refine .tup ys vs (hl▸hl') fun i y v hy hv=> ?_
  obtain⟨x,hx⟩:∃x,xs[i]? =some x:=⟨xs[i]'(by have:=(List.getElem?_eq_some_iff.1 hy).1;omega),by simp⟩
  exact ih i x y hx hy (hr i x v hx hv)
 |sptr rows rows' i o hl hl2 h ih=>
  intro v r;cases r with
  |sptr _ _ _ b off s vs hs hL hc hr=>
  have get:∀(k:Nat) row',rows'[k]? =some row'→∃row,rows[k]? =some row∧row.length=row'.length:=fun k row' h2=>by
   have hk:k<rows.length:=by have:=(List.getElem?_eq_some_iff.1 h2).1;omega
   exact⟨rows[k],List.getElem?_eq_getElem hk,hl2 k _ _ (List.getElem?_eq_getElem hk) h2⟩
  have get2:∀(k j:Nat) row' y,rows'[k]? =some row'→row'[j]? =some y→∃row x,rows[k]? =some row∧row[j]? =some x:=fun k j row' y h2 h3=>by
   obtain⟨row,h4,h5⟩:=get k row' h2;have hj:j<row.length:=by have:=(List.getElem?_eq_some_iff.1 h3).1;omega
   exact⟨row,row[j],h4,List.getElem?_eq_getElem hj⟩
  refine .sptr rows' i o b off s vs (fun k row' h2=> ?_) (hl▸hL) (fun k j row' y h2 h3=> ?_) (fun k j row' y h2 h3=> ?_)
  ·obtain⟨row,h4,h5⟩:=get k row' h2
   rw[←h5];exact hs k row h4
  ·obtain⟨row,x,h4,h5⟩:=get2 k j row' y h2 h3
   exact hc k j row x h4 h5
  ·obtain⟨row,x,h4,h5⟩:=get2 k j row' y h2 h3
   exact ih k j row row' x y h4 h2 h5 h3 (hr k j row x h4 h5)
 |snap rows rows' hl hl2 h ih=>
  intro v r
  have get:∀(k:Nat) row',rows'[k]? =some row'→∃row,rows[k]? =some row∧row.length=row'.length:=fun k row' h2=>by
   have hk:k<rows.length:=by have:=(List.getElem?_eq_some_iff.1 h2).1;omega
   exact⟨rows[k],List.getElem?_eq_getElem hk,hl2 k _ _ (List.getElem?_eq_getElem hk) h2⟩
  have get2:∀(k j:Nat) row' y,rows'[k]? =some row'→row'[j]? =some y→∃row x,rows[k]? =some row∧row[j]? =some x:=fun k j row' y h2 h3=>by
   obtain⟨row,h4,h5⟩:=get k row' h2;have hj:j<row.length:=by have:=(List.getElem?_eq_some_iff.1 h3).1;omega
   exact⟨row,row[j],h4,List.getElem?_eq_getElem hj⟩
  cases r with
  |snap0 a cap=>
   have:rows'=[]:=List.length_eq_zero_iff.1 hl.symm;subst this;exact .snap0 _ _
  |snap _ b off s n cap vs hn hcap hs hL hc hr=>
  refine .snap rows' b off s n cap vs (hl▸hn) hcap (fun k row' h2=> ?_) (hl▸hL) (fun k j row' y h2 h3=> ?_) (fun k j row' y h2 h3=> ?_)
  ·obtain⟨row,h4,h5⟩:=get k row' h2
   rw[←h5];exact hs k row h4
  ·obtain⟨row,x,h4,h5⟩:=get2 k j row' y h2 h3
   exact hc k j row x h4 h5
  ·obtain⟨row,x,h4,h5⟩:=get2 k j row' y h2 h3
   exact ih k j row row' x y h4 h2 h5 h3 (hr k j row x h4 h5)
def Wkr(xs ys:List (List AV)):Prop:=xs.length=ys.length∧∀(k:Nat) a b,xs[k]? =some a→ys[k]? =some b→Wks a b
theorem wkr_nil:Wkr [] []:=⟨rfl,fun i x y h=>by simp at h⟩
theorem wkr_cons{x y:List AV}{xs ys:List (List AV)}(h:Wks x y)(hs:Wkr xs ys):Wkr (x::xs) (y::ys):=by
 refine⟨by simp[hs.1],fun i a b h1 h2=> ?_⟩
 cases i with
 |zero=>simp at h1 h2;subst h1 h2;exact h
 |succ i=>exact hs.2 i a b (by simpa using h1) (by simpa using h2)
theorem wk_snap{xs ys:List (List AV)}(h:Wkr xs ys):Wk (.snap xs) (.snap ys):=
 .snap xs ys h.1 (fun k a b h1 h2=>(h.2 k a b h1 h2).1) (fun k j a b x y h1 h2 h3 h4=>(h.2 k a b h1 h2).2 j x y h3 h4)
theorem PCall.wk{P:Program}{n:FuncId}{args:List AV}{b:AV}(h:PCall P n args (Wk · b))(hn:NoId b):PCall P n args (·=b):=
 ⟨h.1,fun L W vs hL hr=>(h.2 L W vs hL hr).mono fun e W' ⟨v,he,r,L',h1,h2,h3,h4,h5,h6⟩=>⟨v,he,b,L',h1,h2,h3,h4.wk h6,hn,rfl⟩⟩
theorem dec_ltT{a b:Int}(h:a<b):decide (a<b)=true:=by simp[h]
theorem dec_ltF{a b:Int}(h:¬a<b):decide (a<b)=false:=by simp[h]
theorem dec_leT{a b:Int}(h:a≤b):decide (a≤b)=true:=by simp[h]
theorem dec_leF{a b:Int}(h:¬a≤b):decide (a≤b)=false:=by simp[h]
theorem bne_T{a b:Int}(h:a≠b):(a !=b)=true:=by simp[h]
theorem bne_F{a b:Int}(h:a=b):(a !=b)=false:=by simp[h]
theorem beq_T{a b:Int}(h:a=b):(a==b)=true:=by simp[h]
theorem beq_F{a b:Int}(h:a≠b):(a==b)=false:=by simp[h]
end Go.AL
namespace Go.AL
open Go.RowKit
def plainOp:Op→Bool
 | .call ⟨.value _,_,_⟩=>false
 | .pick _ _ _=>false
 |_=>true
section
variable {P : Program} {σ : AS}
theorem aopx_plain{o:Oper}{K:AS→Prop}(hop:plainOp o.op=true){a:AV}{wr:List (Nat×Option Blk)}{rd:List Nat}(hres:res P (σ.get true) σ.H.get σ.H.next o=some (a,wr,rd))
  (hk:K (({σ with H:=σ.H.app wr}:AS).put o.dst true a)):aopx P o σ K:=by
 unfold aopx;split
 ·rename_i f as ts h;rw[h]at hop;cases hop
 ·rename_i b x y h;rw[h]at hop;cases hop
 ·rename_i x h;rw[res_next h]at hres;cases hres
 ·rw[hres,bindK_some];exact hk
theorem w_gT{ops:Array Oper}{o:Oper}{rest:List Oper}{K:AS→Prop}{p:AS×List Oper}{j:Nat}{want:Bool}{a:AV}{wr:List (Nat×Option Blk)}{rd:List Nat}(hop:plainOp o.op=true)(hg:o.guard=some (j,want))
  (hw:gcond (gval ops.toList j σ.env) want=some true) (hres:res P (σ.get true) σ.H.get σ.H.next o=some (a,wr,rd)) (hr:run P ops.toList rest (({σ with H:=σ.H.app wr}:AS).put o.dst true a)=p) (h:aops P true ops p.2 p.1 K):aops P true ops (o::rest) σ K:=by
 show aop P true ops o σ _
 unfold aop;simp only[hg];rw[hw,bindK_some];simp only[hold];refine .inr ?_;unfold aopg0;split
 ·rename_i f as ts h;rw[h]at hop;cases hop
 ·rename_i b x y h;rw[h]at hop;cases hop
 ·have hx:aopx P o σ fun σ'=>aops P true ops rest σ' K:=aopx_plain hop hres (run_ok _ _ hr h)
  cases hpt:parts o.op with
  |true=>simp only[if_true,altK,hold];exact⟨fun _=>hx,fun h=>by cases h⟩
  |false=>
   simp only[Bool.false_eq_true,if_false,hres];cases wr with
   |nil=>simp only[resP,altK];exact run_ok _ _ hr h
   |cons w r=>simp only[resP,altK,hold];exact⟨fun _=>hx,fun h=>by cases h⟩
def skipF(ops:List Oper):List Oper→AS→Option (AS×List Oper)
 |[],σ=>some (σ,[])
 |o::r,σ=>skipG (skipF ops r) ops σ o r o.guard
where
 skipK (f:AS→Option (AS×List Oper)) (σ:AS) (o:Oper) (r:List Oper):Option Bool→Option (AS×List Oper)
  |some c=>cond c (some (σ,o::r)) (f (σ.put o.dst false (.c (.bool false))))
  |none=>some (σ,o::r)
 skipG (f:AS→Option (AS×List Oper)) (ops:List Oper) (σ:AS) (o:Oper) (r:List Oper):Option (Nat×Bool)→Option (AS×List Oper)
  |some (j,want)=>skipK f σ o r (gcond (gval ops j σ.env) want)
  |none=>some (σ,o::r)
theorem skip_ok{ops:Array Oper}{K:AS→Prop}:∀(l:List Oper) (σ:AS) {p:AS×List Oper},skipF ops.toList l σ=some p→aops P true ops p.2 p.1 K→aops P true ops l σ K
 |[],σ,p,h,hk=>by simp only[skipF]at h;injection h with h;subst h;exact hk
 |o::r,σ,p,h,hk=>by
  simp only[skipF]at h;unfold skipF.skipG at h;split at h
  ·rename_i j want hg
   unfold skipF.skipK at h;split at h
   ·rename_i c hc
    cases c with
    |true=>simp only[cond]at h;injection h with h;subst h;exact hk
    |false=>
     simp only[cond]at h
     show aop P true ops o σ _
     unfold aop;simp only[hg];rw[hc,bindK_some];exact .inl (.inl ⟨rfl,skip_ok r _ h hk⟩)
   ·injection h with h;subst h;exact hk
  ·injection h with h;subst h;exact hk
theorem w_gF{ops:Array Oper}{o:Oper}{rest:List Oper}{K:AS→Prop}{p q:AS×List Oper}{j:Nat}{want:Bool}(hg:o.guard=some (j,want))
  (hw:gcond (gval ops.toList j σ.env) want=some false) (hs:skipF ops.toList rest (σ.put o.dst false (.c (.bool false)))=some q)
  (hr:run P ops.toList q.2 q.1=p) (h:aops P true ops p.2 p.1 K):aops P true ops (o::rest) σ K:=by
 show aop P true ops o σ _
 unfold aop;simp only[hg];rw[hw,bindK_some];exact .inl (.inl ⟨rfl,skip_ok _ _ hs (run_ok _ _ hr h)⟩)
theorem aopx_pick{o:Oper}{K:AS→Prop}{b x y:Operand}{b0:Bool}{a:AV}(hop:o.op= .pick b x y)(hb:asB (σ.get true b)=some b0)(hn:pairB (asB (σ.get b0 x)) (asB (σ.get (!b0) y))=none)(ha:σ.get true (cond b0 x y)=some a)(hk:K (σ.put o.dst true a)):aopx P o σ K:=by
 unfold aopx;simp only[hop];rw[hb,bindK_some];simp only[hold];rw[hn];refine⟨fun h=> ?_,fun h=> ?_⟩<;>subst h<;>simp only[cond]at ha<;>rw[ha,bindK_some]<;>exact hk
theorem w_pick{ops:Array Oper}{o:Oper}{rest:List Oper}{K:AS→Prop}{p:AS×List Oper}{b x y:Operand}{b0:Bool}{a:AV}(hop:o.op= .pick b x y)(hg:o.guard=none)
  (hb:asB (σ.get true b)=some b0) (hn:pairB (asB (σ.get b0 x)) (asB (σ.get (!b0) y))=none) (ha:σ.get true (cond b0 x y)=some a) (hr:run P ops.toList rest (σ.put o.dst true a)=p) (h:aops P true ops p.2 p.1 K):aops P true ops (o::rest) σ K:=by
 show aop P true ops o σ _
 unfold aop;simp only[hg];exact aopx_pick hop hb hn ha (run_ok _ _ hr h)
end
attribute [go_sem] skipF skipF.skipK skipF.skipG plainOp
end Go.AL
namespace Go.AL
open Go.RowKit
section
variable {P : Program} {σ : AS}
theorem w_callX{ops:Array Oper}{o:Oper}{rest:List Oper}{K:AS→Prop}{f:Operand}{as:Array Operand}{ts:Array TypeId}{n:FuncId}{args0 args:List AV}{r:AV}{G':Nat→Option Blk}{p:AS×List Oper}(hop:o.op= .call ⟨.value f,as,ts⟩)(hg:o.guard=none)
  (hp:PCall P n args (·=r)) (hc:calleeA (σ.get true f) (getsA (σ.get true) as.toList)=some (n,args0)) (he:args0.map (expo2 σ.H.get)=args) (hn:∀a∈args,NoId a) (hG:frz σ.H.get (idsAll ids2 args0)=G')
  (hr:run P ops.toList rest (({σ with H:=⟨σ.H.next,G'⟩}:AS).put o.dst true r)=p) (h:aops P true ops p.2 p.1 K):aops P true ops (o::rest) σ K:=by
 show aop P true ops o σ _
 unfold aop;simp only[hg];unfold aopx;simp only[hop];refine .inl ?_;rw[hc,bindK_some];refine ACall.pureX hp he hn fun r' _ hr'=> ?_
 subst hr';rw[hG];exact run_ok _ _ hr h
theorem w_callXG{ops:Array Oper}{o:Oper}{rest:List Oper}{K:AS→Prop}{f:Operand}{as:Array Operand}{ts:Array TypeId}{n:FuncId}{args0 args:List AV}{r:AV}{G':Nat→Option Blk}{p:AS×List Oper}{j:Nat}{want:Bool}(hop:o.op= .call ⟨.value f,as,ts⟩)(hg:o.guard=some (j,want))
  (hp:PCall P n args (·=r)) (hw:gcond (gval ops.toList j σ.env) want=some true) (hc:calleeA (σ.get true f) (getsA (σ.get true) as.toList)=some (n,args0)) (he:args0.map (expo2 σ.H.get)=args) (hn:∀a∈args,NoId a) (hG:frz σ.H.get (idsAll ids2 args0)=G')
  (hr:run P ops.toList rest (({σ with H:=⟨σ.H.next,G'⟩}:AS).put o.dst true r)=p) (h:aops P true ops p.2 p.1 K):aops P true ops (o::rest) σ K:=by
 show aop P true ops o σ _
 unfold aop;simp only[hg];rw[hw,bindK_some];simp only[hold];refine .inl (.inr ⟨rfl,?_⟩);unfold aopx;simp only[hop];refine .inl ?_;rw[hc,bindK_some];refine ACall.pureX hp he hn fun r' _ hr'=> ?_
 subst hr';rw[hG];exact run_ok _ _ hr h
theorem w_callA{ops:Array Oper}{o:Oper}{rest:List Oper}{K:AS→Prop}{f:Operand}{as:Array Operand}{ts:Array TypeId}{n:FuncId}{args:List AV}{Q:AV→Heap→Prop}(hop:o.op= .call ⟨.value f,as,ts⟩)(hg:o.guard=none)
  (hc:calleeA (σ.get true f) (getsA (σ.get true) as.toList)=some (n,args)) (hp:ACall P n args σ.H Q) (h:∀r H',Q r H'→aops P true ops rest (({σ with H:=H'}:AS).put o.dst true r) K):aops P true ops (o::rest) σ K:=by
 show aop P true ops o σ _
 unfold aop;simp only[hg];unfold aopx;simp only[hop];refine .inl ?_;rw[hc,bindK_some];exact hp.mono fun r H' hq=>h r H' hq
end
attribute [go_sem] ids1 ids2 idsAll frzB frz_nil frz_cons
end Go.AL
namespace Go.AL
open Go.RowKit
section
variable {P : Program} {σ : AS}
theorem RVs.wk{E:Env}{W:World}{as bs:List AV}{vs:List Value}(h:Wks as bs)(r:RVs E W as vs):RVs E W bs vs:=
 ⟨h.1▸r.1,fun i y v hy hv=>by
   obtain⟨x,hx⟩:∃x,as[i]? =some x:=⟨as[i]'(by have:=(List.getElem?_eq_some_iff.1 hy).1;have:=h.1;omega),by simp⟩
   exact(r.2 i x v hx hv).wk (h.2 i x y hx hy)⟩
theorem PCall.less{n:FuncId}{as bs:List AV}{Q:AV→Prop}(h:PCall P n bs Q)(hw:Wks as bs):PCall P n as Q:=
 ⟨h.1,fun L W vs hL hr=>h.2 L W vs hL (hr.wk hw)⟩
end
theorem wks_mid{xs ys:List AV}:Wks (xs++ .c (.slice none 0 0)::ys) (xs++ .snap []::ys):=by
 refine⟨by simp,fun i x y hx hy=> ?_⟩
 rcases Nat.lt_trichotomy i xs.length with h|h|h
 ·rw[List.getElem?_append_left h]at hx hy
  rw[hx]at hy;injection hy with hy;subst hy;exact .refl _
 ·subst h
  simp at hx hy;subst hx hy;exact .nil
 ·obtain⟨d,rfl⟩:∃d,i=xs.length+(d+1):=⟨i-xs.length-1,by omega⟩
  rw[List.getElem?_append_right (by omega)]at hx hy
  simp only[Nat.add_sub_cancel_left,List.getElem?_cons_succ]at hx hy;rw[hx]at hy;injection hy with hy;subst hy;exact .refl _
end Go.AL
namespace Go.AL
open Go.RowKit
def capOf(W:World)(b:Nat):Nat:=match W.heap[b]? with
 |some (.cells cur _ _)=>cur.size
 |_=>0
theorem capOf_out(W:World)(b:Nat)(h:W.heap.size≤b):capOf W b=0:=by
 unfold capOf;rw[Array.getElem?_eq_none h]
theorem PCall.calls{P:Program}{n:FuncId}{args:List AV}{x:Value}(h:PCall P n args (·= .c x))(W:World)(vs:List Value)(hr:RVs (Env0 (capOf W)) W args vs):
  Calls P n vs.toArray W fun e W'=>e= .returned x∧Below W.heap.size W W':=
 (h.2 (capOf W) W vs (capOf_out W) hr).mono fun e W' ⟨v,he,r,L',hb,_,_,hrv,_,hq⟩=>by
   subst hq;cases hrv;exact⟨he,hb⟩
end Go.AL
namespace Go.AL
attribute [go_sem] Nat.reduceEqDiff Nat.reduceAdd Nat.reduceSub Nat.reduceMul Nat.reduceLT Nat.reduceLeDiff reduceCtorEq Int.reduceToNat Int.reduceLT Int.reduceLE Nat.reduceBEq Nat.reduceBNe IntWalk.iteOmega IntWalk.toNatUp Nat.zero_add Nat.add_zero Int.reduceAdd Int.reduceSub Int.reduceMul Int.reduceNeg IntWalk.i64_in IntWalk.u8_in IntWalk.rem_in Int.reduceBEq Int.reduceBNe Int.zero_add Int.toNat_zero Nat.zero_mul Nat.mul_one Nat.one_mul
attribute [go_sem] resRange resEntry anyKeyB avK constsA keyA isAggV sameI isI64 List.getLast?_concat resLookup resMapUpdate lookM putM isKeyB keysB sameK List.all_cons List.all_nil Option.getD_some Option.getD_none Option.isSome_some Option.isSome_none
attribute [go_sem ↓] reduceIte
end Go.AL
namespace Go.AL
open Go.RowKit
abbrev zV(x:Int):AV:= .c (.int .i64 x)
abbrev bV(b:Bool):AV:= .c (.bool b)
class RowEnc{α:Type}(f:α→List AV)(k:outParam Nat):Prop where
 len:∀a,(f a).length=k
 one:∀a,(f a).all AV.one=true
 noId:∀a,∀x∈f a,NoId x
def encL{α:Type}(f:α→List AV)(l:List α):List (List AV):=l.map f
section
variable {α : Type} {f : α → List AV} {k : Nat}
theorem encL_len(l:List α):(encL f l).length=l.length:=by simp[encL]
theorem encL_nil:encL f []=[]:=rfl
theorem encL_get(d:α){l:List α}{i:Nat}(h:i<l.length):(encL f l)[i]? =some (f (l.getD i d)):=by
 simp[encL,h]
theorem encL_take(l:List α)(n:Nat):(encL f l).take n=encL f (l.take n):=by simp[encL]
theorem encL_drop(l:List α)(n:Nat):(encL f l).drop n=encL f (l.drop n):=by simp[encL]
theorem encL_app(a b:List α):encL f a++encL f b=encL f (a++b):=by simp[encL]
theorem encL_snoc(a:List α)(x:α):encL f a++[f x]=encL f (a++[x]):=by simp[encL]
theorem encL_set(l:List α)(i:Nat)(x:α):(encL f l).set i (f x)=encL f (l.set i x):=by simp[encL,List.map_set]
theorem encL_one(x:α):[f x]=encL f [x]:=rfl
theorem encL_repl(n:Nat)(x:α):List.replicate n (f x)=encL f (List.replicate n x):=by simp[encL]
theorem encL_isEmpty(l:List α):(encL f l).isEmpty=l.isEmpty:=by simp[encL]
theorem encL_all[h:RowEnc f k](l:List α):(encL f l).all (fun r=>r.length==k&&r.all AV.one)=true:=by
 simp only[encL,List.all_map,List.all_eq_true,Function.comp,Bool.and_eq_true,beq_iff_eq];exact fun x _=>⟨h.len x,List.all_eq_true.1 (h.one x)⟩
theorem encL_row[h:RowEnc f k](l:List α):(encL f l).all (fun r=>r.length==k)=true:=by
 simp only[encL,List.all_map,List.all_eq_true,Function.comp,beq_iff_eq];exact fun x _=>h.len x
theorem encL_ids[h:RowEnc f k](l:List α):∀row∈encL f l,∀x∈row,NoId x:=by
 intro row hr x hx;simp only[encL,List.mem_map]at hr;obtain⟨a,_,rfl⟩:=hr;exact h.noId a x hx
theorem encL_noId[h:RowEnc f k](l:List α):NoId (.snap (encL f l)):=noId_snap.2 (encL_ids l)
theorem encL_noIdE[h:RowEnc f k](l:List α):(∀row,row∈encL f l→∀x,x∈row→NoId x)=True:=eq_true (encL_ids l)
theorem isEmpty_f{β:Type}{l:List β}(h:l≠[]):l.isEmpty=false:=by cases l<;>simp_all
theorem getD_mem'(d:α){l:List α}{i:Nat}(h:i<l.length):l.getD i d∈l:=by
 rw[List.getD_eq_getElem?_getD,List.getElem?_eq_getElem h];exact List.getElem_mem h
end
def intRow(x:Int):List AV:=[zV x]
instance :RowEnc intRow 1:=⟨fun _=>rfl,fun _=>rfl,fun _ x hx=>by simp[intRow]at hx;subst hx;exact .c _⟩
def boolRow(x:Bool):List AV:=[bV x]
instance :RowEnc boolRow 1:=⟨fun _=>rfl,fun _=>rfl,fun _ x hx=>by simp[boolRow]at hx;subst hx;exact .c _⟩
theorem ints_snocE(a:List Int)(x:Int):encL intRow a++[[zV x]]=encL intRow (a++[x]):=encL_snoc a x
theorem bools_setE(l:List Bool)(i:Nat)(x:Bool):(encL boolRow l).set i [bV x]=encL boolRow (l.set i x):=encL_set l i x
theorem bools_repl(n:Nat)(x:Bool):List.replicate n [bV x]=encL boolRow (List.replicate n x):=encL_repl (f:=boolRow) n x
attribute [go_sem] encL_len encL_take encL_drop encL_app encL_isEmpty encL_all encL_row encL_noId encL_noIdE ints_snocE bools_setE bools_repl intRow boolRow List.length_append List.length_set List.append_nil Int.toNat_natCast Nat.sub_zero Int.sub_zero
end Go.AL
namespace Go.AL
open Go.RowKit
section
variable {P : Program} {σ : AS}
theorem d_callX{ops:List Oper}{N0 i:Nat}{o:Oper}{r:List Oper}{σ σ'':AS}{es:List Entry}{f:Operand}{as:Array Operand}{ts:Array TypeId}{n:FuncId}{args0 args:List AV}{a:AV}{wr:List (Nat×Option Blk)}{rd:List Nat}(hop:o.op= .call ⟨.value f,as,ts⟩)(hg:o.guard=none)
  (hp:PCall P n args (·=a)) (hc:calleeA (σ.get true f) (getsA (σ.get true) as.toList)=some (n,args0)) (he:args0.map (expo2 σ.H.get)=args) (hn:∀a∈args,NoId a) (hrd:idsAll ids2 args0=rd) (hw:(rd.map fun id=>(id,frzB (σ.H.get id)))=wr) (h:DRun P ops N0 (i+1) r (σ.app o.dst ⟨true,a,wr,rd⟩) es σ''):
  DRun P ops N0 i (o::r) σ (⟨true,a,wr,rd⟩::es) σ'':=
 .cons i o r σ _ es σ'' (.callx f as ts n args0 args hop (by unfold gOK;rw[hg]) rfl hc he hn hp (.inl (by rw[hrd];exact hw.symm)) (fun id hid=>by rw[←hrd];exact hid)) h
theorem d_callO{ops:List Oper}{N0 i:Nat}{o:Oper}{r:List Oper}{σ σ'':AS}{es:List Entry}{f:Operand}{as:Array Operand}{ts:Array TypeId}{n:FuncId}{args:List AV}{el:TypeId}{k:Nat}{rows:List (List AV)}(hop:o.op= .call ⟨.value f,as,ts⟩)(hg:o.guard=none)
  (hp:OCall P n args el k rows) (hc:calleeA (σ.get true f) (getsA (σ.get true) as.toList)=some (n,args)) {a:AV} (ha:AV.own (N0+i) 0 rows.length=a) (h:DRun P ops N0 (i+1) r (σ.app o.dst ⟨true,a,[(N0+i,some (.cells el k rows true true))],[]⟩) es σ''):
  DRun P ops N0 i (o::r) σ (⟨true,a,[(N0+i,some (.cells el k rows true true))],[]⟩::es) σ'':=
 .cons i o r σ _ es σ'' (.ocall f as ts n args el k rows hop (by unfold gOK;rw[hg]) rfl hc hp ha.symm rfl) h
theorem w_callO{ops:Array Oper}{o:Oper}{rest:List Oper}{K:AS→Prop}{f:Operand}{as:Array Operand}{ts:Array TypeId}{n:FuncId}{args:List AV}{el:TypeId}{k:Nat}{rows:List (List AV)}{p:AS×List Oper}(hop:o.op= .call ⟨.value f,as,ts⟩)(hg:o.guard=none)
  (hp:OCall P n args el k rows) (hc:calleeA (σ.get true f) (getsA (σ.get true) as.toList)=some (n,args))
  (hr:run P ops.toList rest (({σ with H:=⟨σ.H.next+1,upd σ.H.get [(σ.H.next,some (.cells el k rows true true))]⟩}:AS).put o.dst true (.own σ.H.next 0 rows.length))=p) (h:aops P true ops p.2 p.1 K):aops P true ops (o::rest) σ K:=
 w_callA hop hg hc hp.run fun r H' ⟨h1,h2⟩=>by subst h1;subst h2;exact run_ok _ _ hr h
theorem w_callI{ops:Array Oper}{o:Oper}{rest:List Oper}{K:AS→Prop}{f:Operand}{as:Array Operand}{ts:Array TypeId}{n:FuncId}{fn:Func}{c:Code}{args:List AV}{nt:Nat}(hf:P.funcs[n]? =some fn)(hb:fn.body=some c)(hnm:(fn.name== "runtime.NumGoroutine")=false)(hnt:fn.ntmps=nt)
  (hop:o.op= .call ⟨.value f,as,ts⟩) (hg:o.guard=none) (hc:calleeA (σ.get true f) (getsA (σ.get true) as.toList)=some (n,args)) (hlen:args.length≤nt)
  (h:AW P c ⟨envOf 0 args,σ.H,nt⟩ (hold (endA P fn.results.toList (hold (fun a H'=>aops P true ops rest (({σ with H:=H'}:AS).put o.dst true a) K) ⟨⟩)) ⟨⟩)):aops P true ops (o::rest) σ K:=by
 subst hnt;exact w_callA hop hg hc (acall hf hb hnm hlen h) fun r H' hq=>hq
end
theorem ocall{P:Program}{n:FuncId}{fn:Func}{c:Code}{args:List AV}{e:TypeId}{k:Nat}{rows:List (List AV)}(ha:∀a∈args,NoId a)(hrows:∀row∈rows,∀x∈row,NoId x)(hf:P.funcs[n]? =some fn)(hb:fn.body=some c)(hnm:(fn.name== "runtime.NumGoroutine")=false)(hlen:args.length≤fn.ntmps)
  (h:AW P c ⟨envOf 0 args,⟨0,tabG []⟩,fn.ntmps⟩ (hold (endA P fn.results.toList (hold (fun a H'=>∃i,a= .own i 0 rows.length∧H'.get i=some (.cells e k rows true true)) ⟨⟩)) ⟨⟩)):OCall P n args e k rows:=
 ocall_of ha hrows (acall hf hb hnm hlen h)
theorem rvs_nil{E:Env}{W:World}{pre post:List AV}{vs:List Value}(h:RVs E W (pre++ .snap []::post) vs):∃a cap,RVs E W (pre++ .c (.slice a 0 cap)::post) vs:=by
 have hlt:pre.length<vs.length:=by have:=h.1;simp at this;omega
 have hv:=h.2 pre.length (.snap []) vs[pre.length] (by simp) (List.getElem?_eq_getElem hlt)
 have key:∃a cap,vs[pre.length]= .slice a 0 cap:=by
  generalize hvv:vs[pre.length]=v at hv;cases hv with
  |snap0 a cap=>exact⟨a,cap,rfl⟩
  |snap _ b off s n cap ws hn hcap=>simp at hn;subst hn;exact⟨_,cap,rfl⟩
 obtain⟨a,cap,hk⟩:=key;refine⟨a,cap,by simpa using h.1,fun i x v hx hv'=> ?_⟩
 rcases Nat.lt_trichotomy i pre.length with h1|h1|h1
 ·rw[List.getElem?_append_left h1]at hx
  exact h.2 i x v (by rw[List.getElem?_append_left h1];exact hx) hv'
 ·subst h1
  simp at hx;subst hx;rw[List.getElem?_eq_getElem hlt]at hv';injection hv' with hv'
  rw[←hv',hk];exact .c _ rfl
 ·refine h.2 i x v ?_ hv'
  obtain⟨d,rfl⟩:∃d,i=pre.length+(d+1):=⟨i-pre.length-1,by omega⟩
  rw[List.getElem?_append_right (by omega)]at hx⊢
  simpa using hx
theorem PCall.nil{P:Program}{n:FuncId}{pre post:List AV}{Q:AV→Prop}(h:∀a cap,PCall P n (pre++ .c (.slice a 0 cap)::post) Q):PCall P n (pre++ .snap []::post) Q:=
 ⟨(h none 0).1,fun L W vs hL hr=>let ⟨a,cap,hr'⟩:=rvs_nil hr;(h a cap).2 L W vs hL hr'⟩
end Go.AL
namespace Go.AL
open Go.RowKit
def lookB(G:Nat→Option Blk)(k:Nat):List (Nat×Option Blk)→Option Blk
 |[]=>G k
 |(i,b)::r=>if k=i then b else lookB G k r
def tabB(G:Nat→Option Blk)(l:List (Nat×Option Blk))(k:Nat):Option Blk:=lookB G k l
theorem tabB_at(G:Nat→Option Blk)(l:List (Nat×Option Blk))(k:Nat):tabB G l k=lookB G k l:=rfl
theorem tabB_nil(G:Nat→Option Blk):tabB G []=G:=rfl
theorem tabB_ins(G:Nat→Option Blk)(l:List (Nat×Option Blk))(i:Nat)(b:Option Blk):(fun k=>if k=i then b else tabB G l k)=tabB G (insL l i b):=by
 funext k
 induction l with
 |nil=>rfl
 |cons p r ih=>
  obtain⟨j,c⟩:=p;simp only[insL];by_cases hij:i=j
  ·subst hij
   simp only[if_true,tabB,lookB];split<;>rfl
  ·simp only[hij,if_false,tabB,lookB]
   simp only[tabB]at ih;rw[←ih];by_cases hkj:k=j
   ·subst hkj;simp[Ne.symm hij]
   ·simp[hkj]
theorem updB_cons(G:Nat→Option Blk)(l:List (Nat×Option Blk))(i:Nat)(b:Option Blk)(r:List (Nat×Option Blk)):upd (tabB G l) ((i,b)::r)=upd (tabB G (insL l i b)) r:=by
 rw[←tabB_ins];rfl
def Less(H'' H':Heap):Prop:=H'.next≤H''.next∧∀id b,H''.get id=some b→H'.get id=some b
theorem RH.less{E:Env}{W:World}{H' H'':Heap}(h:RH E W H')(hl:Less H'' H'):RH E W H'':=
 ⟨fun id hid=>Nat.lt_of_lt_of_le (h.next id hid) hl.1,h.core.weaker fun id b hb=>⟨b,hl.2 id b hb,Blk.le_refl b⟩⟩
theorem sub_nil{G:Nat→Option Blk}:∀id b,tabG [] id=some b→G id=some b:=fun id b h=>by cases h
theorem sub_cons{G:Nat→Option Blk}{l:List (Nat×Option Blk)}{i:Nat}{x:Option Blk}(h:G i=x)(hr:∀id b,tabG l id=some b→G id=some b):∀id b,tabG ((i,x)::l) id=some b→G id=some b:=fun id b hb=>by
 simp only[tabG,lookT]at hb;split at hb
 ·rename_i he;subst he;rw[h];exact hb
 ·exact hr id b hb
theorem sub_none{G:Nat→Option Blk}{l:List (Nat×Option Blk)}{i:Nat}(hr:∀id b,tabG l id=some b→G id=some b):∀id b,tabG ((i,none)::l) id=some b→G id=some b:=fun id b hb=>by
 simp only[tabG,lookT]at hb;split at hb
 ·cases hb
 ·exact hr id b hb
theorem nbeq_F{a b:Nat}(h:a≠b):(a==b)=false:=by simpa using h
theorem nbeq_T{a b:Nat}(h:a=b):(a==b)=true:=by simpa using h
attribute [go_sem] tabB_at lookB updB_cons
end Go.AL
namespace Go.AL
open Go.RowKit
def SubB(G:Nat→Option Blk)(l l':List (Nat×Option Blk)):Prop:=∀p∈l',p.2=none∨tabB G l p.1=p.2
theorem sB_nil{G:Nat→Option Blk}{l:List (Nat×Option Blk)}:SubB G l []:=fun p hp=>by cases hp
theorem sB_cons{G:Nat→Option Blk}{l l':List (Nat×Option Blk)}{i:Nat}{x:Option Blk}(h:tabB G l i=x)(hr:SubB G l l'):SubB G l ((i,x)::l'):=fun p hp=>by
 rcases List.mem_cons.1 hp with rfl|hp
 ·exact .inr h
 ·exact hr p hp
theorem sB_none{G:Nat→Option Blk}{l l':List (Nat×Option Blk)}{i:Nat}(hr:SubB G l l'):SubB G l ((i,none)::l'):=fun p hp=>by
 rcases List.mem_cons.1 hp with rfl|hp
 ·exact .inl rfl
 ·exact hr p hp
def memK(k:Nat):List (Nat×Option Blk)→Prop
 |[]=>False
 |(i,_)::r=>i=k∨memK k r
def keysOK(N:Nat)(l':List (Nat×Option Blk)):List (Nat×Option Blk)→Prop
 |[]=>True
 |(i,_)::r=>(N≤i∨memK i l')∧keysOK N l' r
theorem keysOK_at{N:Nat}{l':List (Nat×Option Blk)}:∀{l:List (Nat×Option Blk)},keysOK N l' l→∀p∈l,N≤p.1∨memK p.1 l'
 |(i,x)::r,h,p,hp=>by
  rcases List.mem_cons.1 hp with rfl|hp
  ·exact h.1
  ·exact keysOK_at h.2 p hp
theorem lookB_cases(G:Nat→Option Blk)(k:Nat):∀(l:List (Nat×Option Blk)),(∃p∈l,p.1=k∧lookB G k l=p.2)∨(¬memK k l∧lookB G k l=G k)
 |[]=> .inr ⟨fun h=>h,rfl⟩
 |(i,x)::r=>by
  by_cases h:k=i
  ·exact .inl ⟨(i,x),by simp,h.symm,by simp[lookB,h]⟩
  ·rcases lookB_cases G k r with⟨p,hp,h1,h2⟩|⟨h1,h2⟩
   ·exact .inl ⟨p,by simp[hp],h1,by simp only[lookB,if_neg h];exact h2⟩
   ·exact .inr ⟨fun hm=>hm.elim (fun e=>h e.symm) h1,by simp only[lookB,if_neg h];exact h2⟩
theorem subB{G:Nat→Option Blk}{N:Nat}{l l':List (Nat×Option Blk)}(hG:∀id,N≤id→G id=none)(hs:SubB G l l')(hk:keysOK N l' l):∀id b,tabB G l' id=some b→tabB G l id=some b:=fun id b hb=>by
 rcases lookB_cases G id l' with⟨p,hp,h1,h2⟩|⟨h1,h2⟩
 ·have h3:p.2=some b:=by rw[←h2];exact hb
  rcases hs p hp with h4|h4
  ·rw[h4]at h3;cases h3
  ·rw[←h1,h4,h3]
 ·have h3:G id=some b:=by rw[←h2];exact hb
  have h4:id<N:=by
   rcases Nat.lt_or_ge id N with h|h
   ·exact h
   ·rw[hG id h]at h3;cases h3
  rcases lookB_cases G id l with⟨p,hp,h5,h6⟩|⟨h5,h6⟩
  ·exfalso
   rcases keysOK_at hk p hp with h7|h7
   ·omega
   ·rw[h5]at h7;exact h1 h7
  ·show lookB G id l=some b
   rw[h6,h3]
end Go.AL
namespace Go.AL
open Go.RowKit
theorem d_gT{P:Program}{ops:List Oper}{N0 i:Nat}{o:Oper}{r:List Oper}{σ σ'':AS}{es:List Entry}{a:AV}{wr:List (Nat×Option Blk)}{rd:List Nat}{j:Nat}{want:Bool}(hg:o.guard=some (j,want))
  (hgc:gcond (gval ops j σ.env) want=some true) (hr:res P (σ.get true) σ.H.get (N0+i) o=some (a,wr,rd)) (h:DRun P ops N0 (i+1) r (σ.app o.dst ⟨true,a,wr,rd⟩) es σ''):DRun P ops N0 i (o::r) σ (⟨true,a,wr,rd⟩::es) σ'':=
 .cons i o r σ _ es σ'' (.res (by unfold gOK;rw[hg];exact hgc) hr (.inr rfl)) h
end Go.AL
namespace Go.AL
open Go.RowKit
section
variable {E : Env} {W : World} {G : Nat → Option Blk}
theorem Evo.allocF(hG:RC E W G)(o:Obj):Evo E W E (W.alloc o)where
 os:=rfl
 tape:=rfl
 output:=rfl
 size:=by simp
 used:=fun id h=>h
 ren:=fun id h=>⟨rfl,rfl⟩
 lim:=fun b=>Nat.le_refl _
 prot:=fun b k hk=>by
  refine World.cell?_alloc_old W o _ fun e=> ?_
  have:=hG.lim b (by simp at e;omega)
  omega
 foreign:=fun b hb _=>Below.heap_alloc W o b hb
 sizes:=fun b cur e f h=>⟨cur,f,by rw[Below.heap_alloc W o b (Array.getElem?_eq_some_iff.1 h).1];exact h,rfl⟩
 still:=fun _ _ _=>rfl
 fresh:=fun id h1 h2=>absurd h2 h1
 loops:=fun b r h=>⟨r,by rw[Below.heap_alloc W o b (Array.getElem?_eq_some_iff.1 h).1];exact h,rfl⟩
theorem RC.allocF(hG:RC E W G)(o:Obj):RC E (W.alloc o) G where
 lim:=fun b hb=>hG.lim b (by simp at hb;omega)
 inW:=fun id h=>by have:=hG.inW id h;simp;omega
 ok:=fun id b h=>by
  obtain⟨h1,h2⟩:=hG.ok id b h;exact⟨h1,h2.mono (Evo.allocF hG o) h1 (Below.heap_alloc W _ _ (hG.inW id h1)) rfl fun id' b' hne hg he=>⟨b',hg,he,rfl,fun h=>h⟩⟩
theorem RC.allocRec(hG:RC E W G){nid:Nat}(hn:¬E.U nid)(r:Loop)(env:List (Nat×Bool×AV))(ps:List Tmp)(hp:r.params=ps.toArray)
  (henv:∀t c a,lk env t=some (c,a)→∃v,r.tmps[t]? =some v∧(c=true→RV E W a v)∧(c=false→v=undef)):
  RC (E.more nid W.heap.size 0) (W.alloc (.loop r)) (upd G [(nid,some (.rcd env r.tmps.size ps r.assign r.body r.state r.pending))])where
 lim:=fun b hb=>hG.lim b (by simp at hb;omega)
 inW:=fun id h=>by
  rcases h with h|h
  ·have hne:id≠nid:=fun e=>hn (e▸h)
   have:=hG.inW id h;simp[Env.more,hne];omega
  ·subst h;simp[Env.more]
 ok:=fun id b h=>by
  have hv:=Evo.alloc hG hn (.loop r) 0;by_cases hid:id=nid
  ·subst hid
   simp only[upd,if_true,Option.some.injEq]at h;subst h;refine⟨.inr rfl,⟨r.fn,r.tmps,r.defers,?_,rfl,fun t c a ht=> ?_⟩,?_,fun id' b' hne hg=> ?_⟩
   ·simp only[Env.more,if_true]
    rw[World.alloc_heap_new W _,←hp]
   ·obtain⟨v,h3,h4,h5⟩:=henv t c a ht
    exact⟨v,h3,fun hc=>(h4 hc).mono hv,h5⟩
   ·simp only[Env.more,if_true];exact hG.lim _ (Nat.le_refl _)
   ·simp only[upd,hne,if_false]at hg
    have:=hG.inW id' (hG.ok id' b' hg).1;simp only[Env.more,hne,if_true,if_false];omega
  ·simp only[upd,hid,if_false]at h
   obtain⟨h1,h2⟩:=hG.ok id b h;have hlt:=hG.inW id h1;refine⟨.inl h1,h2.mono hv h1 (Below.heap_alloc W _ _ hlt) rfl fun id' b' hne hg he=> ?_⟩
   by_cases hn':id'=nid
   ·subst hn';simp only[Env.more,if_true]at he;omega
   ·simp only[upd,hn',if_false]at hg
    simp only[Env.more,hn',if_false]at he;exact⟨b',hg,he,rfl,fun h=>h⟩
end
def jumpA(Q:Exit→AS→Prop)(σ:AS):Option Code→Prop
 |none=>Q .normal σ
 |some .ret=>Q .ret σ
 |some (.exit i)=>Q (.exit i) σ
 |_=>False
def rfK(id:Nat)(env:List (Nat×Bool×AV))(nt:Nat)(ps:List Tmp)(A B:Code)(Q:Exit→Heap→Prop)(H':Heap):Prop:=
 ∃env nt ps A B st pe,H'.get id=some (.rcd env nt ps A B st pe)∧st≠ .busy∧jumpA (fun e σ=>Q e σ.H) ⟨[],setB H' id none,0⟩ pe
theorem w_rangeFunc{P:Program}{σ:AS}{Q:Exit→AS→Prop}{g:Operand}{ps:Array Tmp}{assign body:Code}{n:FuncId}{fn:Func}{c:Code}{first cap:List AV}(hg:σ.get true g=some (.fn (.func n) first cap))
  (hf:P.funcs[n]? =some fn) (hb:fn.body=some c) (hnm:(fn.name== "runtime.NumGoroutine")=false) (hlen:(first++[AV.yld σ.H.next]++cap).length≤fn.ntmps)
  (h:∀R A B,R=σ.env→A=assign→B=body→AW P c ⟨envOf 0 (first++[.yld σ.H.next]++cap),setB ⟨σ.H.next+1,σ.H.get⟩ σ.H.next (some (.rcd R σ.nt ps.toList A B .ready none)),fn.ntmps⟩
    (hold (endA P fn.results.toList (hold (fun _ H'=>rfK σ.H.next R σ.nt ps.toList A B (hold (fun e H2=>Q e ({σ with H:=H2}:AS)) ⟨⟩) H') ⟨⟩)) ⟨⟩)):AW P (.rangeFunc g ps assign body) σ Q:=fun ro E W act hro hr=>by
 have hcall:=acall hf hb hnm hlen (h _ _ _ rfl rfl rfl);have h1:=hr.get rfl hg;generalize hfv:act.eval g=fv at h1;cases h1 with
 |fn _ _ _ vf vc hl hl2 h3 h4=>
 have hnid:¬E.U σ.H.next:=fun hU=>Nat.lt_irrefl _ (hr.heap.next _ hU)
 refine wpIn_rangeFunc ?_;intro fn0 _
 --entering
 have enter:∃(l:Nat) (mark:List Deferred) (D:Nat) (W0:World),(Instr.enterLoop fn0 act.tmps ps assign body (fen ro).round).run P W= .ok (l,mark) (W0.alloc (.loop {state:= .ready,pending:=none,fn:=fn0,tmps:=act.tmps,params:=ps,assign,body,defers:=D}))∧l=W0.heap.size∧
   Evo E W E W0∧RC E W0 σ.H.get∧Marks E W0 (mark++act.defers)∧(∀D,markD D∈mark++act.defers→markD D∈act.defers∨W.heap.size≤D)∧oldD (mark++act.defers)=oldD act.defers:=by
  cases ro with
  |none=>
   refine⟨W.heap.size+1,[markD W.heap.size],W.heap.size,W.alloc (.deferred (some [])),run_enterLoop_outer _ _ _ _ _,by simp,Evo.allocF hr.heap.core _,hr.heap.core.allocF _,?_,fun D hD=> ?_,rfl⟩
   ·obtain⟨Ds,hD1,hD2,hD3⟩:=hr.defers.mono (Evo.allocF hr.heap.core (.deferred (some [])))
    have hlt:∀D∈Ds,D<W.heap.size:=fun D hD=>by
     obtain⟨Ds',hD1',_,hD3'⟩:=hr.defers;exact(Array.getElem?_eq_some_iff.1 (hD3' D (mark_in hD1' (mark_of hD1 hD))).1).1
    refine⟨W.heap.size::Ds,by rw[List.singleton_append,List.filter_cons_of_pos rfl,hD1];rfl,List.nodup_cons.2 ⟨fun h=>Nat.lt_irrefl _ (hlt _ h),hD2⟩,fun D hD=> ?_⟩
    rcases List.mem_cons.1 hD with h5|h5
    ·subst h5
     exact⟨World.alloc_heap_new W _,fun id hid he=>by have:=hr.heap.core.inW id hid;omega⟩
    ·exact hD3 D h5
   ·rcases List.mem_cons.1 hD with h5|h5
    ·exact .inr (Nat.le_of_eq (markD_inj h5).symm)
    ·exact .inl h5
  |some l0=>
   obtain⟨r0,hr0⟩:=hro l0 rfl;exact⟨W.heap.size,[],r0.defers,W,run_enterLoop_inner hr0 _ _ _ _ _,rfl,Evo.refl E W,hr.heap.core,hr.defers,(fun D hD=> .inl hD),rfl⟩
 obtain⟨l,mark,D,W0,hent,hl0,hv0,hG0,hM0,hnew,hold2⟩:=enter;have hv1:=Evo.alloc hG0 hnid (.loop {state:= .ready,pending:=none,fn:=fn0,tmps:=act.tmps,params:=ps,assign,body,defers:=D}) 0
 have hG1:=hG0.allocRec hnid {state:= .ready,pending:=none,fn:=fn0,tmps:=act.tmps,params:=ps,assign,body,defers:=D} σ.env ps.toList (by simp) (fun t c a ht=>by
  obtain⟨v,h5,h6,h7⟩:=hr.env t c a ht
  exact⟨v,h5,fun hc=>(h6 hc).mono hv0,h7⟩)
 rw[←hl0]at hv1 hG1;have hM1:=hM0.mono hv1;generalize W0.alloc (.loop {state:= .ready,pending:=none,fn:=fn0,tmps:=act.tmps,params:=ps,assign,body,defers:=D})=W1 at hent hv1 hG1 hM1;have hvv:=hv0.trans hv1;have hι1:(E.more σ.H.next l 0).ι σ.H.next=l:=by simp[Env.more]
 have hU1:(E.more σ.H.next l 0).U σ.H.next:= .inr rfl
 have hnx:∀id,(E.more σ.H.next l 0).U id→id<σ.H.next+1:=fun id hid=>by
  rcases hid with h5|h5
  ·exact Nat.lt_succ_of_lt (hr.heap.next id h5)
  ·subst h5;exact Nat.lt_succ_self _
 generalize E.more σ.H.next l 0=E1 at hvv hv1 hG1 hM1 hι1 hU1 hnx
 have hsz:act.tmps.size=σ.nt:=hr.size;simp only[hsz]at hG1;have hRH:RH E1 W1 (setB ⟨σ.H.next+1,σ.H.get⟩ σ.H.next (some (.rcd σ.env σ.nt ps.toList assign body .ready none))):=⟨hnx,hG1⟩
 have hargs:RVs E1 W1 (first++[.yld σ.H.next]++cap) (vf.toList++[.func (.yield l) #[] #[]]++vc.toList):=by
  refine RVs.append (RVs.append ?_ ?_) ?_
  ·exact⟨by simpa using hl,fun i x v hx hv=>(h3 i x v hx (by simpa using hv)).mono hvv⟩
  ·have:=RV.yld (E:=E1) (W:=W1) σ.H.next hU1
   rw[hι1]at this;exact .cons this .nil
  ·exact⟨by simpa using hl2,fun i x v hx hv=>(h4 i x v hx (by simpa using hv)).mono hvv⟩
 have hlb:(vf.toList++[Value.func (.yield l) #[] #[]]++vc.toList).toArray=vf++ #[Value.func (.yield l) #[] #[]]++vc:=by
  apply Array.ext';simp
 refine⟨l,mark,W1,{target:= .fn (.func n) vc,args:=vf++ #[Value.func (.yield l) #[] #[]]},W1,n,vf++ #[Value.func (.yield l) #[] #[]]++vc,W1,hent,?_,fun _ _=>trivial,?_,fen_depth,?_⟩
 ·simp only[resolve,hfv,Deferred.ofValue]
  simp[Act.eval,Sem.run_pure]
 ·simp only[invoke]
  exact run_callFunc hcall.1 _ _
 ·refine fen_calls ?_
  rw[←hlb];refine(hcall.2 E1 W1 _ hRH hargs).mono fun e W' ⟨v,he,E',r,H',hv2,hH2,hrv,hk⟩=> ?_
  subst he;obtain⟨_,_,_,_,_,st,pe,hg2,hst,hj⟩:=hk;obtain⟨rc,hb2,hst2,hpe2,_,_,_,_,_,hset⟩:=rec_set hH2 hg2;obtain⟨hv3,hH3⟩:=hset .exhausted pe;have hι2:E'.ι σ.H.next=l:=(hv2.ren _ hU1).1.trans hι1
  rw[hι2]at hb2 hv3 hH3;have hend:=run_endLoop (P:=P) hb2 (by rw[hst2];exact hst)
  have heq:({rc with state:=LoopState.exhausted}:Loop)={rc with state:=LoopState.exhausted,pending:=pe}:=by rw[←hpe2]
  rw[heq,hpe2]at hend;refine⟨pe,_,hend,?_⟩;have hevo:Evo E W E' (W'.putObj l (.loop {rc with state:= .exhausted,pending:=pe})):=(hvv.trans hv2).trans hv3
  have hH4:RH E' (W'.putObj l (.loop {rc with state:= .exhausted,pending:=pe})) (setB H' σ.H.next none):=by
   refine⟨hH3.next,hH3.core.weaker fun id b hid=>⟨b,?_,Blk.le_refl b⟩⟩
   simp only[setB,upd]at hid⊢;by_cases hne:id=σ.H.next
   ·rw[if_pos hne]at hid;cases hid
   ·rw[if_neg hne]at hid⊢;exact hid
  have hM4:Marks E' (W'.putObj l (.loop {rc with state:= .exhausted,pending:=pe})) (mark++act.defers):=hM1.mono (hv2.trans hv3)
  have hrel:Rel E' (W'.putObj l (.loop {rc with state:= .exhausted,pending:=pe})) ({σ with H:=setB H' σ.H.next none}:AS) {act with defers:=mark++act.defers}:=by
   have:=hr.mono hevo hH4;exact⟨hM4,this.size,this.env,this.heap⟩
  have hw:Went E W act E' (W'.putObj l (.loop {rc with state:= .exhausted,pending:=pe})) {act with defers:=mark++act.defers}:=⟨hevo,hnew,hold2⟩
  unfold jumpA at hj;simp only[hold]at hj;split at hj
  ·exact⟨E',_,hw,hrel,rfl,hj⟩
  ·exact wpIn_ret ⟨E',_,hw,hrel,rfl,hj⟩
  ·exact wpIn_exit ⟨E',_,hw,hrel,rfl,hj⟩
  ·exact hj.elim
end Go.AL
namespace Go.AL
open Go.RowKit
section
variable {P : Program} {σ : AS}
theorem aopg_met{ops:Array Oper}{o:Oper}{rest:List Oper}{K:AS→Prop}{j:Nat}{want:Bool}(hg:o.guard=some (j,want))(hw:gcond (gval ops.toList j σ.env) want=some true)
  (h:aopx P o σ (hold (fun σ'=>aops P true ops rest σ' K) ⟨⟩)):aops P true ops (o::rest) σ K:=by
 show aop P true ops o σ _
 unfold aop;simp only[hg];rw[hw,bindK_some];simp only[hold];exact .inl (.inr ⟨rfl,h⟩)
theorem w_yield{ops:Array Oper}{o:Oper}{rest:List Oper}{K:AS→Prop}{f:Operand}{as:Array Operand}{ts:Array TypeId}{id:Nat}{args:List AV}{env env':List (Nat×Bool×AV)}{nt:Nat}{ps:List Tmp}{A A' B:Code}(hop:o.op= .call ⟨.value f,as,ts⟩)(hg:o.guard=none)
  (he:env=env') (hA:A=A') (hf:σ.get true f=some (.yld id)) (ha:getsA (σ.get true) as.toList=some args) (hr:σ.H.get id=some (.rcd env nt ps A B .ready none)) (hl:args.length=ps.length) (hps:ps.all (fun p=>decide (p<nt))=true)
  (h:AW P A' ⟨bindPs ps args env',σ.H,nt⟩ (hold (endAsA P id env nt ps A B (hold (fun b H'=>aops P true ops rest (({σ with H:=H'}:AS).put o.dst true (.c (.bool b))) K) ⟨⟩)) ⟨⟩)):aops P true ops (o::rest) σ K:=by
 subst he hA
 show aop P true ops o σ _
 unfold aop;simp only[hg];unfold aopx;simp only[hop];exact .inr ⟨id,args,env,nt,ps,A,B,hf,ha,hr,hl,hps,h⟩
theorem w_yieldG{ops:Array Oper}{o:Oper}{rest:List Oper}{K:AS→Prop}{f:Operand}{as:Array Operand}{ts:Array TypeId}{id:Nat}{args:List AV}{env env':List (Nat×Bool×AV)}{nt:Nat}{ps:List Tmp}{A A' B:Code}{j:Nat}{want:Bool}(hop:o.op= .call ⟨.value f,as,ts⟩)(hg:o.guard=some (j,want))
  (he:env=env') (hA:A=A') (hw:gcond (gval ops.toList j σ.env) want=some true) (hf:σ.get true f=some (.yld id)) (ha:getsA (σ.get true) as.toList=some args) (hr:σ.H.get id=some (.rcd env nt ps A B .ready none)) (hl:args.length=ps.length) (hps:ps.all (fun p=>decide (p<nt))=true)
  (h:AW P A' ⟨bindPs ps args env',σ.H,nt⟩ (hold (endAsA P id env nt ps A B (hold (fun b H'=>aops P true ops rest (({σ with H:=H'}:AS).put o.dst true (.c (.bool b))) K) ⟨⟩)) ⟨⟩)):aops P true ops (o::rest) σ K:=by
 subst he hA;refine aopg_met hg hw ?_;unfold aopx;simp only[hop];exact .inr ⟨id,args,env,nt,ps,A,B,hf,ha,hr,hl,hps,h⟩
theorem w_endAs{id:Nat}{env:List (Nat×Bool×AV)}{nt:Nat}{ps:List Tmp}{A B B':Code}{K:Bool→Heap→Prop}(hB:B=B')(hg:σ.H.get id=some (.rcd env nt ps A B .ready none))
  (h:AW P B' ⟨σ.env,setB σ.H id (some (.rcd env nt ps A B .busy none)),σ.nt⟩ (hold (endBodyA id env nt ps A B K) ⟨⟩)):endAsA P id env nt ps A B K .normal σ:=by
 subst hB;exact⟨_,_,_,_,_,hg,h⟩
theorem w_endBN{id:Nat}{env:List (Nat×Bool×AV)}{nt:Nat}{ps:List Tmp}{A B:Code}{ops:Array Oper}{rest:List Oper}{σ0:AS}{dst:Option Tmp}{K:AS→Prop}{p:AS×List Oper}(hg:σ.H.get id=some (.rcd env nt ps A B .busy none))
  (hr:run P ops.toList rest (({σ0 with H:=setB σ.H id (some (.rcd env nt ps A B .ready none))}:AS).put dst true (.c (.bool true)))=p) (h:aops P true ops p.2 p.1 K):
  endBodyA id env nt ps A B (hold (fun b H'=>aops P true ops rest (({σ0 with H:=H'}:AS).put dst true (.c (.bool b))) K) ⟨⟩) .normal σ:=⟨_,_,_,_,_,hg,run_ok _ _ hr h⟩
theorem w_endBR{id:Nat}{env:List (Nat×Bool×AV)}{nt:Nat}{ps:List Tmp}{A B:Code}{ops:Array Oper}{rest:List Oper}{σ0:AS}{dst:Option Tmp}{K:AS→Prop}{p:AS×List Oper}(hg:σ.H.get id=some (.rcd env nt ps A B .busy none))
  (hr:run P ops.toList rest (({σ0 with H:=setB σ.H id (some (.rcd env nt ps A B .done (some .ret)))}:AS).put dst true (.c (.bool false)))=p) (h:aops P true ops p.2 p.1 K):
  endBodyA id env nt ps A B (hold (fun b H'=>aops P true ops rest (({σ0 with H:=H'}:AS).put dst true (.c (.bool b))) K) ⟨⟩) .ret σ:=⟨_,_,_,_,_,hg,run_ok _ _ hr h⟩
theorem w_endBE{id:Nat}{env:List (Nat×Bool×AV)}{nt:Nat}{ps:List Tmp}{A B:Code}{ops:Array Oper}{rest:List Oper}{σ0:AS}{dst:Option Tmp}{K:AS→Prop}{p:AS×List Oper}{i:Nat}(hg:σ.H.get id=some (.rcd env nt ps A B .busy none))
  (hr:run P ops.toList rest (({σ0 with H:=setB σ.H id (some (.rcd env nt ps A B .done (some (.exit i))))}:AS).put dst true (.c (.bool false)))=p) (h:aops P true ops p.2 p.1 K):
  endBodyA id env nt ps A B (hold (fun b H'=>aops P true ops rest (({σ0 with H:=H'}:AS).put dst true (.c (.bool b))) K) ⟨⟩) (.exit i) σ:=⟨_,_,_,_,_,hg,run_ok _ _ hr h⟩
theorem w_rangeF{Q:Exit→AS→Prop}{g:Operand}{ps:Array Tmp}{assign body:Code}{n:FuncId}{fn:Func}{c:Code}{first cap:List AV}{nt:Nat}{args:List AV}(hf:P.funcs[n]? =some fn)(hb:fn.body=some c)(hnm:(fn.name== "runtime.NumGoroutine")=false)(hnt:fn.ntmps=nt)
  (hg:σ.get true g=some (.fn (.func n) first cap)) (ha:first++[AV.yld σ.H.next]++cap=args) (hlen:args.length≤nt)
  (h:∀R A B,R=σ.env→A=assign→B=body→AW P c ⟨envOf 0 args,setB ⟨σ.H.next+1,σ.H.get⟩ σ.H.next (some (.rcd R σ.nt ps.toList A B .ready none)),nt⟩
    (hold (endA P fn.results.toList (hold (fun _ H'=>rfK σ.H.next R σ.nt ps.toList A B (hold (fun e H2=>Q e ({σ with H:=H2}:AS)) ⟨⟩) H') ⟨⟩)) ⟨⟩)):AW P (.rangeFunc g ps assign body) σ Q:=by
 subst hnt ha;exact w_rangeFunc hg hf hb hnm hlen h
theorem w_rfN{id:Nat}{env:List (Nat×Bool×AV)}{nt:Nat}{ps:List Tmp}{A B:Code}{Q:Exit→Heap→Prop}{H:Heap}(hg:H.get id=some (.rcd env nt ps A B .ready none))(h:Q .normal (setB H id none)):rfK id env nt ps A B Q H:=⟨_,_,_,_,_,_,_,hg,by simp,h⟩
theorem w_rfR{id:Nat}{env:List (Nat×Bool×AV)}{nt:Nat}{ps:List Tmp}{A B:Code}{Q:Exit→Heap→Prop}{H:Heap}(hg:H.get id=some (.rcd env nt ps A B .done (some .ret)))(h:Q .ret (setB H id none)):rfK id env nt ps A B Q H:=⟨_,_,_,_,_,_,_,hg,by simp,h⟩
theorem w_rfE{id:Nat}{env:List (Nat×Bool×AV)}{nt:Nat}{ps:List Tmp}{A B:Code}{Q:Exit→Heap→Prop}{H:Heap}{i:Nat}(hg:H.get id=some (.rcd env nt ps A B .done (some (.exit i))))(h:Q (.exit i) (setB H id none)):rfK id env nt ps A B Q H:=⟨_,_,_,_,_,_,_,hg,by simp,h⟩
end
attribute [go_sem] setB bindPs
end Go.AL
namespace Go.AL
open Go.RowKit
theorem Evo.below{E:Env}{W W':World}{G:Nat→Option Blk}(hG:RC E W G)(hb:Below W.heap.size W W'):Evo E W E W'∧RC E W' G:=by
 have hlt:∀b k,k<E.L b→b<W.heap.size:=fun b k hk=>by
  rcases Nat.lt_or_ge b W.heap.size with h|h
  ·exact h
  ·have:=hG.lim b h;omega
 have hv:Evo E W E W':=
  ⟨hb.os,hb.tape,hb.output,hb.size,fun _ h=>h,fun _ _=>⟨rfl,rfl⟩,fun b=>Nat.le_refl _,fun b k hk=>hb.cell (p:=⟨b,k,none⟩) (hlt b k hk),fun b hb' _=>hb.block b hb',fun b cur e f hc=>⟨cur,f,by rw[hb.block b (Array.getElem?_eq_some_iff.1 hc).1];exact hc,rfl⟩,fun b hb' _=>rfl,fun id h h'=>absurd h' h,fun b r h=>⟨r,by rw[hb.block b (Array.getElem?_eq_some_iff.1 h).1];exact h,rfl⟩⟩
 refine⟨hv,fun b hb'=>hG.lim b (Nat.le_trans hb.size hb'),fun id hU=>Nat.lt_of_lt_of_le (hG.inW id hU) hb.size,fun id b hg=> ?_⟩
 obtain⟨hU,hok⟩:=hG.ok id b hg;exact⟨hU,hok.mono hv hU (hb.block _ (hG.inW id hU)) rfl fun id' b' _ hg' he'=>⟨b',hg',he',rfl,fun h=>h⟩⟩
end Go.AL
namespace Go.AL
section
variable {P : Program} {σ : AS} {rs : List ResultVar} {a : AV} {id : Nat} {env : List (Nat × Bool × AV)} {nt : Nat} {ps : List Tmp} {A B : Code} {Q : Exit → AS → Prop} {σ0 : AS}
theorem w_endFN(ho:outA P σ rs=some a)(hg:σ.H.get id=some (.rcd env nt ps A B .ready none))(h:Q .normal ({σ0 with H:=setB σ.H id none}:AS)):
  endA P rs (hold (fun _ H'=>rfK id env nt ps A B (hold (fun e H2=>Q e ({σ0 with H:=H2}:AS)) ⟨⟩) H') ⟨⟩) .normal σ:=by
 show bindK (outA P σ rs) _
 rw[ho];exact w_rfN hg h
theorem w_endFr(ho:outA P σ rs=some a)(hg:σ.H.get id=some (.rcd env nt ps A B .ready none))(h:Q .normal ({σ0 with H:=setB σ.H id none}:AS)):
  endA P rs (hold (fun _ H'=>rfK id env nt ps A B (hold (fun e H2=>Q e ({σ0 with H:=H2}:AS)) ⟨⟩) H') ⟨⟩) .ret σ:=by
 show bindK (outA P σ rs) _
 rw[ho];exact w_rfN hg h
theorem w_endFRn(ho:outA P σ rs=some a)(hg:σ.H.get id=some (.rcd env nt ps A B .done (some .ret)))(h:Q .ret ({σ0 with H:=setB σ.H id none}:AS)):
  endA P rs (hold (fun _ H'=>rfK id env nt ps A B (hold (fun e H2=>Q e ({σ0 with H:=H2}:AS)) ⟨⟩) H') ⟨⟩) .normal σ:=by
 show bindK (outA P σ rs) _
 rw[ho];exact w_rfR hg h
theorem w_endFR(ho:outA P σ rs=some a)(hg:σ.H.get id=some (.rcd env nt ps A B .done (some .ret)))(h:Q .ret ({σ0 with H:=setB σ.H id none}:AS)):
  endA P rs (hold (fun _ H'=>rfK id env nt ps A B (hold (fun e H2=>Q e ({σ0 with H:=H2}:AS)) ⟨⟩) H') ⟨⟩) .ret σ:=by
 show bindK (outA P σ rs) _
 rw[ho];exact w_rfR hg h
theorem w_endFEn{i:Nat}(ho:outA P σ rs=some a)(hg:σ.H.get id=some (.rcd env nt ps A B .done (some (.exit i))))(h:Q (.exit i) ({σ0 with H:=setB σ.H id none}:AS)):
  endA P rs (hold (fun _ H'=>rfK id env nt ps A B (hold (fun e H2=>Q e ({σ0 with H:=H2}:AS)) ⟨⟩) H') ⟨⟩) .normal σ:=by
 show bindK (outA P σ rs) _
 rw[ho];exact w_rfE hg h
theorem w_endFE{i:Nat}(ho:outA P σ rs=some a)(hg:σ.H.get id=some (.rcd env nt ps A B .done (some (.exit i))))(h:Q (.exit i) ({σ0 with H:=setB σ.H id none}:AS)):
  endA P rs (hold (fun _ H'=>rfK id env nt ps A B (hold (fun e H2=>Q e ({σ0 with H:=H2}:AS)) ⟨⟩) H') ⟨⟩) .ret σ:=by
 show bindK (outA P σ rs) _
 rw[ho];exact w_rfE hg h
end
end Go.AL
namespace Go.AL
open Go.RowKit Go.WideShapes Go.ChangeShapes
inductive Sh where
 |int (k:IntKind)
 |bool
 |str
 |sl (row:List Sh)
inductive CfS:Sh→AV→Prop
 |int (k:IntKind) (n:Int) (h:(Lit.int k n).wf=true):CfS (.int k) (.c (.int k n))
 |bool (b:Bool):CfS .bool (.c (.bool b))
 |str (s:ByteArray) (h:s.size≤maxLen):CfS .str (.c (.string s))
 |sl (row:List Sh) (rows:List (List AV)) (h1:rows.length≤maxLen) (h2:∀r∈rows,r.length=row.length) (h:∀r∈rows,∀(i:Nat) sh a,row[i]? =some sh→r[i]? =some a→CfS sh a):CfS (.sl row) (.snap rows)
def CfR(row:List Sh)(r:List AV):Prop:=r.length=row.length∧∀(i:Nat) sh a,row[i]? =some sh→r[i]? =some a→CfS sh a
theorem CfS.sl'{row:List Sh}{rows:List (List AV)}(h1:rows.length≤maxLen)(h:∀r∈rows,CfR row r):CfS (.sl row) (.snap rows):= .sl row rows h1 (fun r hr=>(h r hr).1) fun r hr=>(h r hr).2
theorem CfR.nil:CfR [] []:=⟨rfl,fun i sh a h=>by simp at h⟩
theorem CfR.cons{s:Sh}{a:AV}{row:List Sh}{r:List AV}(h:CfS s a)(hr:CfR row r):CfR (s::row) (a::r):=by
 refine⟨by simp[hr.1],fun i sh x h1 h2=> ?_⟩
 cases i with
 |zero=>simp at h1 h2;subst h1;subst h2;exact h
 |succ i=>exact hr.2 i sh x (by simpa using h1) (by simpa using h2)
theorem CfR.append{x y:List Sh}{r s:List AV}(h:CfR x r)(k:CfR y s):CfR (x++y) (r++s):=by
 refine⟨by simp[h.1,k.1],fun i sh a h1 h2=> ?_⟩
 by_cases hi:i<x.length
 ·rw[List.getElem?_append_left hi]at h1
  rw[List.getElem?_append_left (by rw[h.1];exact hi)]at h2
  exact h.2 i sh a h1 h2
 ·rw[List.getElem?_append_right (by omega)]at h1
  rw[List.getElem?_append_right (by rw[h.1];omega),h.1]at h2
  exact k.2 _ sh a h1 h2
theorem CfR.uncons{s:Sh}{row:List Sh}{r:List AV}(h:CfR (s::row) r):∃a r',r=a::r'∧CfS s a∧CfR row r':=by
 cases r with
 |nil=>have:=h.1;simp at this
 |cons a r'=>exact⟨a,r',rfl,h.2 0 s a rfl rfl,by have:=h.1;simpa using this,fun i sh x h1 h2=>h.2 (i+1) sh x (by simpa using h1) (by simpa using h2)⟩
theorem CfR.unnil{r:List AV}(h:CfR [] r):r=[]:=List.eq_nil_of_length_eq_zero h.1
theorem CfS.unsl{row:List Sh}{a:AV}(h:CfS (.sl row) a):∃rows,a= .snap rows∧rows.length≤maxLen∧∀r∈rows,CfR row r:=by
 cases h with
 |sl _ rows h1 h2 h=>exact⟨rows,rfl,h1,fun r hr=>⟨h2 r hr,h r hr⟩⟩
theorem CfS.unint{k:IntKind}{a:AV}(h:CfS (.int k) a):∃n,a= .c (.int k n)∧(Lit.int k n).wf=true:=by
 cases h with
 |int _ n h=>exact⟨n,rfl,h⟩
theorem CfS.unbool{a:AV}(h:CfS .bool a):∃b,a= .c (.bool b):=by
 cases h with
 |bool b=>exact⟨b,rfl⟩
def shFields(P:Program)(g:TypeId→Option (List Sh)):Nat→List Field→Option (List Sh)
 |_,[]=>some []
 |o,f::r=>if f.offset=o then
    (match g f.type with
    |some x=>if x.length=P.cellsOf f.type then(shFields P g (o+x.length) r).map (x++ ·)else none
    |none=>none)else none
def shp(P:Program):Nat→TypeId→Option (List Sh)
 |0,_=>none
 |f+1,t=>match P.underlying t with
  |some .bool=>some [.bool]
  |some (.int k)=>some [.int k]
  |some .string=>some [.str]
  |some (.slice e)=>(match shp P f e with
   |some r=>if r.length=P.cellsOf e∧0<r.length then some [.sl r]else none
   |none=>none)
  |some (.struct fs)=>(match shFields P (shp P f) 0 fs.toList with
   |some r=>if r.length=P.cellsOf t then some r else none
   |none=>none)
  |some (.array n e)=>(match shp P f e with
   |some r=>if r.length=P.cellsOf e∧P.cellsOf t=n*r.length then some (List.replicate n r).flatten else none
   |none=>none)
  |_=>none
theorem pick_list{α:Type}{Q:Nat→α→Prop}:∀n,(∀i,i<n→∃x,Q i x)→∃l:List α,l.length=n∧∀(i:Nat) x,l[i]? =some x→Q i x
 |0,_=>⟨[],rfl,fun i x h=>by simp at h⟩
 |n+1,h=>by
  obtain⟨l,h1,h2⟩:=pick_list n fun i hi=>h i (by omega)
  obtain⟨x,hx⟩:=h n (by omega)
  refine⟨l++[x],by simp[h1],fun i y hy=> ?_⟩
  by_cases hi:i<n
  ·rw[List.getElem?_append_left (by omega)]at hy;exact h2 i y hy
  ·rw[List.getElem?_append_right (by omega)]at hy
   have:i=n:=by have:=(List.getElem?_eq_some_iff.1 hy).1;simp at this;omega
   subst this;rw[h1]at hy;simp at hy;subst hy;exact hx
section
variable {P : Program} {H : Type} {enc : TypeId × Value → H} {W : World} {base : Nat} {spare : Nat → Bool} {held : Bool}
theorem cell_cap{b k:Nat}{v:Value}(h:W.cell? ⟨b,k,none⟩=some v):k<capOf W b:=by
 unfold World.cell? at h;unfold capOf;split at h
 ·rename_i c e f hb
  rw[hb];simp only[Option.isSome_none,if_false]at h;exact(Array.getElem?_eq_some_iff.1 h).1
 ·cases h
theorem cell_spot{b k:Nat}{s:Option Nat}{v:Value}(h:W.cell? ⟨b,k,s⟩=some v):s=none:=by
 unfold World.cell? at h;split at h
 ·split at h
  ·cases h
  ·rename_i hs;simpa using hs
 ·cases h
theorem fields_open{f:Nat}(ih:∀(fuel:Nat) t cs x row,shp P f t=some row→DataW.trod enc P W base spare held fuel t cs=some x→∃as,CfR row as∧RVs (Env0 (capOf W)) W as cs){cs:List Value}:
  ∀(fs:List Field) (o:Nat) (row:List Sh),shFields P (shp P f) o fs=some row→(∀g∈fs,∃fuel y,DataW.trod enc P W base spare held fuel g.type ((cs.drop g.offset).take (P.cellsOf g.type))=some y)→
   ∃as,CfR row as∧RVs (Env0 (capOf W)) W as ((cs.drop o).take row.length)
 |[],o,row,h,_=>by
  simp only[shFields,Option.some.injEq]at h;subst h;exact⟨[],.nil,by simpa using RVs.nil⟩
 |g::r,o,row,h,hg=>by
  simp only[shFields]at h;split at h
  ·rename_i ho
   split at h
   ·rename_i x hx
    split at h
    ·rename_i hl
     cases hr:shFields P (shp P f) (o+x.length) r with
     |none=>rw[hr]at h;cases h
     |some y=>
      rw[hr]at h;injection h with h
      subst h;obtain⟨fuel,z,hz⟩:=hg g (by simp)
      obtain⟨as,h1,h2⟩:=ih _ _ _ _ _ hx hz;obtain⟨bs,h3,h4⟩:=fields_open ih r (o+x.length) y hr fun g' hg'=>hg g' (by simp[hg'])
      refine⟨as++bs,h1.append h3,?_⟩;have h5:=h2.append h4;rw[ho,←hl]at h5
      have h6:(cs.drop o).take (x++y).length=(cs.drop o).take x.length++(cs.drop (o+x.length)).take y.length:=by
       rw[List.length_append,List.take_add,List.drop_drop]
      rw[h6];exact h5
    ·cases h
   ·cases h
  ·cases h
theorem rep_open{f:Nat}{e:TypeId}{row:List Sh}(hrow:shp P f e=some row)(hl:row.length=P.cellsOf e)(ih:∀(fuel:Nat) t cs x row,shp P f t=some row→DataW.trod enc P W base spare held fuel t cs=some x→∃as,CfR row as∧RVs (Env0 (capOf W)) W as cs){cs:List Value}{m:Nat}:
  ∀n,(∀i,i<n→∃y,DataW.trod enc P W base spare held m e ((cs.drop (i*P.cellsOf e)).take (P.cellsOf e))=some y)→
   ∃as,CfR (List.replicate n row).flatten as∧RVs (Env0 (capOf W)) W as (cs.take (n*row.length))
 |0,_=>⟨[],.nil,by simpa using RVs.nil⟩
 |n+1,h=>by
  obtain⟨as,h1,h2⟩:=rep_open hrow hl ih n fun i hi=>h i (by omega)
  obtain⟨y,hy⟩:=h n (by omega)
  obtain⟨bs,h3,h4⟩:=ih _ _ _ _ _ hrow hy;refine⟨as++bs,?_,?_⟩
  ·rw[List.replicate_succ',List.flatten_append,List.flatten_singleton]
   exact h1.append h3
  ·have h5:=h2.append h4
   rw[←hl]at h5;rw[Nat.succ_mul,List.take_add];exact h5
theorem shp_open:∀(f:Nat) (fuel:Nat) (t:TypeId) (cs:List Value) (x:DataW H×List MemPlace) (row:List Sh),shp P f t=some row→DataW.trod enc P W base spare held fuel t cs=some x→∃as,CfR row as∧RVs (Env0 (capOf W)) W as cs
 |0,_,_,_,_,_,h,_=>by cases h
 |f+1,fuel,t,cs,x,row,h,ht=>by
  have ih:∀(fuel:Nat) t cs x row,shp P f t=some row→DataW.trod enc P W base spare held fuel t cs=some x→∃as,CfR row as∧RVs (Env0 (capOf W)) W as cs:=shp_open f;simp only[shp]at h;split at h
  ·rename_i hu
   injection h with h;subst h
   obtain⟨b,rfl,_⟩:=DataW.trod_bool hu ht;exact⟨[.c (.bool b)],.cons (.bool b) .nil,.cons (.c _ rfl) .nil⟩
  ·rename_i k hu
   injection h with h;subst h
   obtain⟨n,rfl,_,hw⟩:=DataW.trod_int hu ht;exact⟨[.c (.int k n)],.cons (.int k n hw) .nil,.cons (.c _ rfl) .nil⟩
  ·rename_i hu
   injection h with h;subst h
   obtain⟨s,rfl,_,hw⟩:=DataW.trod_string hu ht;exact⟨[.c (.string s)],.cons (.str s hw) .nil,.cons (.c _ rfl) .nil⟩
  ·rename_i e hu
   split at h
   ·rename_i r hr
    split at h
    ·rename_i hl
     injection h with h;subst h
     rcases DataW.trod_slice hu ht with⟨rfl,_⟩|⟨a,len,cap,elems,rest,n,rfl,rfl,_,hb,hlc,hcm,hel,hget,_⟩
     ·exact⟨[.snap []],.cons (.sl' (by simp) fun r hr=>by cases hr) .nil,.cons (.snap0 none 0) .nil⟩
     ·obtain⟨hl1,hl2⟩:=hl
      have hrow:∀i,i<len→∃as,CfR r as∧∃vals,W.cells? base (a.add (i*P.cellsOf e)) (P.cellsOf e)=some vals∧RVs (Env0 (capOf W)) W as vals:=fun i hi=>by
       have h1:=hget i hi;rw[List.getElem?_eq_getElem (by omega)]at h1
       cases hc:W.cells? base (a.add (i*P.cellsOf e)) (P.cellsOf e)with
       |none=>rw[hc]at h1;cases h1
       |some vals=>
        rw[hc]at h1;obtain⟨as,h2,h3⟩:=ih _ _ _ _ _ hr h1;exact⟨as,h2,vals,rfl,h3⟩
      obtain⟨rows,hrl,hrows⟩:=pick_list len hrow
      have hcf:CfS (.sl r) (.snap rows):= .sl' (by omega) fun q hq=>by
       obtain⟨i,hi⟩:=List.getElem?_of_mem hq;exact(hrows i q hi).1
      refine⟨[.snap rows],.cons hcf .nil,.cons ?_ .nil⟩;by_cases h0:len=0
      ·have:rows=[]:=List.eq_nil_of_length_eq_zero (by omega)
       subst this;subst h0;exact .snap0 _ _
      ·obtain⟨blk,off,spot⟩:=a
       have hcell:∀(i j:Nat) q y,rows[i]? =some q→q[j]? =some y→∃v,W.cell? ((⟨blk,off,spot⟩:Addr).add (i*P.cellsOf e)|>.add j)=some v∧RV (Env0 (capOf W)) W y v:=fun i j q y hq hy=>by
        obtain⟨_,vals,h1,h2⟩:=hrows i q hq;obtain⟨v,h3,h4⟩:=h2.get hy;refine⟨v,?_,h4⟩;unfold World.cells? at h1;split at h1
        ·have hj:j<P.cellsOf e:=by
          have:=mapM_some_length h1;have h5:=(List.getElem?_eq_some_iff.1 h3).1;simp at this;omega
         have h6:=mapM_some_get h1 j j (by simp[hj])
         rw[h6];exact h3
        ·cases h1
       have hlen:∀(i:Nat) q,rows[i]? =some q→q.length=P.cellsOf e:=fun i q hq=>by rw[(hrows i q hq).1.1];exact hl1
       obtain⟨q0,hq0⟩:∃q,rows[0]? =some q:=⟨rows[0]'(by omega),List.getElem?_eq_getElem _⟩
       obtain⟨y0,hy0⟩:∃y,q0[0]? =some y:=⟨q0[0]'(by rw[hlen 0 q0 hq0];omega),List.getElem?_eq_getElem _⟩
       have hspot:spot=none:=by
        obtain⟨v,h1,_⟩:=hcell 0 0 q0 y0 hq0 hy0;rw[Nat.zero_mul]at h1;exact cell_spot (b:=blk) (k:=off) h1
       subst hspot
       have hadd:∀i j,((⟨blk,off,none⟩:Addr).add (i*P.cellsOf e)|>.add j)=⟨blk,off+(i*P.cellsOf e+j),none⟩:=fun i j=>by
        unfold Addr.add;split<;>split<;>simp_all [Nat.add_assoc]
       refine .snap rows blk off (P.cellsOf e) len cap (fun i j=>(W.cell? ⟨blk,off+(i*P.cellsOf e+j),none⟩).getD default) hrl.symm hlc (fun i q hq=>hlen i q hq) ?_ ?_ ?_
       ·obtain⟨ql,hql⟩:∃q,rows[len-1]? =some q:=⟨rows[len-1]'(by omega),List.getElem?_eq_getElem _⟩
        obtain⟨yl,hyl⟩:∃y,ql[P.cellsOf e-1]? =some y:=⟨ql[P.cellsOf e-1]'(by rw[hlen _ ql hql];omega),List.getElem?_eq_getElem _⟩
        obtain⟨v,h1,_⟩:=hcell _ _ ql yl hql hyl;rw[hadd]at h1;have h2:=cell_cap h1
        show off+rows.length*P.cellsOf e≤capOf W blk
        have h3:rows.length*P.cellsOf e=(len-1)*P.cellsOf e+P.cellsOf e:=by
         rw[hrl,←Nat.succ_mul];congr 1;omega
        omega
       ·intro i j q y hq hy
        obtain⟨v,h1,_⟩:=hcell i j q y hq hy;rw[hadd]at h1;rw[h1];rfl
       ·intro i j q y hq hy
        obtain⟨v,h1,h2⟩:=hcell i j q y hq hy;rw[hadd]at h1;simp only[h1,Option.getD_some];exact h2
    ·cases h
   ·cases h
  ·rename_i fs hu
   split at h
   ·rename_i r hr
    split at h
    ·rename_i hl
     injection h with h;subst h
     obtain⟨xs,n,rfl,_,hcl,hxl,hget⟩:=DataW.trod_struct hu ht
     obtain⟨as,h1,h2⟩:=fields_open ih (cs:=cs) fs.toList 0 r hr fun g hg=>by
      obtain⟨i,hi⟩:=List.getElem?_of_mem hg;have h3:=hget i g (by simpa using hi)
      have hlt:i<xs.length:=by
       have:=(List.getElem?_eq_some_iff.1 hi).1;simp at this;omega
      exact⟨n,xs[i],by rw[h3];exact List.getElem?_eq_getElem hlt⟩
     refine⟨as,h1,?_⟩;rw[List.drop_zero,List.take_of_length_le (by omega)]at h2
     exact h2
    ·cases h
   ·cases h
  ·rename_i n e hu
   split at h
   ·rename_i r hr
    split at h
    ·rename_i hl
     injection h with h;subst h
     obtain⟨xs,m,rfl,_,hcl,hxl,hget⟩:=DataW.trod_array hu ht
     obtain⟨as,h1,h2⟩:=rep_open hr hl.1 ih (cs:=cs) (m:=m) n fun i hi=>by
      exact⟨xs[i]'(by omega),by rw[hget i hi];exact List.getElem?_eq_getElem _⟩
     refine⟨as,h1,?_⟩;rw[List.take_of_length_le (by omega)]at h2
     exact h2
    ·cases h
   ·cases h
  ·cases h
theorem open_one{r:Go.Reach}{b0:Nat}{t:TypeId}{v:Value}{d:DataW H}{p:List MemPlace}{s:Sh}(f:Nat)(hs:shp P f t=some [s])(hu:∀fs,P.underlying t≠some (.struct fs))(hu2:∀n e,P.underlying t≠some (.array n e))
  (hv:Value.okWide P W r b0 t v) (h:DataW.Trod enc P W base spare held t v d p):∃a,CfS s a∧RV (Env0 (capOf W)) W a v:=by
 obtain⟨fuel,h⟩:=h;obtain⟨as,h1,h2⟩:=shp_open _ _ _ _ _ _ hs h;obtain⟨a,r',rfl,h3,h4⟩:=h1.uncons;obtain rfl:=h4.unnil;refine⟨a,h3,?_⟩
 have hc:v.cells= #[v]:=by
  unfold Value.okWide at hv;split at hv
  ·rename_i fs hf;exact absurd hf (hu fs)
  ·rename_i n e hf;exact absurd hf (hu2 n e)
  ·cases v with
   |agg cs=>
    exfalso;unfold Cell.okWide at hv;split at hv<;>first|contradiction|skip
    unfold Cell.ok at hv;split at hv<;>contradiction
   |_=>rfl
 rw[hc]at h2;exact h2.2 0 a v rfl rfl
theorem open_agg{r:Go.Reach}{b0:Nat}{t:TypeId}{v:Value}{d:DataW H}{p:List MemPlace}{row:List Sh}(f:Nat)(hs:shp P f t=some row)(hu:(∃fs,P.underlying t=some (.struct fs))∨∃n e,P.underlying t=some (.array n e))
  (hv:Value.okWide P W r b0 t v) (h:DataW.Trod enc P W base spare held t v d p):∃as,CfR row as∧RV (Env0 (capOf W)) W (.agg as) v:=by
 obtain⟨fuel,h⟩:=h;obtain⟨as,h1,h2⟩:=shp_open _ _ _ _ _ _ hs h
 obtain⟨cs,rfl⟩:∃cs,v= .agg cs:=by
  unfold Value.okWide at hv;rcases hu with⟨fs,hu⟩|⟨n,e,hu⟩
  ·rw[hu]at hv;obtain⟨cs,h,_⟩:=hv;exact⟨cs,h⟩
  ·rw[hu]at hv;obtain⟨cs,h,_⟩:=hv;exact⟨cs,h⟩
 refine⟨as,h1,?_⟩;exact .agg as cs (by have:=h2.1;simpa[Value.cells]using this) fun i x v hx hv=>h2.2 i x v hx (by simpa[Value.cells]using hv)
end
theorem rows_enc{α:Type}{f:α→List AV}{p:α→Prop}{row:List Sh}(hrow:∀r,CfR row r→∃x,p x∧r=f x):∀(rows:List (List AV)),(∀r∈rows,CfR row r)→∃l:List α,(∀x∈l,p x)∧rows=l.map f
 |[],_=>⟨[],(fun x h=>by cases h),rfl⟩
 |r::rs,h=>by
  obtain⟨x,hp,rfl⟩:=hrow r (h r (by simp))
  obtain⟨l,h1,rfl⟩:=rows_enc hrow rs fun r hr=>h r (by simp[hr])
  exact⟨x::l,(fun y hy=>by rcases List.mem_cons.1 hy with rfl|hy;exact hp;exact h1 y hy),rfl⟩
theorem sl_enc{α:Type}{f:α→List AV}{p:α→Prop}{row:List Sh}(hrow:∀r,CfR row r→∃x,p x∧r=f x){a:AV}(h:CfS (.sl row) a):∃l:List α,(∀x∈l,p x)∧l.length≤maxLen∧a= .snap (l.map f):=by
 obtain⟨rows,rfl,h1,h2⟩:=h.unsl;obtain⟨l,h3,rfl⟩:=rows_enc hrow rows h2;exact⟨l,h3,by simpa using h1,rfl⟩
end Go.AL
