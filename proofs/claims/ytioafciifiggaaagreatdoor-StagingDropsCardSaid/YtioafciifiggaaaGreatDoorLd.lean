/- Staging: a layer over the walks (Ld). No condition but those named. -/
import Derived.Test.YtioafciifiggaaaGreatDoorLb
import Derived.OrdersIn
set_option linter.unusedVariables false
set_option linter.unusedSimpArgs false
namespace Go.AL
open Go.RowKit
def plainO(σ:AS)(dst:Option Tmp):Option Res→Option AS
 |some (a,wr,_)=>some (({σ with H:=σ.H.app wr}:AS).put dst true a)
 |none=>none
def condO(σ:AS)(dst:Option Tmp)(c:Bool):Option AV→Option AS
 |some a=>some (σ.put dst c a)
 |none=>none
def pickP(σ:AS)(c b:Bool)(dst:Option Tmp):Option (Bool×Bool)→Option AS
 |some (p,q)=>some (σ.put dst c (.c (.bool (cond b p q))))
 |none=>none
def pickU(σ:AS)(x y:Operand)(dst:Option Tmp):Option Bool→Option AS
 |some b=>pickP σ true b dst (pairB (asB (σ.get b x)) (asB (σ.get (!b) y)))
 |none=>none
def pickC(σ:AS)(c:Bool)(x y:Operand)(dst:Option Tmp):Option Bool→Option AS
 |some b=>pickP σ c b dst (pairB (asB (σ.get (c&&b) x)) (asB (σ.get (c&& !b) y)))
 |none=>none
def stepG(P:Program)(o:Oper)(σ:AS):Option Bool→Option AS
 |some c=>match o.op with
  | .pick b x y=>pickC σ c x y o.dst (asB (σ.get c b))
  |_=>condO σ o.dst c (if parts o.op=true then none else resP (res P (σ.get c) σ.H.get σ.H.next o))
 |none=>none
def stepO(P:Program)(ops:List Oper)(o:Oper)(σ:AS):Option AS:=
 match o.op with
 | .call ⟨.value _,_,_⟩=>none
 |_=>match o.guard with
  |none=>match o.op with
   | .pick b x y=>pickU σ x y o.dst (asB (σ.get true b))
   |_=>plainO σ o.dst (res P (σ.get true) σ.H.get σ.H.next o)
  |some (j,want)=>stepG P o σ (gcond (gval ops j σ.env) want)
theorem stepO_ok{P:Program}{ops:Array Oper}{o:Oper}{σ σ':AS}{K:AS→Prop}(h:stepO P ops.toList o σ=some σ')(hk:K σ'):aop P true ops o σ K:=by
 unfold stepO at h;unfold aop;split at h
 ·cases h
 ·rename_i hn1
  split at h
  ·rename_i hg
   simp only[hg];unfold aopx;split at h
   ·rename_i b x y hop
    simp only[hop];unfold pickU at h;split at h
    ·rename_i b' hb
     unfold pickP at h;split at h
     ·rename_i p q hpq
      injection h with h
      subst h;rw[hb,bindK_some];simp only[hold]at*;rw[hpq];exact hk
     ·cases h
    ·cases h
   ·rename_i hn2
    unfold plainO at h;split at h
    ·rename_i a wr rd hres
     injection h with h
     subst h;split
     ·rename_i f as ts hop;exact absurd hop (hn1 _ _ _)
     ·rename_i b x y hop;exact absurd hop (hn2 _ _ _)
     ·rename_i x hop;rw[res_next hop]at hres;cases hres
     ·rw[hres];exact hk
    ·cases h
  ·rename_i j want hg
   simp only[hg];unfold stepG at h;split at h
   ·rename_i c hc
    rw[hc,bindK_some];simp only[hold];refine .inr ?_;unfold aopg0;split at h
    ·rename_i b x y hop
     simp only[hop];unfold pickC at h;split at h
     ·rename_i b' hb
      unfold pickP at h;split at h
      ·rename_i p q hpq
       injection h with h
       subst h;rw[hb];simp only[hold,altK]at*;rw[hpq];exact hk
      ·cases h
     ·cases h
    ·rename_i hn2
     unfold condO at h;split at h
     ·rename_i a hres
      simp only[Option.some.injEq]at h;subst h;split
      ·rename_i f as ts hop;exact absurd hop (hn1 _ _ _)
      ·rename_i b x y hop;exact absurd hop (hn2 _ _ _)
      ·simp only[hold,hres,altK];exact hk
     ·cases h
   ·cases h
def run(P:Program)(ops:List Oper):List Oper→AS→AS×List Oper
 |[],σ=>(σ,[])
 |o::r,σ=>runK (run P ops r) (stepO P ops o σ) (σ,o::r)
where
 runK (f:AS→AS×List Oper):Option AS→AS×List Oper→AS×List Oper
  |some σ',_=>f σ'
  |none,p=>p
theorem run_ok{P:Program}{ops:Array Oper}{K:AS→Prop}:∀(l:List Oper) (σ:AS) {p:AS×List Oper},run P ops.toList l σ=p→aops P true ops p.2 p.1 K→aops P true ops l σ K
 |[],σ,p,h,hk=>by simp only[run]at h;subst h;exact hk
 |o::r,σ,p,h,hk=>by
  simp only[run]at h;unfold run.runK at h;split at h
  ·rename_i σ' hs
   exact stepO_ok hs (run_ok r σ' h hk)
  ·subst h;exact hk
section
variable {P : Program} {σ : AS} {Q : Exit → AS → Prop}
theorem w_region{id:Nat}{ops:Array Oper}{p:AS×List Oper}(hd:ops.toList.all (dstIn σ.nt)=true)(hr:run P ops.toList ops.toList σ=p)(h:aops P true ops p.2 p.1 (Q .normal)):AW P (.region id ops false) σ Q:=
 aw_region (run_ok _ _ hr h) hd
theorem w_cond{c:Operand}{x y:Code}{b:Bool}(hc:asB (σ.get true c)=some b)(ht:b=true→AW P x σ Q)(hf:b=false→AW P y σ Q):AW P (.cond c x y) σ Q:=aw_cond (asB_out hc) ht hf
theorem w_nil{ops:Array Oper}{K:AS→Prop}(h:K σ):aops P true ops [] σ K:=h
theorem w_then{next:AS→Prop}(h:next σ):thenA next Q .normal σ:=h
theorem w_thenR{next:AS→Prop}(h:Q .ret σ):thenA next Q .ret σ:=h
theorem w_thenE{next:AS→Prop}{id:Nat}(h:Q (.exit id) σ):thenA next Q (.exit id) σ:=h
theorem w_blockN{id:Nat}(h:Q .normal σ):blockA id Q .normal σ:=h
theorem w_blockR{id:Nat}(h:Q .ret σ):blockA id Q .ret σ:=h
theorem w_blockE{id:Nat}(h:Q .normal σ):blockA id Q (.exit id) σ:=by simp only[blockA,if_true];exact h
theorem w_blockO{id id':Nat}(hne:id'≠id)(h:Q (.exit id') σ):blockA id Q (.exit id') σ:=by simp only[blockA,hne,if_false];exact h
theorem w_end{rs:List ResultVar}{Q:AV→Heap→Prop}{a:AV}(ho:outA P σ rs=some a)(h:Q a σ.H):endA P rs Q .ret σ:=by show bindK (outA P σ rs) _;rw[ho];exact h
theorem w_endN{rs:List ResultVar}{Q:AV→Heap→Prop}{a:AV}(ho:outA P σ rs=some a)(h:Q a σ.H):endA P rs Q .normal σ:=by show bindK (outA P σ rs) _;rw[ho];exact h
theorem w_hold{α:Type}{f:α→Prop}{t:Tag f}{x:α}(h:f x):hold f t x:=h
theorem w_hold2{α β:Type}{f:α→β→Prop}{t:Tag f}{x:α}{y:β}(h:f x y):hold f t x y:=h
theorem w_callP{ops:Array Oper}{o:Oper}{rest:List Oper}{K:AS→Prop}{f:Operand}{as:Array Operand}{ts:Array TypeId}{n:FuncId}{args:List AV}{r:AV}{p:AS×List Oper}(hop:o.op= .call ⟨.value f,as,ts⟩)(hg:o.guard=none)
  (hp:PCall P n args (·=r)) (hc:calleeA (σ.get true f) (getsA (σ.get true) as.toList)=some (n,args)) (hn:∀a∈args,NoId a) (hr:run P ops.toList rest (σ.put o.dst true r)=p) (h:aops P true ops p.2 p.1 K):aops P true ops (o::rest) σ K:=by
 show aop P true ops o σ _
 unfold aop;simp only[hg];unfold aopx;simp only[hop];refine .inl ?_;rw[hc,bindK_some];exact ACall.pure hp hn fun r' _ he=>by subst he;exact run_ok _ _ hr h
theorem w_callG{ops:Array Oper}{o:Oper}{rest:List Oper}{K:AS→Prop}{f:Operand}{as:Array Operand}{ts:Array TypeId}{n:FuncId}{args:List AV}{r:AV}{p:AS×List Oper}{j:Nat}{want c:Bool}(hop:o.op= .call ⟨.value f,as,ts⟩)(hg:o.guard=some (j,want))
  (hw:gcond (gval ops.toList j σ.env) want=some c) (hp:PCall P n args (·=r)) (hc:calleeA (σ.get c f) (getsA (σ.get c) as.toList)=some (n,args)) (hn:∀a∈args,NoId a) (hr:run P ops.toList rest (σ.put o.dst c r)=p) (h:aops P true ops p.2 p.1 K):aops P true ops (o::rest) σ K:=by
 show aop P true ops o σ _
 unfold aop;simp only[hg];rw[hw,bindK_some];simp only[hold];refine .inr ?_;unfold aopg0;simp only[hop];rw[hc];exact⟨r,fun _=>⟨hn,hp⟩,run_ok _ _ hr h⟩
end
theorem impB_self(a:Bool):impB a a=true:=by cases a<;>rfl
theorem impB_true(a:Bool):impB a true=true:=by cases a<;>rfl
theorem impB_true'(a:Bool):impB true a=a:=by cases a<;>rfl
theorem impB_false(a:Bool):impB false a=true:=by cases a<;>rfl
theorem impB_and(a b c:Bool):impB (a&&b) c=(impB a c||impB b c):=by cases a<;>cases b<;>cases c<;>rfl
theorem impB_andR(a b c:Bool):impB a (b&&c)=(impB a b&&impB a c):=by cases a<;>cases b<;>cases c<;>rfl
theorem bif_and(b x:Bool):cond b x false=(b&&x):=by cases b<;>rfl
theorem bif_or(b x:Bool):cond b true x=(b||x):=by cases b<;>rfl
attribute [go_sem] stepO plainO condO pickP pickU pickC stepG run run.runK
attribute [go_sem] bif_and bif_or impB_self impB_true impB_true' impB_false impB_and impB_andR wantB asB calleeA pairB resP gcond parts Bool.true_or Bool.or_true Bool.false_or Bool.or_false Bool.false_and Bool.and_false cond_true cond_false Bool.not_not
attribute [go_sem] gval AS.get AS.put lk res resPick resBin resUn resConv resConvG resStr resArr resCap resAppendZ resExtract resField resFieldAddr resLoad resStore resIndexAddr resIndex resSlice resSliceM nilV resBinC nilA eqOut Option.isNone_some Option.isNone_none resLen resMM resAppend resCopy resMake resBuiltin getsA partsA fillA chunk deref rowsOf lenA partA binV intV shV intBin ofV AV.cells AV.one spl upd_nil upd_cons tabG_at lookT insL Heap.app envOf boundA resOne resAll outA expo expo1 subRow expo2 past dstIn Value.oneCell' Option.map_some Option.map_none Option.bind_some Option.bind_none List.map_cons List.map_nil List.length_cons List.length_nil List.getElem?_cons_zero List.getElem?_cons_succ List.getElem?_nil List.take_succ_cons List.take_zero List.drop_succ_cons List.drop_zero List.all_cons List.all_nil List.isEmpty_cons List.isEmpty_nil List.nil_append List.cons_append List.append_nil List.set_cons_zero List.set_cons_succ if_true if_false true_and and_true and_self decide_true decide_false Bool.and_true Bool.true_and Bool.not_true Bool.not_false Bool.and_self noId_c noId_agg noId_tup noId_snap ne_eq not_false_eq_true not_true_eq_false Bool.false_eq_true List.mem_cons List.not_mem_nil or_false forall_eq_or_imp forall_eq List.replicate_succ List.replicate_zero List.flatten_cons List.flatten_nil List.toList_toArray true_imp_iff forall_const
end Go.AL
namespace Go.AL
open Go.RowKit
theorem deref_congr{G G':Nat→Option Blk}{a:AV}{row:List AV}{o:Nat}{rd:List Nat}(h:deref G a=some (row,o,rd))(hG:∀id∈rd,G' id=G id):deref G' a=some (row,o,rd):=by
 unfold deref at h⊢;split at h
 ·rename_i id i o'
  split at h
  ·rename_i e s rows w ap hget
   split at h
   ·rename_i row' hrow
    simp only[Option.some.injEq,Prod.mk.injEq]at h;obtain⟨rfl,rfl,rfl⟩:=h;rw[hG id (by simp),hget]
    simp only[hrow]
   ·cases h
  ·cases h
 ·exact h
 ·cases h
theorem rowsOf_congr{G G':Nat→Option Blk}{a:AV}{rows:List (List AV)}{rd:List Nat}(h:rowsOf G a=some (rows,rd))(hG:∀id∈rd,G' id=G id):rowsOf G' a=some (rows,rd):=by
 unfold rowsOf at h⊢;split at h
 ·exact h
 ·exact h
 ·rename_i id off len
  split at h
  ·rename_i e s rows' w ap hget
   split at h
   ·rename_i hle
    simp only[Option.some.injEq,Prod.mk.injEq]at h;obtain⟨rfl,rfl⟩:=h;rw[hG id (by simp),hget]
    simp only[hle,if_true]
   ·cases h
  ·cases h
 ·rename_i id i o len
  split at h
  ·rename_i e s rows' w ap hget
   split at h
   ·rename_i row hrow
    split at h
    ·rename_i hle
     simp only[Option.some.injEq,Prod.mk.injEq]at h;obtain⟨rfl,rfl⟩:=h;rw[hG id (by simp),hget]
     simp only[hrow,hle,if_true]
    ·cases h
   ·cases h
  ·cases h
 ·cases h
theorem getsA_congr{g g':Operand→Option AV}:∀(xs:List Operand),(∀x∈xs,g' x=g x)→getsA g' xs=getsA g xs
 |[],_=>rfl
 |x::r,h=>by simp only[getsA,h x (by simp),getsA_congr r fun y hy=>h y (by simp[hy])]
theorem partsA_congr{g g':Operand→Option AV}:∀(ps:List (Nat×Operand)),(∀p∈ps,g' p.2=g p.2)→partsA g' ps=partsA g ps
 |[],_=>rfl
 |(i,x)::r,h=>by simp only[partsA,h (i,x) (by simp),partsA_congr r fun y hy=>h y (by simp[hy])]
theorem boundA_congr{g g':Operand→Option AV}{d:Int}{o:Option Operand}(h:∀x,o=some x→g' x=g x):boundA g' d o=boundA g d o:=by
 cases o with
 |none=>rfl
 |some x=>simp only[boundA,h x rfl]
section
variable {P : Program} {G G' : Nat → Option Blk} {nid : Nat} {a : AV} {wr : List (Nat × Option Blk)} {rd : List Nat}
theorem resLoad_congr{t:TypeId}{x:Option AV}(h:resLoad P G t x=some (a,wr,rd))(hG:∀id∈rd,G' id=G id):resLoad P G' t x=some (a,wr,rd):=by
 unfold resLoad at h⊢;split at h
 ·split at h
  ·rename_i row o rd' hd
   obtain⟨d,h1,h2⟩:=map_some h;simp only[Prod.mk.injEq]at h2;obtain⟨rfl,rfl,rfl⟩:=h2;rw[deref_congr hd hG];simp only[h1,Option.map_some]
  ·cases h
 ·cases h
theorem resStore_congr{t:TypeId}{x y:Option AV}(h:resStore P G t x y=some (a,wr,rd))(hG:∀id∈rd,G' id=G id):resStore P G' t x y=some (a,wr,rd):=by
 unfold resStore at h⊢;split at h
 ·rename_i id i o a'
  split at h
  ·rename_i e s rows ap hg
   split at h
   ·rename_i row k hr hk
    split at h
    ·rename_i hc
     simp only[Option.some.injEq,Prod.mk.injEq]at h;obtain⟨rfl,rfl,rfl⟩:=h;rw[hG id (by simp),hg]
     simp only[hr,hk,hc,and_self,if_true]
    ·cases h
   ·cases h
  ·cases h
 ·cases h
theorem resIndexAddr_congr{t:TypeId}{x y:Option AV}(h:resIndexAddr P G t x y=some (a,wr,rd))(hG:∀id∈rd,G' id=G id):resIndexAddr P G' t x y=some (a,wr,rd):=by
 unfold resIndexAddr at h⊢;split at h
 ·rename_i id off len ik i
  split at h
  ·rename_i e k e' k' rows w ap ht hg
   split at h
   ·rename_i hc
    simp only[Option.some.injEq,Prod.mk.injEq]at h;obtain⟨rfl,rfl,rfl⟩:=h;rw[hG id (by simp),hg,ht]
    simp only[hc,and_self,if_true]
   ·cases h
  ·cases h
 ·exact h
 ·exact h
 ·exact h
 ·cases h
theorem resSlice_congr{t:TypeId}{l l' h0 h0':Nat→Option Int}{x:Option AV}(hl:l'=l)(hh:h0'=h0)(h:resSlice P G t l h0 x=some (a,wr,rd))(hG:∀id∈rd,G' id=G id):resSlice P G' t l' h0' x=some (a,wr,rd):=by
 subst hl;subst hh;unfold resSlice at h⊢;split at h
 ·exact h
 ·exact h
 ·rename_i id off len
  split at h
  ·rename_i e k e' k' rows w ap l hh ht hg hl hhi
   split at h
   ·rename_i hc
    simp only[Option.some.injEq,Prod.mk.injEq]at h;obtain⟨rfl,rfl,rfl⟩:=h;rw[hG id (by simp),hg,ht,hl,hhi]
    simp only[hc,and_self,if_true]
   ·cases h
  ·cases h
 ·rename_i id i o
  split at h
  ·rename_i n e e' k' rows w ap ht hg
   split at h
   ·rename_i row l hh hrow hl hhi
    split at h
    ·rename_i hc
     simp only[Option.some.injEq,Prod.mk.injEq]at h;obtain⟨rfl,rfl,rfl⟩:=h;rw[hG id (by simp),hg,ht]
     simp only[hrow,hl,hhi];rw[if_pos hc]
    ·cases h
   ·cases h
  ·cases h
 ·exact h
 ·cases h
theorem resSliceM_congr{t:TypeId}{l l' h0 h0' m m':Nat→Option Int}{x:Option AV}(hl:l'=l)(hh:h0'=h0)(hm:m'=m)(h:resSliceM P G t l h0 m x=some (a,wr,rd))(hG:∀id∈rd,G' id=G id):resSliceM P G' t l' h0' m' x=some (a,wr,rd):=by
 subst hl;subst hh;subst hm;unfold resSliceM at h⊢;split at h
 ·exact h
 ·rename_i id off len
  split at h
  ·rename_i e k e' k' rows w ap l hh m ht hg hl hhi hm
   split at h
   ·rename_i hc
    simp only[Option.some.injEq,Prod.mk.injEq]at h;obtain⟨rfl,rfl,rfl⟩:=h;rw[hG id (by simp),hg,ht,hl,hhi,hm]
    simp only[];rw[if_pos hc]
   ·cases h
  ·cases h
 ·cases h
theorem resCopy_congr{t:TypeId}{x y:Option AV}(h:resCopy P G t x y=some (a,wr,rd))(hG:∀id∈rd,G' id=G id):resCopy P G' t x y=some (a,wr,rd):=by
 unfold resCopy at h⊢;split at h
 ·rename_i id off len b
  split at h
  ·rename_i e k rows ap rows2 rd' e' k' hg hb ht
   split at h
   ·rename_i hc
    simp only[Option.some.injEq,Prod.mk.injEq]at h;obtain⟨rfl,rfl,rfl⟩:=h;rw[hG id (by simp),hg,rowsOf_congr hb (fun q hq=>hG q (by simp[hq])),ht]
    simp only[];rw[if_pos hc]
   ·cases h
  ·cases h
 ·rename_i id i o len b
  split at h
  ·rename_i e s rows ap rows2 rd' e' hg hb ht
   split at h
   ·rename_i row hrow
    split at h
    ·rename_i hc
     simp only[Option.some.injEq,Prod.mk.injEq]at h;obtain⟨rfl,rfl,rfl⟩:=h;rw[hG id (by simp),hg,rowsOf_congr hb (fun q hq=>hG q (by simp[hq])),ht]
     simp only[hrow];rw[if_pos hc]
    ·cases h
   ·cases h
  ·cases h
 ·cases h
theorem resAppend_congr{t:TypeId}{x y:Option AV}(h:resAppend P G nid t x y=some (a,wr,rd))(hG:∀id∈rd,G' id=G id):resAppend P G' nid t x y=some (a,wr,rd):=by
 unfold resAppend at h⊢;split at h
 ·rename_i id n b
  split at h
  ·rename_i e k rows w rows2 rd' e' k' hg hb ht
   split at h
   ·rename_i zs by_ hz hby
    split at h
    ·rename_i hc
     simp only[Option.some.injEq,Prod.mk.injEq]at h;obtain⟨rfl,rfl,rfl⟩:=h;rw[hG id (by simp),hg,rowsOf_congr hb (fun q hq=>hG q (by simp[hq])),ht]
     simp only[hz,hby];rw[if_pos hc]
    ·cases h
   ·cases h
  ·cases h
 ·rename_i b
  split at h
  ·rename_i rows2 rd' e k hb ht
   split at h
   ·rename_i hem
    simp only[Option.some.injEq,Prod.mk.injEq]at h;obtain⟨rfl,rfl,rfl⟩:=h;rw[rowsOf_congr hb hG,ht];simp only[hem,if_true]
   ·rename_i hem
    split at h
    ·rename_i zs by_ hz hby
     split at h
     ·rename_i hc
      simp only[Option.some.injEq,Prod.mk.injEq]at h;obtain⟨rfl,rfl,rfl⟩:=h;rw[rowsOf_congr hb hG,ht];simp only[hem,hz,hby];rw[if_neg (by simp),if_pos hc]
     ·cases h
    ·cases h
  ·cases h
 ·cases h
theorem resRange_congr{nid:Nat}{t:TypeId}{x:Option AV}(h:resRange P G nid t x=some (a,wr,rd))(hG:∀id∈rd,G' id=G id):resRange P G' nid t x=some (a,wr,rd):=by
 unfold resRange at h⊢;split at h
 ·rename_i id
  cases hg:G id with
  |none=>simp[hg]at h
  |some b=>
   have hr:rd=[id]:=by
    cases b with
    |map es=>
     simp only[hg]at h;split at h
     ·simp only[Option.some.injEq,Prod.mk.injEq]at h;exact h.2.2.symm
     ·cases h
    |_=>simp[hg]at h
   rw[hG id (by rw[hr];simp)]
   exact h
 ·cases h
theorem resEntry_congr{x:Option AV}(h:resEntry G x=some (a,wr,rd))(hG:∀id∈rd,G' id=G id):resEntry G' x=some (a,wr,rd):=by
 unfold resEntry at h⊢;split at h
 ·rename_i id
  split at h
  ·rename_i m n seen hg
   split at h
   ·rename_i i es hs hm
    split at h
    ·rename_i k a' he
     split at h
     ·rename_i hc
      simp only[Option.some.injEq,Prod.mk.injEq]at h;obtain⟨rfl,rfl,rfl⟩:=h;simp only[hG id (by simp),hG m (by simp),hg,hm,hs,he,if_pos hc]
     ·cases h
    ·cases h
   ·cases h
  ·cases h
 ·cases h
theorem resLookup_congr{t:TypeId}{ok:Bool}{x y:Option AV}(h:resLookup P G t ok x y=some (a,wr,rd))(hG:∀id∈rd,G' id=G id):resLookup P G' t ok x y=some (a,wr,rd):=by
 unfold resLookup at h⊢;split at h
 ·rename_i id xa
  cases hk:keyA xa with
  |none=>simp[hk]at h
  |some kv=>
  simp only[hk]at h⊢;cases hg:G id with
  |none=>simp[hg]at h
  |some b=>
   have hr:rd=[id]:=by
    cases b with
    |map es=>
     simp only[hg]at h;split at h
     ·rename_i q1 q2 q3
      split at h
      ·split at h
       ·simp only[Option.some.injEq,Prod.mk.injEq]at h;exact h.2.2.symm
       ·cases h
      ·cases h
     ·cases h
    |_=>simp[hg]at h
   rw[hG id (by rw[hr];simp)]
   rw[hg]at h⊢;exact h
 ·cases h
theorem resMapUpdate_congr{t:TypeId}{x y z:Option AV}(h:resMapUpdate P G t x y z=some (a,wr,rd))(hG:∀id∈rd,G' id=G id):resMapUpdate P G' t x y z=some (a,wr,rd):=by
 unfold resMapUpdate at h⊢;split at h
 ·rename_i id xa a'
  cases hk:keyA xa with
  |none=>simp[hk]at h
  |some kv=>
  simp only[hk]at h⊢;cases hg:G id with
  |none=>simp[hg]at h
  |some b=>
   have hr:rd=[id]:=by
    cases b with
    |map es=>
     simp only[hg]at h;split at h
     ·split at h
      ·simp only[Option.some.injEq,Prod.mk.injEq]at h;exact h.2.2.symm
      ·cases h
     ·cases h
    |_=>simp[hg]at h
   rw[hG id (by rw[hr];simp)]
   rw[hg]at h⊢;exact h
 ·cases h
theorem resLen_congr{t:TypeId}{x:Option AV}(h:resLen P G t x=some (a,wr,rd))(hG:∀id∈rd,G' id=G id):resLen P G' t x=some (a,wr,rd):=by
 unfold resLen at h⊢;split at h
 ·rename_i id
  cases hg:G id with
  |none=>simp[hg]at h
  |some b=>
   have hr:rd=[id]:=by
    cases b with
    |cells=>simp[hg]at h
    |rcd=>simp[hg]at h
    |iter=>simp[hg]at h
    |map es=>
     simp only[hg]at h;split at h
     ·simp only[Option.some.injEq,Prod.mk.injEq]at h;exact h.2.2.symm
     ·cases h
   rw[hG id (by rw[hr];simp)]
   exact h
 ·exact h
 ·exact h
 ·cases h
theorem resConvG_congr{s t:TypeId}{x:Option AV}(h:resConvG P G s t x=some (a,wr,rd))(hG:∀id∈rd,G' id=G id):resConvG P G' s t x=some (a,wr,rd):=by
 unfold resConvG at h⊢;split at h
 ·exact h
 ·unfold resStr at h⊢
  cases hd:isT P t isString with
  |true=>
   simp only[hd]at h⊢;split at h
   ·rename_i e rows rd' hs hb
    split at h
    ·rename_i l he hl
     have hrd:rd'=rd:=by
      simp only[Option.some.injEq,Prod.mk.injEq]at h;exact h.2.2
     subst hrd;cases x with
     |none=>cases hb
     |some y=>
      have hb2:(some y:Option AV).bind (rowsOf G')=some (rows,rd'):=rowsOf_congr hb hG;simp only[hs,hb2,he,hl];exact h
    ·cases h
   ·cases h
  |false=>
   simp only[hd]at h;cases h
theorem res_congr{g g':Operand→Option AV}{o:Oper}(h:res P g G nid o=some (a,wr,rd))(hg:∀x∈o.op.operands,g' x=g x)(hG:∀id∈rd,G' id=G id):res P g' G' nid o=some (a,wr,rd):=by
 obtain⟨dst,op,ty,pos,after,guard⟩:=o;cases op with
 |move x=>simp only[res,Op.operands]at*;rw[hg x (by simp)];exact h
 |assign x=>simp only[res,Op.operands]at*;rw[hg x (by simp)];exact h
 |pick c x y=>simp only[res,Op.operands]at*;rw[hg c (by simp),hg x (by simp),hg y (by simp)];exact h
 |binOp op t x y yt=>simp only[res,Op.operands]at*;rw[hg x (by simp),hg y (by simp)];exact h
 |unOp op t x=>simp only[res,Op.operands]at*;rw[hg x (by simp)];exact h
 |convert s t x=>simp only[res,Op.operands]at*;rw[hg x (by simp)];exact resConvG_congr h hG
 |sliceToArrayPointer t x=>simp only[res,Op.operands]at*;rw[hg x (by simp)];exact h
 |extract x i=>simp only[res,Op.operands]at*;rw[hg x (by simp)];exact h
 |field t x f=>simp only[res,Op.operands]at*;rw[hg x (by simp)];exact h
 |fieldAddr t x f=>simp only[res,Op.operands]at*;rw[hg x (by simp)];exact h
 |load t x=>simp only[res,Op.operands]at*;rw[hg x (by simp)];exact resLoad_congr h hG
 |store t x y=>simp only[res,Op.operands]at*;rw[hg x (by simp),hg y (by simp)];exact resStore_congr h hG
 |indexAddr t x y=>simp only[res,Op.operands]at*;rw[hg x (by simp),hg y (by simp)];exact resIndexAddr_congr h hG
 |index t x y=>simp only[res,Op.operands]at*;rw[hg x (by simp),hg y (by simp)];exact h
 |slice t x lo hi mx=>
  cases mx with
  |some m=>
   cases hi with
   |none=>simp only[res]at h;cases h
   |some hi=>
    simp only[res,Op.operands]at*;rw[hg x (by simp)]
    rw[show(fun _=>boundA g' 0 lo)=fun(_:Nat)=>boundA g 0 lo from by funext _;exact boundA_congr fun y hy=>hg y (by simp[hy]),
     show(fun(n:Nat)=>boundA g' n (some hi))=fun(n:Nat)=>boundA g n (some hi)from by funext _;exact boundA_congr fun y hy=>hg y (by simp[hy]),
     show(fun(n:Nat)=>boundA g' n (some m))=fun(n:Nat)=>boundA g n (some m)from by funext _;exact boundA_congr fun y hy=>hg y (by simp[hy])]
    exact resSliceM_congr rfl rfl rfl h hG
  |none=>
   simp only[res,Op.operands]at*;rw[hg x (by simp)]
   exact resSlice_congr (by funext _;exact boundA_congr fun y hy=>hg y (by simp[hy])) (by funext _;exact boundA_congr fun y hy=>hg y (by simp[hy])) h hG
 |alloc t=>exact h
 |box t x=>simp only[res,Op.operands]at*;rw[hg x (by simp)];exact h
 |build t ps=>
  simp only[res,Op.operands]at*;rw[partsA_congr ps.toList fun p hp=>hg p.2 (by simp;exact⟨p.1,by simpa using hp⟩)];exact h
 |buildSlice t n ps=>
  simp only[res,Op.operands]at*;rw[partsA_congr ps.toList fun p hp=>hg p.2 (by simp;exact⟨p.1,by simpa using hp⟩)];exact h
 |makeSlice t l c=>simp only[res,Op.operands]at*;rw[hg l (by simp),hg c (by simp)];exact h
 |makeMap t r=>
  cases r with
  |none=>exact h
  |some x=>simp only[res]at h;cases h
 |range t x=>simp only[res,Op.operands]at*;rw[hg x (by simp)];exact resRange_congr h hG
 |entry x=>simp only[res,Op.operands]at*;rw[hg x (by simp)];exact resEntry_congr h hG
 |lookup t m x ok=>simp only[res,Op.operands]at*;rw[hg m (by simp),hg x (by simp)];exact resLookup_congr h hG
 |mapUpdate t m x y=>simp only[res,Op.operands]at*;rw[hg m (by simp),hg x (by simp),hg y (by simp)];exact resMapUpdate_congr h hG
 |makeFunc fn f c=>
  simp only[res,Op.operands]at*;rw[getsA_congr f.toList fun x hx=>hg x (by simp at hx⊢;exact .inl hx),getsA_congr c.toList fun x hx=>hg x (by simp at hx⊢;exact .inr hx)];exact h
 |makeInterface t x=>simp only[res,Op.operands]at*;rw[hg x (by simp)];exact h
 |typeAssert x xt t ok=>simp only[res,Op.operands]at*;rw[hg x (by simp)];exact h
 |nilCheck x=>simp only[res,Op.operands]at*;rw[hg x (by simp)];exact h
 |call c=>
  obtain⟨cal,as,ts⟩:=c;cases cal with
  |builtin b=>
   simp only[res,Op.operands,Call.operands]at*;have hm:as.toList.map g'=as.toList.map g:=List.map_congr_left fun x hx=>hg x (by simpa using hx)
   rw[hm];unfold resBuiltin at h⊢;split at h
   ·exact resLen_congr h hG
   ·exact h
   ·exact h
   ·rename_i a' b' t t' _ _
    split at h
    ·rename_i ht;simp only[ht,if_true];subst ht;exact resAppend_congr h hG
    ·rename_i ht;simp only[ht,if_false];exact h
   ·exact h
   ·exact resCopy_congr h hG
   ·cases h
  |value f=>simp only[res]at h;cases h
  |invoke r m=>simp only[res]at h;cases h
 |_=>simp only[res]at h;cases h
end
end Go.AL
namespace Go.AL
open Go.RowKit
def ids1:AV→List Nat
 | .own id _ _=> [id]
 | .ptr id _ _=> [id]
 | .sub id _ _ _=> [id]
 |_=> []
def idsAll(f:AV→List Nat):List AV→List Nat
 |[]=> []
 |x::r=>f x++idsAll f r
def ids2:AV→List Nat
 | .agg xs=>idsAll ids1 xs
 | .fn _ xs ys=>idsAll ids1 xs++idsAll ids1 ys
 |a=>ids1 a
theorem idsAll_mem{f:AV→List Nat}{xs:List AV}{x:AV}{id:Nat}(hx:x∈xs)(h:id∈f x):id∈idsAll f xs:=by
 induction xs with
 |nil=>cases hx
 |cons y r ih=>
  simp only[idsAll,List.mem_append];rcases List.mem_cons.1 hx with rfl|hx
  ·exact .inl h
  ·exact .inr (ih hx)
def frzB:Option Blk→Option Blk
 |some (.cells e s rows w a)=>some (.cells e s rows false a)
 |b=>b
def frz(G:Nat→Option Blk):List Nat→Nat→Option Blk
 |[]=>G
 |id::r=>frz (upd G [(id,frzB (G id))]) r
theorem frz_nil(G:Nat→Option Blk):frz G []=G:=rfl
theorem frz_cons(G:Nat→Option Blk)(id:Nat)(r:List Nat):frz G (id::r)=frz (upd G [(id,frzB (G id))]) r:=rfl
section
variable {E : Env} {W : World}
theorem freeze1{H:Heap}(hH:RH E W H){id:Nat}{e:TypeId}{s:Nat}{rows:List (List AV)}{w a:Bool}(hg:H.get id=some (.cells e s rows w a)):
  Evo E W ⟨E.ι,E.sz,E.U,fun b=>if b=E.ι id then max (E.L b) (rows.length*s)else E.L b⟩ W∧
   RH ⟨E.ι,E.sz,E.U,fun b=>if b=E.ι id then max (E.L b) (rows.length*s)else E.L b⟩ W ⟨H.next,upd H.get [(id,some (.cells e s rows false a))]⟩:=by
 obtain⟨hU,hok⟩:=hH.core.ok id _ hg
 have hv:Evo E W ⟨E.ι,E.sz,E.U,fun b=>if b=E.ι id then max (E.L b) (rows.length*s)else E.L b⟩ W:=by
  refine⟨rfl,rfl,rfl,Nat.le_refl _,fun _ h=>h,fun _ _=>⟨rfl,rfl⟩,fun b=> ?_,fun _ _ _=>rfl,fun _ _ _=>rfl,fun b cur e f h=>⟨cur,f,h,rfl⟩,fun b hb hf=> ?_,fun _ h h'=>absurd h' h,fun b r h=>⟨r,h,rfl⟩⟩
  ·simp only[];split<;>omega
  ·simp only[];rw[if_neg (fun h=>hf id hU h.symm)]
 refine⟨hv,hH.next,fun b hb=> ?_,hH.core.inW,fun id' b' hb'=> ?_⟩
 ·simp only[]
  have:=hH.core.inW id hU;rw[if_neg (by omega)]
  exact hH.core.lim b hb
 ·simp only[upd]at hb'
  have hsame:∀id'' b'',(if id''=id then some (Blk.cells e s rows false a)else H.get id'')=some b''→∃b0,H.get id''=some b0∧b''.upto=b0.upto∧(b0.app=false→b''.app=false):=fun id'' b'' h=>by
   split at h
   ·rename_i heq
    injection h with h
    subst h;subst heq;exact⟨_,hg,rfl,fun h=>h⟩
   ·exact⟨b'',h,rfl,fun h=>h⟩
  by_cases hid:id'=id
  ·subst hid
   rw[if_pos rfl]at hb';injection hb' with hb'
   subst hb';obtain⟨h1,h2,⟨cur,h3,h4,h5⟩,h6,h7⟩:=hok;refine⟨hU,h1,h2,⟨cur,h3,h4,fun i j row x hr hx=> ?_⟩,(fun h=>by cases h),fun ha=> ?_⟩
   ·obtain⟨v,hv1,hv2⟩:=h5 i j row x hr hx
    exact⟨v,hv1,hv2.mono hv⟩
   ·obtain⟨h8,h9⟩:=h7 ha
    refine⟨?_,fun id'' b'' hne hg'' heq=> ?_⟩
    ·simp only[if_true];omega
    ·obtain⟨b0,h10,h11,h12⟩:=hsame id'' b'' hg''
     obtain⟨h13,h14⟩:=h9 id'' b0 hne h10 heq;exact⟨by rw[h11];exact h13,h12 h14⟩
  ·rw[if_neg hid]at hb'
   obtain⟨hU',hok'⟩:=hH.core.ok id' b' hb';refine⟨hU',?_⟩;cases b' with
   |map es=>
   obtain⟨⟨ms,clock,h1,h2,h3,h4⟩,h5,h6⟩:=hok';have hne:=h6 id _ (Ne.symm hid) hg;refine⟨⟨ms,clock,h1,h2,h3,fun i k x hx=> ?_⟩,?_,fun id'' b'' hne' hg''=> ?_⟩
   ·obtain⟨e,he1,he2,he3⟩:=h4 i k x hx
    exact⟨e,he1,he2,he3.mono hv⟩
   ·simp only[]
    rw[if_neg (fun h=>hne h.symm)]
    exact h5
   ·obtain⟨b0,h10,h11,h12⟩:=hsame id'' b'' hg''
    exact h6 id'' b0 hne' h10
   |iter m n seen=>
   obtain⟨⟨h1,h3⟩,h5,h6⟩:=hok';have hne:=h6 id _ (Ne.symm hid) hg;refine⟨⟨h1,h3⟩,?_,fun id'' b'' hne' hg''=> ?_⟩
   ·simp only[]
    rw[if_neg (fun h=>hne h.symm)]
    exact h5
   ·obtain⟨b0,h10,h11,h12⟩:=hsame id'' b'' hg''
    exact h6 id'' b0 hne' h10
   |rcd env nt ps assign body st pend=>
   obtain⟨⟨fn,tmps,D,h1,h2,h3⟩,h5,h6⟩:=hok';have hne:=h6 id _ (Ne.symm hid) hg;refine⟨⟨fn,tmps,D,h1,h2,fun t c a ht=> ?_⟩,?_,fun id'' b'' hne' hg''=> ?_⟩
   ·obtain⟨v,he1,he2,he3⟩:=h3 t c a ht
    exact⟨v,he1,fun hc=>(he2 hc).mono hv,he3⟩
   ·simp only[]
    rw[if_neg (fun h=>hne h.symm)]
    exact h5
   ·obtain⟨b0,h10,h11,h12⟩:=hsame id'' b'' hg''
    exact h6 id'' b0 hne' h10
   |cells e' s' rows' w' a'=>
   obtain⟨h1,h2,⟨cur,h3,h4,h5⟩,h6,h7⟩:=hok';refine⟨h1,h2,⟨cur,h3,h4,fun i j row x hr hx=> ?_⟩,fun hw=> ?_,fun ha=> ?_⟩
   ·obtain⟨v,hv1,hv2⟩:=h5 i j row x hr hx
    exact⟨v,hv1,hv2.mono hv⟩
   ·obtain⟨h8,h9⟩:=h6 hw
    refine⟨?_,fun id'' b'' hne hg''=> ?_⟩
    ·simp only[]
     rw[if_neg (fun h=>h9 id _ (Ne.symm hid) hg h.symm)]
     exact h8
    ·obtain⟨b0,h10,_,_⟩:=hsame id'' b'' hg''
     exact h9 id'' b0 hne h10
   ·obtain⟨h8,h9⟩:=h7 ha
    refine⟨?_,fun id'' b'' hne hg'' heq=> ?_⟩
    ·simp only[]
     split
     ·rename_i heq
      have:=(h9 id _ (Ne.symm hid) hg heq.symm).1;simp only[Blk.upto]at this;omega
     ·exact h8
    ·obtain⟨b0,h10,h11,h12⟩:=hsame id'' b'' hg''
     obtain⟨h13,h14⟩:=h9 id'' b0 hne h10 heq;exact⟨by rw[h11];exact h13,h12 h14⟩
theorem freezeAll:∀(ids:List Nat) {E:Env} {H:Heap},RH E W H→∃L1,Evo E W ⟨E.ι,E.sz,E.U,L1⟩ W∧RH ⟨E.ι,E.sz,E.U,L1⟩ W ⟨H.next,frz H.get ids⟩∧
  ∀id,id∈ids→∀(e:TypeId) (s:Nat) (rows:List (List AV)) (w a:Bool),H.get id=some (.cells e s rows w a)→rows.length*s≤L1 (E.ι id)
 |[],E,H,hH=>⟨E.L,Evo.refl E W,hH,fun id h=>by cases h⟩
 |id::r,E,H,hH=>by
  have step:∃L0,Evo E W ⟨E.ι,E.sz,E.U,L0⟩ W∧RH ⟨E.ι,E.sz,E.U,L0⟩ W ⟨H.next,upd H.get [(id,frzB (H.get id))]⟩∧
    ∀(e:TypeId) (s:Nat) (rows:List (List AV)) (w a:Bool),H.get id=some (.cells e s rows w a)→rows.length*s≤L0 (E.ι id):=by
   have hsame:∀x,frzB x=x→H.get id=x→upd H.get [(id,frzB (H.get id))]=H.get:=fun x h1 h2=>by
    funext k
    simp only[upd];split
    ·rename_i h;subst h;rw[h2,h1]
    ·rfl
   cases hg:H.get id with
   |none=>
    rw[←hg,hsame none rfl hg];exact⟨E.L,Evo.refl E W,hH,fun e s rows w a h=>by rw[hg]at h;cases h⟩
   |some b=>
    cases b with
    |map es=>
     rw[←hg,hsame (some (.map es)) rfl hg];exact⟨E.L,Evo.refl E W,hH,fun e s rows w a h=>by rw[hg]at h;cases h⟩
    |iter a1 a2 a3=>
     rw[←hg,hsame (some (.iter a1 a2 a3)) rfl hg];exact⟨E.L,Evo.refl E W,hH,fun e s rows w a h=>by rw[hg]at h;cases h⟩
    |rcd a1 a2 a3 a4 a5 a6 a7=>
     rw[←hg,hsame (some (.rcd a1 a2 a3 a4 a5 a6 a7)) rfl hg];exact⟨E.L,Evo.refl E W,hH,fun e s rows w a h=>by rw[hg]at h;cases h⟩
    |cells e s rows w a=>
     obtain⟨h1,h2⟩:=freeze1 hH hg;refine⟨_,h1,h2,fun e' s' rows' w' a' h=> ?_⟩
     injection h with h
     injection h with he hs hr hw ha
     subst hs;subst hr;simp only[if_true];omega
  obtain⟨L0,h1,h2,h3⟩:=step;obtain⟨L1,h4,h5,h6⟩:=freezeAll r h2;refine⟨L1,h1.trans h4,h5,fun id' hid' e s rows w a hg=> ?_⟩
  rcases List.mem_cons.1 hid' with rfl|hid'
  ·exact Nat.le_trans (h3 e s rows w a hg) (h4.lim _)
  ·by_cases heq:id'=id
   ·subst heq
    exact Nat.le_trans (h3 e s rows w a hg) (h4.lim _)
   ·exact h6 id' hid' e s rows w a (by simp only[upd];rw[if_neg heq];exact hg)
theorem expoX1{G:Nat→Option Blk}{L1:Nat→Nat}(hG:RC E W G)(hv:Evo E W ⟨E.ι,E.sz,E.U,L1⟩ W){a:AV}{v:Value}(r:RV E W a v)
  (hL:∀id,id∈ids1 a→∀(e:TypeId) (s:Nat) (rows:List (List AV)) (w a:Bool),G id=some (.cells e s rows w a)→rows.length*s≤L1 (E.ι id)):RV ⟨E.ι,E.sz,E.U,L1⟩ W (expo1 G a) v:=by
 unfold expo1;split
 ·rename_i id off len
  split
  ·rename_i rows rd hrows
   have hU:=(own_inv r).1;simp only[rowsOf]at hrows;split at hrows
   ·rename_i e s rows' w ap hget
    split at hrows
    ·rename_i hle
     simp only[Option.some.injEq,Prod.mk.injEq]at hrows;obtain⟨rfl,rfl⟩:=hrows;rcases(own_inv r).2 with⟨cap,hv',hlc,cur0,e0,f0,hcur0,hsz0⟩|⟨hl0,a0,hv'⟩
     ·subst hv'
      obtain⟨_,hszk,hlen,⟨cur,hcur,hsize,hcells⟩,_,_⟩:=hG.ok id _ hget;rw[hcur]at hcur0;injection hcur0 with hcur0
      injection hcur0 with hcur0 he0 hf0
      subst hcur0;subst he0;subst hf0;have hLc:=hL id (by simp[ids1]) e s rows' w ap hget
      have hget':∀(i:Nat) row,((rows'.drop off).take len)[i]? =some row→rows'[off+i]? =some row:=fun i row hr=>by
       rw[List.getElem?_take]at hr;split at hr
       ·rwa[List.getElem?_drop]at hr
       ·cases hr
      have hll:((rows'.drop off).take len).length=len:=by simp;omega
      have hmul:(off+len)*s≤rows'.length*s:=Nat.mul_le_mul_right s hle;refine .snap _ (E.ι id) (off*E.sz id) s len cap (fun i j=>cur.getD ((off+i)*s+j) undef) hll.symm hlc (fun i row hr=>hlen _ row (hget' i row hr)) ?_ (fun i j row x h1 h2=> ?_) (fun i j row x h1 h2=> ?_)
      ·rw[hll,hszk,←Nat.add_mul];simp only[];omega
      ·obtain⟨u,h3,h4⟩:=hcells _ j row x (hget' i row h1) h2
       rw[cell_of_row W _ _ cur e (0,0) hcur,hszk];have he:off*s+(i*s+j)=(off+i)*s+j:=by rw[Nat.add_mul];omega
       rw[he,h3];simp[h3]
      ·obtain⟨u,h3,h4⟩:=hcells _ j row x (hget' i row h1) h2
       simp only[Array.getD_eq_getD_getElem?,h3,Option.getD_some];exact h4.mono hv
     ·subst hl0;subst hv'
      simp only[List.take_zero];exact .snap0 _ _
    ·cases hrows
   ·cases hrows
  ·exact r.mono hv
 ·rename_i id i o
  split
  ·rename_i e s rows w ap hget
   cases r with
   |ptr _ _ _ hU=>
   obtain⟨_,hszk,hlen,⟨cur,hcur,hsize,hcells⟩,_,_⟩:=hG.ok id _ hget;have hLc:=hL id (by simp[ids1]) e s rows w ap hget
   have:=RV.sptr (E:=⟨E.ι,E.sz,E.U,L1⟩) (W:=W) rows i o (E.ι id) 0 s (fun i j=>cur.getD (i*s+j) undef) hlen (by simp only[];omega) (fun i j row x h1 h2=>by
    obtain⟨u,h3,h4⟩:=hcells i j row x h1 h2;rw[cell_of_row W _ _ cur e (0,0) hcur,Nat.zero_add,h3];simp[h3]) (fun i j row x h1 h2=>by
    obtain⟨u,h3,h4⟩:=hcells i j row x h1 h2;simp only[Array.getD_eq_getD_getElem?,h3,Option.getD_some]
    exact h4.mono hv)
   rw[hszk];simpa using this
  ·exact r.mono hv
 ·rename_i id i o len
  split
  ·rename_i row hrow
   obtain⟨e,s,rows,w,ap,hget,hri⟩:=subRow_out hrow;split
   ·rename_i hle
    cases r with
    |sub _ _ _ _ cap hU hlc hsz0=>
    obtain⟨_,hszk,hlen,⟨cur,hcur,hsize,hcells⟩,_,_⟩:=hG.ok id _ hget;have hLc:=hL id (by simp[ids1]) e s rows w ap hget
    have hrl:=hlen i row hri;have hlt:i<rows.length:=(List.getElem?_eq_some_iff.1 hri).1;have hm:=row_le (s:=s) hlt;rw[hszk];refine sub_rv (E:=⟨E.ι,E.sz,E.U,L1⟩) (s:=s) hcur hle hlc (show i*s+o+len≤L1 (E.ι id)by omega) fun j x h1 h2 hx=> ?_
    obtain⟨u,h3,h4⟩:=hcells i j row x hri hx;exact⟨u,h3,h4.mono hv⟩
   ·exact r.mono hv
  ·exact r.mono hv
 ·exact r.mono hv
theorem expoX2{G:Nat→Option Blk}{L1:Nat→Nat}(hG:RC E W G)(hv:Evo E W ⟨E.ι,E.sz,E.U,L1⟩ W){a:AV}{v:Value}(r:RV E W a v)
  (hL:∀id,id∈ids2 a→∀(e:TypeId) (s:Nat) (rows:List (List AV)) (w a:Bool),G id=some (.cells e s rows w a)→rows.length*s≤L1 (E.ι id)):RV ⟨E.ι,E.sz,E.U,L1⟩ W (expo2 G a) v:=by
 unfold expo2;split
 ·rename_i xs
  cases r with
  |agg _ vs hl hr=>
  refine .agg _ vs (by simpa using hl) fun i x v hx hv'=> ?_
  rw[List.getElem?_map]at hx;obtain⟨y,hy,rfl⟩:=map_some hx;exact expoX1 hG hv (hr i y v hy hv') fun id hid=>hL id (idsAll_mem (List.mem_of_getElem? hy) hid)
 ·rename_i f xs ys
  cases r with
  |fn _ _ _ vf vc hl hl2 hr hr2=>
  refine .fn _ _ _ vf vc (by simpa using hl) (by simpa using hl2) (fun i x v hx hv'=> ?_) (fun i x v hx hv'=> ?_)
  ·rw[List.getElem?_map]at hx
   obtain⟨y,hy,rfl⟩:=map_some hx;exact expoX1 hG hv (hr i y v hy hv') fun id hid=>hL id (List.mem_append_left _ (idsAll_mem (List.mem_of_getElem? hy) hid))
  ·rw[List.getElem?_map]at hx
   obtain⟨y,hy,rfl⟩:=map_some hx;exact expoX1 hG hv (hr2 i y v hy hv') fun id hid=>hL id (List.mem_append_right _ (idsAll_mem (List.mem_of_getElem? hy) hid))
 ·rename_i hne hne2
  refine expoX1 hG hv r fun id hid=>hL id ?_
  cases a<;>first|exact hid|exact absurd rfl (hne _)|exact absurd rfl (hne2 _ _ _)
theorem ACall.pureX{P:Program}{n:FuncId}{args0 args:List AV}{Q:AV→Prop}{H:Heap}(h:PCall P n args Q)(he:args0.map (expo2 H.get)=args)(ha:∀a∈args,NoId a){K:AV→Heap→Prop}
  (hk:∀r,NoId r→Q r→K r ⟨H.next,frz H.get (idsAll ids2 args0)⟩):ACall P n args0 H K:=
 ⟨h.1,fun E W vs hH hr=>by
   obtain⟨L1,h1,h2,h3⟩:=freezeAll (W:=W) (idsAll ids2 args0) hH
   have hrx:RVs ⟨E.ι,E.sz,E.U,L1⟩ W args vs:=by
    subst he;refine⟨by simpa using hr.1,fun i x v hx hv=> ?_⟩
    rw[List.getElem?_map]at hx;obtain⟨y,hy,rfl⟩:=map_some hx;exact expoX2 hH.core h1 (hr.2 i y v hy hv) fun id hid=>h3 id (idsAll_mem (List.mem_of_getElem? hy) hid)
   exact(h.run ha h2 hrx).mono fun e W' ⟨v,hev,r,L',h4,h5,h6,h7,h8⟩=>⟨v,hev,_,r,_,h1.trans h4,h5,h6,hk r h7 h8⟩⟩
end
theorem frzB_frzB(x:Option Blk):frzB (frzB x)=frzB x:=by
 cases x with
 |none=>rfl
 |some b=>cases b<;>rfl
theorem frz_upd:∀(ids:List Nat) (G:Nat→Option Blk),frz G ids=upd G (ids.map fun id=>(id,frzB (G id)))
 |[],G=>rfl
 |id::r,G=>by
  rw[frz_cons,frz_upd r]
  have:(r.map fun j=>(j,frzB (upd G [(id,frzB (G id))] j)))=r.map fun j=>(j,frzB (G j)):=by
   refine List.map_congr_left fun j _=> ?_
   simp only[upd];split
   ·rename_i h;subst h;rw[frzB_frzB]
   ·rfl
  rw[this];rfl
theorem rowsOf_own{G G':Nat→Option Blk}{id off len:Nat}(h:G' id=G id):rowsOf G' (.own id off len)=rowsOf G (.own id off len):=by simp only[rowsOf,h]
theorem expo1_congr{G G':Nat→Option Blk}{a:AV}(h:∀id∈ids1 a,G' id=G id):expo1 G' a=expo1 G a:=by
 cases a with
 |own id off len=>simp only[expo1,rowsOf_own (h id (by simp[ids1]))]
 |ptr id i o=>simp only[expo1,h id (by simp[ids1])]
 |sub id i o len=>simp only[expo1,h id (by simp[ids1])]
 |_=>rfl
theorem expo1_congrL{G G':Nat→Option Blk}:∀(xs:List AV),(∀id∈idsAll ids1 xs,G' id=G id)→xs.map (expo1 G')=xs.map (expo1 G)
 |[],_=>rfl
 |x::r,h=>by
  simp only[List.map_cons];rw[expo1_congr fun id hid=>h id (by simp only[idsAll];exact List.mem_append_left _ hid),expo1_congrL r fun id hid=>h id (by simp only[idsAll];exact List.mem_append_right _ hid)]
theorem expo2_congr{G G':Nat→Option Blk}{a:AV}(h:∀id∈ids2 a,G' id=G id):expo2 G' a=expo2 G a:=by
 cases a with
 |agg xs=>simp only[expo2];rw[expo1_congrL xs h]
 |fn f xs ys=>simp only[expo2];rw[expo1_congrL xs fun id hid=>h id (by simp only[ids2];exact List.mem_append_left _ hid),expo1_congrL ys fun id hid=>h id (by simp only[ids2];exact List.mem_append_right _ hid)]
 |own id off len=>exact expo1_congr (a:= .own id off len) fun id hid=>h id hid
 |ptr id i o=>exact expo1_congr (a:= .ptr id i o) fun id hid=>h id hid
 |sub id i o len=>exact expo1_congr (a:= .sub id i o len) fun id hid=>h id hid
 |_=>rfl
theorem expo2_congrL{G G':Nat→Option Blk}:∀(xs:List AV),(∀id∈idsAll ids2 xs,G' id=G id)→xs.map (expo2 G')=xs.map (expo2 G)
 |[],_=>rfl
 |x::r,h=>by
  simp only[List.map_cons];rw[expo2_congr fun id hid=>h id (by simp only[idsAll];exact List.mem_append_left _ hid),expo2_congrL r fun id hid=>h id (by simp only[idsAll];exact List.mem_append_right _ hid)]
end Go.AL
namespace Go.AL
open Go.RowKit
def expoD(G:Nat→Option Blk):Nat→AV→AV
 |0,a=>a
 |k+1,.own id off len=>match rowsOf G (.own id off len)with
  |some (rows,_)=> .snap (rows.map fun row=>row.map (expoD G k))
  |none=> .own id off len
 |k+1,.ptr id i o=>match G id with
  |some (.cells _ _ rows _ _)=> .sptr (rows.map fun row=>row.map (expoD G k)) i o
  |_=> .ptr id i o
 |k+1,.agg xs=> .agg (xs.map (expoD G k))
 |k+1,.tup xs=> .tup (xs.map (expoD G k))
 |k+1,.fn f xs ys=> .fn f (xs.map (expoD G k)) (ys.map (expoD G k))
 |_+1,a=>a
def idsD(G:Nat→Option Blk):Nat→AV→List Nat
 |0,_=> []
 |k+1,.own id off len=>id::match rowsOf G (.own id off len)with
  |some (rows,_)=>rows.flatMap fun row=>row.flatMap (idsD G k)
  |none=> []
 |k+1,.ptr id i o=>id::match G id with
  |some (.cells _ _ rows _ _)=>rows.flatMap fun row=>row.flatMap (idsD G k)
  |_=> []
 |k+1,.agg xs=>xs.flatMap (idsD G k)
 |k+1,.tup xs=>xs.flatMap (idsD G k)
 |k+1,.fn f xs ys=>xs.flatMap (idsD G k)++ys.flatMap (idsD G k)
 |_+1,_=> []
theorem rowsOf_congrD{G G':Nat→Option Blk}{id off len:Nat}(h:G' id=G id):rowsOf G' (.own id off len)=rowsOf G (.own id off len):=by
 simp only[rowsOf,h]
theorem expoD_congr{G G':Nat→Option Blk}:∀(k:Nat) (a:AV),(∀id∈idsD G k a,G' id=G id)→expoD G' k a=expoD G k a
 |0,a,h=>rfl
 |k+1,a,h=>by
  have hrows:∀rows:List (List AV),(∀id∈rows.flatMap fun row=>row.flatMap (idsD G k),G' id=G id)→(rows.map fun row=>row.map (expoD G' k))=rows.map fun row=>row.map (expoD G k):=fun rows h=>by
   refine List.map_congr_left fun row hr=>List.map_congr_left fun x hx=>expoD_congr k x fun id hid=>h id ?_
   exact List.mem_flatMap.2 ⟨row,hr,List.mem_flatMap.2 ⟨x,hx,hid⟩⟩
  have hl:∀xs:List AV,(∀id∈xs.flatMap (idsD G k),G' id=G id)→xs.map (expoD G' k)=xs.map (expoD G k):=fun xs h=>
   List.map_congr_left fun x hx=>expoD_congr k x fun id hid=>h id (List.mem_flatMap.2 ⟨x,hx,hid⟩)
  cases a with
  |own id off len=>
   simp only[idsD]at h;simp only[expoD];rw[rowsOf_congrD (h id (List.mem_cons_self ..))];cases hr:rowsOf G (.own id off len)with
   |none=>rfl
   |some p=>
    obtain⟨rows,rd⟩:=p;rw[hr]at h;simp only[];rw[hrows rows fun id' hid=>h id' (List.mem_cons_of_mem _ hid)]
  |ptr id i o=>
   simp only[idsD]at h;simp only[expoD];rw[h id (List.mem_cons_self ..)];cases hr:G id with
   |none=>rfl
   |some b=>
    cases b with
    |cells e s rows w a=>
     rw[hr]at h;simp only[];rw[hrows rows fun id' hid=>h id' (List.mem_cons_of_mem _ hid)]
    |map es=>rfl
    |rcd=>rfl
    |iter=>rfl
  |agg xs=>simp only[expoD];rw[hl xs h]
  |tup xs=>simp only[expoD];rw[hl xs h]
  |fn f xs ys=>
   simp only[expoD];rw[hl xs fun id hid=>h id (List.mem_append_left _ hid),hl ys fun id hid=>h id (List.mem_append_right _ hid)]
  |c x=>rfl
  |snap rows=>rfl
  |sptr rows i o=>rfl
  |sub=>rfl
  |omap=>rfl
  |yld=>rfl
theorem idsD_congr{G G':Nat→Option Blk}:∀(k:Nat) (a:AV),(∀id∈idsD G k a,G' id=G id)→idsD G' k a=idsD G k a
 |0,a,h=>rfl
 |k+1,a,h=>by
  have hl:∀xs:List AV,(∀id∈xs.flatMap (idsD G k),G' id=G id)→xs.flatMap (idsD G' k)=xs.flatMap (idsD G k):=fun xs h=>by
   simp only[List.flatMap];rw[List.map_congr_left fun x hx=>idsD_congr k x fun id hid=>h id (List.mem_flatMap.2 ⟨x,hx,hid⟩)]
  have hrows:∀rows:List (List AV),(∀id∈rows.flatMap fun row=>row.flatMap (idsD G k),G' id=G id)→(rows.flatMap fun row=>row.flatMap (idsD G' k))=rows.flatMap fun row=>row.flatMap (idsD G k):=fun rows h=>by
   have h1:rows.map (fun row=>row.flatMap (idsD G' k))=rows.map fun row=>row.flatMap (idsD G k):=List.map_congr_left fun row hr=>hl row fun id hid=>h id (List.mem_flatMap.2 ⟨row,hr,hid⟩)
   unfold List.flatMap at h1⊢;exact congrArg List.flatten h1
  cases a with
  |own id off len=>
   simp only[idsD]at h⊢;rw[rowsOf_congrD (h id (List.mem_cons_self ..))];cases hr:rowsOf G (.own id off len)with
   |none=>rfl
   |some p=>
    obtain⟨rows,rd⟩:=p;rw[hr]at h;simp only[];rw[hrows rows fun id' hid=>h id' (List.mem_cons_of_mem _ hid)]
  |ptr id i o=>
   simp only[idsD]at h⊢;rw[h id (List.mem_cons_self ..)];cases hr:G id with
   |none=>rfl
   |some b=>
    cases b with
    |cells e s rows w a=>
     rw[hr]at h;simp only[];rw[hrows rows fun id' hid=>h id' (List.mem_cons_of_mem _ hid)]
    |map es=>rfl
    |rcd=>rfl
    |iter=>rfl
  |agg xs=>exact hl xs h
  |tup xs=>exact hl xs h
  |fn f xs ys=>
   simp only[idsD];rw[hl xs fun id hid=>h id (List.mem_append_left _ hid),hl ys fun id hid=>h id (List.mem_append_right _ hid)]
  |c x=>rfl
  |snap rows=>rfl
  |sptr rows i o=>rfl
  |sub=>rfl
  |omap=>rfl
  |yld=>rfl
theorem expoD_ok{E:Env}{W:World}{G:Nat→Option Blk}{L:Nat→Nat}(hG:RC E W G)(hL:∀b,E.L b≤L b)(hown:∀id,E.U id→∀(cur:Array Value) (e:TypeId) (f:Nat×Nat),W.heap[E.ι id]? =some (Obj.cells cur e f)→cur.size≤L (E.ι id)):
  ∀(k:Nat) {a:AV} {v:Value},RV E W a v→NoId (expoD G k a)→RV (Env0 L) W (expoD G k a) v
 |0,a,v,r,h=>r.toPlain hL h
 |k+1,a,v,r,h=>by
  have hl:∀(xs:List AV) (vs:List Value),(∀(i:Nat) x v,xs[i]? =some x→vs[i]? =some v→RV E W x v)→(∀x∈xs.map (expoD G k),NoId x)→∀(i:Nat) x v,(xs.map (expoD G k))[i]? =some x→vs[i]? =some v→RV (Env0 L) W x v:=fun xs vs hr hn i x v hx hv=>by
   have hm:=hn x (List.mem_of_getElem? hx);rw[List.getElem?_map]at hx;obtain⟨y,hy,rfl⟩:=map_some hx;exact expoD_ok hG hL hown k (hr i y v hy hv) hm
  have hrow:∀{rows:List (List AV)} {i j:Nat} {row:List AV} {x:AV},(rows.map fun row=>row.map (expoD G k))[i]? =some row→row[j]? =some x→∃row0 x0,rows[i]? =some row0∧row0[j]? =some x0∧x=expoD G k x0∧row.length=row0.length:=fun{rows i j row x} h1 h2=>by
   rw[List.getElem?_map]at h1;obtain⟨row0,h3,rfl⟩:=map_some h1;rw[List.getElem?_map]at h2;obtain⟨x0,h4,rfl⟩:=map_some h2;exact⟨row0,x0,h3,h4,rfl,by simp⟩
  have hlen:∀{rows:List (List AV)} {s i:Nat} {row:List AV},(∀(i:Nat) row,rows[i]? =some row→row.length=s)→(rows.map fun row=>row.map (expoD G k))[i]? =some row→row.length=s:=fun{rows s i row} h0 h1=>by
   rw[List.getElem?_map]at h1;obtain⟨row0,h3,rfl⟩:=map_some h1;simpa using h0 i row0 h3
  cases a with
  |own id off len=>
   simp only[expoD]at h⊢;split at h
   ·rename_i rows rd hrows
    have hU:=(own_inv r).1;rcases(own_inv r).2 with⟨cap,hv,hlc,cur0,e0,f0,hcur0,hsz0⟩|⟨hl0,a0,hv⟩
    ·subst hv
     simp only[rowsOf]at hrows;split at hrows
     ·rename_i e s rows' w ap hget
      split at hrows
      ·rename_i hle
       simp only[Option.some.injEq,Prod.mk.injEq]at hrows;obtain⟨rfl,rfl⟩:=hrows;obtain⟨_,hszk,hlen',⟨cur,hcur,hsize,hcells⟩,_,_⟩:=hG.ok id _ hget;rw[hcur]at hcur0;injection hcur0 with hcur0
       injection hcur0 with hcur0 he0 hf0
       subst hcur0;subst he0;subst hf0;have hLc:=hown id hU cur e (0,0) hcur;rw[noId_snap]at h
       have hget':∀(i:Nat) row,((rows'.drop off).take len)[i]? =some row→rows'[off+i]? =some row:=fun i row hr=>by
        rw[List.getElem?_take]at hr;split at hr
        ·rwa[List.getElem?_drop]at hr
        ·cases hr
       have hll:((rows'.drop off).take len).length=len:=by simp;omega
       have hmul:(off+len)*s≤rows'.length*s:=Nat.mul_le_mul_right s hle;refine .snap _ (E.ι id) (off*E.sz id) s len cap (fun i j=>cur.getD ((off+i)*s+j) undef) (by rw[List.length_map];exact hll.symm) hlc (fun i row hr=>hlen (fun i row hr=>hlen' _ row (hget' i row hr)) hr) ?_ (fun i j row x h1 h2=> ?_) (fun i j row x h1 h2=> ?_)
       ·rw[List.length_map,hll,hszk,←Nat.add_mul];simp only[Env0];omega
       ·obtain⟨row0,x0,h5,h6,rfl,_⟩:=hrow h1 h2
        obtain⟨u,h3,h4⟩:=hcells _ j row0 x0 (hget' i row0 h5) h6;rw[cell_of_row W _ _ cur e (0,0) hcur,hszk];have he:off*s+(i*s+j)=(off+i)*s+j:=by rw[Nat.add_mul];omega
        rw[he,h3];simp[h3]
       ·have hno:=h row (List.mem_of_getElem? h1) x (List.mem_of_getElem? h2)
        obtain⟨row0,x0,h5,h6,rfl,_⟩:=hrow h1 h2;obtain⟨u,h3,h4⟩:=hcells _ j row0 x0 (hget' i row0 h5) h6;simp only[Array.getD_eq_getD_getElem?,h3,Option.getD_some];exact expoD_ok hG hL hown k h4 hno
      ·cases hrows
     ·cases hrows
    ·subst hl0;subst hv
     have:rows=[]:=by
      simp only[rowsOf]at hrows;split at hrows
      ·split at hrows
       ·simp at hrows;exact hrows.1
       ·cases hrows
      ·cases hrows
     subst this;exact .snap0 _ _
   ·cases h
  |ptr id i o=>
   simp only[expoD]at h⊢;split at h
   ·rename_i e s rows w ap hget
    cases r with
    |ptr _ _ _ hU=>
    obtain⟨_,hszk,hlen',⟨cur,hcur,hsize,hcells⟩,_,_⟩:=hG.ok id _ hget;have hLc:=hown id hU cur e (0,0) hcur;cases h with
    |sptr _ _ _ h=>
    have:=RV.sptr (E:=Env0 L) (W:=W) (rows.map fun row=>row.map (expoD G k)) i o (E.ι id) 0 s (fun i j=>cur.getD (i*s+j) undef) (fun i row hr=>hlen hlen' hr) (by rw[List.length_map];simp only[Env0];omega) (fun i j row x h1 h2=>by
     obtain⟨row0,x0,h5,h6,rfl,_⟩:=hrow h1 h2;obtain⟨u,h3,h4⟩:=hcells i j row0 x0 h5 h6;rw[cell_of_row W _ _ cur e (0,0) hcur,Nat.zero_add,h3];simp[h3]) (fun i j row x h1 h2=>by
     have hno:=h row (List.mem_of_getElem? h1) x (List.mem_of_getElem? h2);obtain⟨row0,x0,h5,h6,rfl,_⟩:=hrow h1 h2;obtain⟨u,h3,h4⟩:=hcells i j row0 x0 h5 h6;simp only[Array.getD_eq_getD_getElem?,h3,Option.getD_some]
     exact expoD_ok hG hL hown k h4 hno)
    rw[hszk];simpa using this
   ·cases h
  |agg xs=>
   simp only[expoD]at h⊢;rw[noId_agg]at h;cases r with
   |agg _ vs hl' hr=>
   exact .agg _ vs (by simpa using hl') fun i x v hx hv=>hl xs vs.toList (fun i x v hx hv=>hr i x v hx (by simpa using hv)) h i x v hx (by simpa using hv)
  |tup xs=>
   simp only[expoD]at h⊢;rw[noId_tup]at h;cases r with
   |tup _ vs hl' hr=>
   exact .tup _ vs (by simpa using hl') fun i x v hx hv=>hl xs vs.toList (fun i x v hx hv=>hr i x v hx (by simpa using hv)) h i x v hx (by simpa using hv)
  |fn f xs ys=>
   simp only[expoD]at h⊢;cases h with
   |fn _ _ _ hn1 hn2=>
   cases r with
   |fn _ _ _ vf vc hl1 hl2 hr hr2=>
   exact .fn _ _ _ vf vc (by simpa using hl1) (by simpa using hl2) (fun i x v hx hv=>hl xs vf.toList (fun i x v hx hv=>hr i x v hx (by simpa using hv)) hn1 i x v hx (by simpa using hv)) (fun i x v hx hv=>hl ys vc.toList (fun i x v hx hv=>hr2 i x v hx (by simpa using hv)) hn2 i x v hx (by simpa using hv))
  |c x=>exact r.toPlain hL h
  |snap rows=>exact r.toPlain hL h
  |sptr rows i o=>exact r.toPlain hL h
  |sub=>exact r.toPlain hL h
  |omap=>exact r.toPlain hL h
  |yld=>exact r.toPlain hL h
mutual
def kB:AV→Bool
 | .c _=>true
 | .agg xs=>kBs xs
 | .tup xs=>kBs xs
 | .snap rows=>rows.isEmpty
 | .fn _ xs ys=>kBs xs&&kBs ys
 |_=>false
def kBs:List AV→Bool
 |[]=>true
 |x::r=>kB x&&kBs r
end
theorem kBs_mem:∀{xs:List AV},kBs xs=true→∀x∈xs,kB x=true
 |[],_,x,hx=>by cases hx
 |y::r,h,x,hx=>by
  simp only[kBs,Bool.and_eq_true]at h;rcases List.mem_cons.1 hx with h1|h1
  ·rw[h1];exact h.1
  ·exact kBs_mem h.2 x h1
theorem rv_kB{E E':Env}{W:World}{a:AV}{v:Value}(r:RV E W a v):kB a=true→RV E' W a v:=by
 induction r with
 |c x hx=>intro _;exact .c x hx
 |agg xs vs hl _ ih=>intro h;simp only[kB]at h;exact .agg xs vs hl fun i x v hx hv=>ih i x v hx hv (kBs_mem h x (List.mem_of_getElem? hx))
 |tup xs vs hl _ ih=>intro h;simp only[kB]at h;exact .tup xs vs hl fun i x v hx hv=>ih i x v hx hv (kBs_mem h x (List.mem_of_getElem? hx))
 |snap rows b off s n cap vs hn hcap hs hL hc hr ih=>
  intro h;simp only[kB,List.isEmpty_iff]at h;subst h;simp only[List.length_nil]at hn;subst hn;exact .snap0 _ _
 |snap0 a cap=>intro _;exact .snap0 a cap
 |fn f first cap vf vc hl hl2 _ _ ih1 ih2=>
  intro h;simp only[kB,Bool.and_eq_true]at h;exact .fn f first cap vf vc hl hl2 (fun i x v hx hv=>ih1 i x v hx hv (kBs_mem h.1 x (List.mem_of_getElem? hx))) (fun i x v hx hv=>ih2 i x v hx hv (kBs_mem h.2 x (List.mem_of_getElem? hx)))
 |sptr=>intro h;simp only[kB]at h;cases h
 |own=>intro h;simp only[kB]at h;cases h
 |own0=>intro h;simp only[kB]at h;cases h
 |sub=>intro h;simp only[kB]at h;cases h
 |ptr=>intro h;simp only[kB]at h;cases h
 |omap=>intro h;simp only[kB]at h;cases h
 |yld=>intro h;simp only[kB]at h;cases h
def fresh(G:Nat→Option Blk):Nat→AV→Bool
 |0,a=>kB a
 |k+1,.own id off len=>match rowsOf G (.own id off len)with
  |some (rows,_)=>rows.all fun row=>row.all (fresh G k)
  |none=>false
 |k+1,.ptr id i o=>match G id with
  |some (.cells _ _ rows _ _)=>rows.all fun row=>row.all (fresh G k)
  |_=>false
 |k+1,.agg xs=>xs.all (fresh G k)
 |k+1,.tup xs=>xs.all (fresh G k)
 |k+1,.fn _ xs ys=>xs.all (fresh G k)&&ys.all (fresh G k)
 |_+1,a=>kB a
theorem expoD_freshI{E:Env}{W:World}{G:Nat→Option Blk}{L:Nat→Nat}(hG:RC E W G):
  ∀(k:Nat) {a:AV} {v:Value},(∀id∈idsD G k a,(G id).isSome=true→E.U id→∀(cur:Array Value) (e:TypeId) (f:Nat×Nat),W.heap[E.ι id]? =some (Obj.cells cur e f)→cur.size≤L (E.ι id))→RV E W a v→fresh G k a=true→RV (Env0 L) W (expoD G k a) v
 |0,a,v,_,r,h=>rv_kB r h
 |k+1,a,v,hown,r,h=>by
  have hl:∀(xs:List AV) (vs:List Value),(∀id∈xs.flatMap (idsD G k),(G id).isSome=true→E.U id→∀(cur:Array Value) (e:TypeId) (f:Nat×Nat),W.heap[E.ι id]? =some (Obj.cells cur e f)→cur.size≤L (E.ι id))→(∀(i:Nat) x v,xs[i]? =some x→vs[i]? =some v→RV E W x v)→(∀x∈xs,fresh G k x=true)→∀(i:Nat) x v,(xs.map (expoD G k))[i]? =some x→vs[i]? =some v→RV (Env0 L) W x v:=fun xs vs ho hr hn i x v hx hv=>by
   rw[List.getElem?_map]at hx;obtain⟨y,hy,rfl⟩:=map_some hx;exact expoD_freshI hG k (fun id hid=>ho id (List.mem_flatMap.2 ⟨y,List.mem_of_getElem? hy,hid⟩)) (hr i y v hy hv) (hn y (List.mem_of_getElem? hy))
  have hrow:∀{rows:List (List AV)} {i j:Nat} {row:List AV} {x:AV},(rows.map fun row=>row.map (expoD G k))[i]? =some row→row[j]? =some x→∃row0 x0,rows[i]? =some row0∧row0[j]? =some x0∧x=expoD G k x0∧row.length=row0.length:=fun{rows i j row x} h1 h2=>by
   rw[List.getElem?_map]at h1;obtain⟨row0,h3,rfl⟩:=map_some h1;rw[List.getElem?_map]at h2;obtain⟨x0,h4,rfl⟩:=map_some h2;exact⟨row0,x0,h3,h4,rfl,by simp⟩
  have hlen:∀{rows:List (List AV)} {s i:Nat} {row:List AV},(∀(i:Nat) row,rows[i]? =some row→row.length=s)→(rows.map fun row=>row.map (expoD G k))[i]? =some row→row.length=s:=fun{rows s i row} h0 h1=>by
   rw[List.getElem?_map]at h1;obtain⟨row0,h3,rfl⟩:=map_some h1;simpa using h0 i row0 h3
  cases a with
  |own id off len=>
   simp only[expoD];simp only[fresh]at h;split at h
   ·rename_i rows rd hrows
    have hfr:∀(i j:Nat) row x,rows[i]? =some row→row[j]? =some x→fresh G k x=true:=fun i j row x h1 h2=>List.all_eq_true.1 (List.all_eq_true.1 h row (List.mem_of_getElem? h1)) x (List.mem_of_getElem? h2)
    have hown':∀(i j:Nat) row x,rows[i]? =some row→row[j]? =some x→∀id∈idsD G k x,(G id).isSome=true→E.U id→∀(cur:Array Value) (e:TypeId) (f:Nat×Nat),W.heap[E.ι id]? =some (Obj.cells cur e f)→cur.size≤L (E.ι id):=fun i j row x h1 h2 id' hid=>hown id' (by
     simp only[idsD,hrows]
     exact List.mem_cons_of_mem _ (List.mem_flatMap.2 ⟨row,List.mem_of_getElem? h1,List.mem_flatMap.2 ⟨x,List.mem_of_getElem? h2,hid⟩⟩))
    have hU:=(own_inv r).1;rcases(own_inv r).2 with⟨cap,hv,hlc,cur0,e0,f0,hcur0,hsz0⟩|⟨hl0,a0,hv⟩
    ·subst hv
     simp only[rowsOf]at hrows;split at hrows
     ·rename_i e s rows' w ap hget
      split at hrows
      ·rename_i hle
       simp only[Option.some.injEq,Prod.mk.injEq]at hrows;obtain⟨rfl,rfl⟩:=hrows;obtain⟨_,hszk,hlen',⟨cur,hcur,hsize,hcells⟩,_,_⟩:=hG.ok id _ hget;rw[hcur]at hcur0;injection hcur0 with hcur0
       injection hcur0 with hcur0 he0 hf0
       subst hcur0;subst he0;subst hf0;have hLc:=hown id (by simp only[idsD];exact List.mem_cons_self ..) (by rw[hget];rfl) hU cur e (0,0) hcur
       have hget':∀(i:Nat) row,((rows'.drop off).take len)[i]? =some row→rows'[off+i]? =some row:=fun i row hr=>by
        rw[List.getElem?_take]at hr;split at hr
        ·rwa[List.getElem?_drop]at hr
        ·cases hr
       have hll:((rows'.drop off).take len).length=len:=by simp;omega
       have hmul:(off+len)*s≤rows'.length*s:=Nat.mul_le_mul_right s hle;refine .snap _ (E.ι id) (off*E.sz id) s len cap (fun i j=>cur.getD ((off+i)*s+j) undef) (by rw[List.length_map];exact hll.symm) hlc (fun i row hr=>hlen (fun i row hr=>hlen' _ row (hget' i row hr)) hr) ?_ (fun i j row x h1 h2=> ?_) (fun i j row x h1 h2=> ?_)
       ·rw[List.length_map,hll,hszk,←Nat.add_mul];simp only[Env0];omega
       ·obtain⟨row0,x0,h5,h6,rfl,_⟩:=hrow h1 h2
        obtain⟨u,h3,h4⟩:=hcells _ j row0 x0 (hget' i row0 h5) h6;rw[cell_of_row W _ _ cur e (0,0) hcur,hszk];have he:off*s+(i*s+j)=(off+i)*s+j:=by rw[Nat.add_mul];omega
        rw[he,h3];simp[h3]
       ·obtain⟨row0,x0,h5,h6,rfl,_⟩:=hrow h1 h2
        obtain⟨u,h3,h4⟩:=hcells _ j row0 x0 (hget' i row0 h5) h6;simp only[Array.getD_eq_getD_getElem?,h3,Option.getD_some];exact expoD_freshI hG k (hown' i j row0 x0 h5 h6) h4 (hfr i j row0 x0 h5 h6)
      ·cases hrows
     ·cases hrows
    ·subst hl0;subst hv
     have:rows=[]:=by
      simp only[rowsOf]at hrows;split at hrows
      ·split at hrows
       ·simp at hrows;exact hrows.1
       ·cases hrows
      ·cases hrows
     subst this;exact .snap0 _ _
   ·cases h
  |ptr id i o=>
   simp only[expoD];simp only[fresh]at h;split at h
   ·rename_i e s rows w ap hget
    have hfr:∀(i j:Nat) row x,rows[i]? =some row→row[j]? =some x→fresh G k x=true:=fun i j row x h1 h2=>List.all_eq_true.1 (List.all_eq_true.1 h row (List.mem_of_getElem? h1)) x (List.mem_of_getElem? h2)
    have hown':∀(i j:Nat) row x,rows[i]? =some row→row[j]? =some x→∀id∈idsD G k x,(G id).isSome=true→E.U id→∀(cur:Array Value) (e:TypeId) (f:Nat×Nat),W.heap[E.ι id]? =some (Obj.cells cur e f)→cur.size≤L (E.ι id):=fun i' j row x h1 h2 id' hid=>hown id' (by
     simp only[idsD,hget]
     exact List.mem_cons_of_mem _ (List.mem_flatMap.2 ⟨row,List.mem_of_getElem? h1,List.mem_flatMap.2 ⟨x,List.mem_of_getElem? h2,hid⟩⟩))
    cases r with
    |ptr _ _ _ hU=>
    obtain⟨_,hszk,hlen',⟨cur,hcur,hsize,hcells⟩,_,_⟩:=hG.ok id _ hget;have hLc:=hown id (by simp only[idsD];exact List.mem_cons_self ..) (by rw[hget];rfl) hU cur e (0,0) hcur
    have:=RV.sptr (E:=Env0 L) (W:=W) (rows.map fun row=>row.map (expoD G k)) i o (E.ι id) 0 s (fun i j=>cur.getD (i*s+j) undef) (fun i row hr=>hlen hlen' hr) (by rw[List.length_map];simp only[Env0];omega) (fun i j row x h1 h2=>by
     obtain⟨row0,x0,h5,h6,rfl,_⟩:=hrow h1 h2;obtain⟨u,h3,h4⟩:=hcells i j row0 x0 h5 h6;rw[cell_of_row W _ _ cur e (0,0) hcur,Nat.zero_add,h3];simp[h3]) (fun i j row x h1 h2=>by
     obtain⟨row0,x0,h5,h6,rfl,_⟩:=hrow h1 h2;obtain⟨u,h3,h4⟩:=hcells i j row0 x0 h5 h6;simp only[Array.getD_eq_getD_getElem?,h3,Option.getD_some]
     exact expoD_freshI hG k (hown' i j row0 x0 h5 h6) h4 (hfr i j row0 x0 h5 h6))
    rw[hszk];simpa using this
   ·cases h
  |agg xs=>
   simp only[expoD];simp only[fresh,List.all_eq_true]at h;cases r with
   |agg _ vs hl' hr=>
   exact .agg _ vs (by simpa using hl') fun i x v hx hv=>hl xs vs.toList (fun id hid=>hown id (by simp only[idsD];exact hid)) (fun i x v hx hv=>hr i x v hx (by simpa using hv)) h i x v hx (by simpa using hv)
  |tup xs=>
   simp only[expoD];simp only[fresh,List.all_eq_true]at h;cases r with
   |tup _ vs hl' hr=>
   exact .tup _ vs (by simpa using hl') fun i x v hx hv=>hl xs vs.toList (fun id hid=>hown id (by simp only[idsD];exact hid)) (fun i x v hx hv=>hr i x v hx (by simpa using hv)) h i x v hx (by simpa using hv)
  |fn f xs ys=>
   simp only[expoD];simp only[fresh,Bool.and_eq_true,List.all_eq_true]at h;cases r with
   |fn _ _ _ vf vc hl1 hl2 hr hr2=>
   exact .fn _ _ _ vf vc (by simpa using hl1) (by simpa using hl2) (fun i x v hx hv=>hl xs vf.toList (fun id hid=>hown id (by simp only[idsD];exact List.mem_append_left _ hid)) (fun i x v hx hv=>hr i x v hx (by simpa using hv)) h.1 i x v hx (by simpa using hv)) (fun i x v hx hv=>hl ys vc.toList (fun id hid=>hown id (by simp only[idsD];exact List.mem_append_right _ hid)) (fun i x v hx hv=>hr2 i x v hx (by simpa using hv)) h.2 i x v hx (by simpa using hv))
  |c x=>exact rv_kB r h
  |snap rows=>exact rv_kB r h
  |sptr rows i o=>exact rv_kB r h
  |sub=>exact rv_kB r h
  |omap=>exact rv_kB r h
  |yld=>exact rv_kB r h
def FCall(P:Program)(n:FuncId)(args:List AV)(a:AV):Prop:=
 enterable P n=true∧∀(L:Nat→Nat) (W:World) (vs:List Value),(∀b,W.heap.size≤b→L b=0)→RVs (Env0 L) W args vs→
  Calls P n vs.toArray W fun e W'=>∃v,e= .returned v∧∃L',Below W.heap.size W W'∧(∀b,b<W.heap.size→L' b=0)∧(∀b,W'.heap.size≤b→L' b=0)∧RV (Env0 L') W' a v∧NoId a
theorem FCall.ofK{P:Program}{n:FuncId}{args:List AV}{a:AV}(h:PCall P n args (·=a))(hk:kB a=true):FCall P n args a:=
 ⟨h.1,fun L W vs hL hr=>(h.2 L W vs hL hr).mono fun e W' ⟨v,he,r,L',h1,h2,h3,h4,h5,h6⟩=>by
   subst h6
   exact⟨v,he,fun _=>0,h1,fun _ _=>rfl,fun _ _=>rfl,rv_kB h4 hk,h5⟩⟩
theorem FCall.toP{P:Program}{n:FuncId}{args:List AV}{a:AV}(h:FCall P n args a):PCall P n args (·=a):=
 ⟨h.1,fun L W vs hL hr=>(h.2 L W vs hL hr).mono fun e W' ⟨v,he,L',h1,h2,h3,h4,h5⟩=>
   ⟨v,he,a,fun b=>if b<W.heap.size then L b else L' b,h1,fun b hb=>by simp[hb],fun b hb=>by
     have:=h1.size;have:¬b<W.heap.size:=by omega
     simp[this,h3 b hb],(h4.toPlain (L:=fun b=>if b<W.heap.size then L b else L' b) (fun b=>by
     simp only[Env0];by_cases hb:b<W.heap.size
     ·rw[h2 b hb];exact Nat.zero_le _
     ·simp[hb]) h5),h5,rfl⟩⟩
theorem FCall.runR{P:Program}{n:FuncId}{args0 args:List AV}{a:AV}{G:Nat→Option Blk}(k:Nat)(h:FCall P n args a)(he:args0.map (expoD G k)=args)(ha:∀a∈args,NoId a){E:Env}{W:World}{H:Heap}(hH:RH E W H)(hG:RC E W G){vs:List Value}(hr:RVs E W args0 vs):
  Calls P n vs.toArray W fun e W'=>∃v,e= .returned v∧∃L',Evo E W ⟨E.ι,E.sz,E.U,L'⟩ W'∧RH ⟨E.ι,E.sz,E.U,L'⟩ W' H∧RV ⟨E.ι,E.sz,E.U,L'⟩ W' a v:=by
 have hsz:∀b,W.heap.size≤b→max (E.L b) (match W.heap[b]? with|some (.cells cur _ _)=>cur.size|_=>0)=0:=fun b hb=>by
  rw[hH.core.lim b hb,Array.getElem?_eq_none hb];rfl
 refine(h.2 (fun b=>max (E.L b) (match W.heap[b]? with|some (.cells cur _ _)=>cur.size|_=>0)) W vs hsz ?_).mono fun e W' ⟨v,hev,L',hb,h2,h3,h4,h5⟩=> ?_
 ·subst he
  refine⟨by simpa using hr.1,fun i x v hx hv=> ?_⟩
  have hno:=ha x (List.mem_of_getElem? hx);rw[List.getElem?_map]at hx;obtain⟨y,hy,rfl⟩:=map_some hx;refine expoD_ok hG (fun b=>Nat.le_max_left _ _) (fun id hU cur e f hc=> ?_) k (hr.2 i y v hy hv) hno
  simp only[hc];exact Nat.le_max_right _ _
 ·subst hev
  have hlt:∀b k,k<E.L b→b<W.heap.size:=fun b k hk=>by
   rcases Nat.lt_or_ge b W.heap.size with h|h
   ·exact h
   ·have:=hH.core.lim b h;omega
  refine⟨v,rfl,fun b=>if b<W.heap.size then E.L b else L' b,?_⟩
  have hL2:∀b,b<W.heap.size→(if b<W.heap.size then E.L b else L' b)=E.L b:=fun b hb=>if_pos hb
  have hv:Evo E W ⟨E.ι,E.sz,E.U,fun b=>if b<W.heap.size then E.L b else L' b⟩ W':=by
   refine⟨hb.os,hb.tape,hb.output,hb.size,fun _ h=>h,fun _ _=>⟨rfl,rfl⟩,fun b=> ?_,fun b k hk=>hb.cell (p:=⟨b,k,none⟩) (hlt b k hk),fun b hb' _=>hb.block b hb',fun b cur e f hc=> ?_,fun b hb' _=>hL2 b hb',fun id h h'=>absurd h' h,fun b r h=>⟨r,by rw[hb.block b (Array.getElem?_eq_some_iff.1 h).1];exact h,rfl⟩⟩
   ·rcases Nat.lt_or_ge b W.heap.size with h|h
    ·exact Nat.le_of_eq (hL2 b h).symm
    ·rw[hH.core.lim b h];exact Nat.zero_le _
   ·exact⟨cur,f,by rw[hb.block b (Array.getElem?_eq_some_iff.1 hc).1];exact hc,rfl⟩
  refine⟨hv,⟨hH.next,fun b hb'=> ?_,fun id hU=>Nat.lt_of_lt_of_le (hH.core.inW id hU) hb.size,fun id b hg=> ?_⟩,h4.fromPlain fun b=> ?_⟩
  ·have:=hb.size
   have hn:¬b<W.heap.size:=by omega
   simp only[hn,if_false];exact h3 b hb'
  ·obtain⟨hU,hok⟩:=hH.core.ok id b hg
   have hlt2:=hH.core.inW id hU;exact⟨hU,hok.mono hv hU (hb.block _ hlt2) (hL2 _ hlt2) fun id' b' _ hg' he'=>⟨b',hg',he',rfl,fun h=>h⟩⟩
  ·by_cases hb':b<W.heap.size
   ·rw[h2 b hb'];exact Nat.zero_le _
   ·simp[hb']
mutual
def noIdB:AV→Bool
 | .c _=>true
 | .agg xs=>noIdBs xs
 | .tup xs=>noIdBs xs
 | .snap rows=>noIdBr rows
 | .sptr rows _ _=>noIdBr rows
 | .fn _ xs ys=>noIdBs xs&&noIdBs ys
 |_=>false
def noIdBs:List AV→Bool
 |[]=>true
 |x::r=>noIdB x&&noIdBs r
def noIdBr:List (List AV)→Bool
 |[]=>true
 |x::r=>noIdBs x&&noIdBr r
end
mutual
theorem noIdB_ok:∀a,noIdB a=true→NoId a
 | .c x,_=> .c x
 | .agg xs,h=> .agg xs (noIdBs_ok xs (by simpa only[noIdB]using h))
 | .tup xs,h=> .tup xs (noIdBs_ok xs (by simpa only[noIdB]using h))
 | .snap rows,h=> .snap rows (noIdBr_ok rows (by simpa only[noIdB]using h))
 | .sptr rows i o,h=> .sptr rows i o (noIdBr_ok rows (by simpa only[noIdB]using h))
 | .fn f xs ys,h=>by
   simp only[noIdB,Bool.and_eq_true]at h;exact .fn f xs ys (noIdBs_ok xs h.1) (noIdBs_ok ys h.2)
 | .own ..,h=>by simp only[noIdB]at h;cases h
 | .sub ..,h=>by simp only[noIdB]at h;cases h
 | .ptr ..,h=>by simp only[noIdB]at h;cases h
 | .omap ..,h=>by simp only[noIdB]at h;cases h
 | .yld ..,h=>by simp only[noIdB]at h;cases h
theorem noIdBs_ok:∀xs,noIdBs xs=true→∀x∈xs,NoId x
 |[],_,x,hx=>by cases hx
 |y::r,h,x,hx=>by
  simp only[noIdBs,Bool.and_eq_true]at h;rcases List.mem_cons.1 hx with h1|h1
  ·rw[h1];exact noIdB_ok y h.1
  ·exact noIdBs_ok r h.2 x h1
theorem noIdBr_ok:∀rows,noIdBr rows=true→∀row∈rows,∀x∈row,NoId x
 |[],_,row,hx=>by cases hx
 |y::r,h,row,hx=>by
  simp only[noIdBr,Bool.and_eq_true]at h;rcases List.mem_cons.1 hx with h1|h1
  ·rw[h1];exact noIdBs_ok y h.1
  ·exact noIdBr_ok r h.2 row h1
end
end Go.AL
namespace Go.AL
open Go.RowKit
def renO1(nid:Nat):AV→AV
 | .own _ o n=> .own nid o n
 |a=>a
def renO(nid:Nat):AV→AV
 | .tup xs=> .tup (xs.map (renO1 nid))
 |a=>renO1 nid a
def OkO1(a:AV):Prop:=(∃o n,a= .own 0 o n)∨NoId a
def OkO(a:AV):Prop:=OkO1 a∨∃xs,a= .tup xs∧∀x∈xs,OkO1 x
def EO(b0 k:Nat)(L:Nat→Nat):Env:=⟨fun _=>b0,fun _=>k,fun id=>id=0,L⟩
def FOCall(P:Program)(n:FuncId)(args:List AV)(a:AV)(el:TypeId)(k:Nat)(rows:List (List AV))(ap:Bool):Prop:=
 enterable P n=true∧∀(L:Nat→Nat) (W:World) (vs:List Value),(∀b,W.heap.size≤b→L b=0)→RVs (Env0 L) W args vs→
  Calls P n vs.toArray W fun e W'=>∃v,e= .returned v∧OkO a∧(∀(i:Nat) row,rows[i]? =some row→row.length=k)∧∃(L':Nat→Nat) (b0:Nat) (cur:Array Value),Below W.heap.size W W'∧(∀b,b<W.heap.size→L' b=0)∧(∀b,W'.heap.size≤b→L' b=0)∧W.heap.size≤b0∧L' b0=0∧
   W'.heap[b0]? =some (Obj.cells cur el (0,0))∧rows.length*k≤cur.size∧(∀(i j:Nat) row x,rows[i]? =some row→row[j]? =some x→∃u,cur[i*k+j]? =some u∧RV (Env0 L') W' x u)∧RV (EO b0 k L') W' a v
theorem rv_renO1{b0 k nid:Nat}{L':Nat→Nat}{E':Env}{W':World}(hι:E'.ι nid=b0)(hs:E'.sz nid=k)(hU:E'.U nid)(hL:∀b,L' b≤E'.L b){a:AV}{v:Value}(h:OkO1 a)(r:RV (EO b0 k L') W' a v):RV E' W' (renO1 nid a) v:=by
 rcases h with⟨o,n,rfl⟩|h
 ·cases r with
  |own _ _ _ cap hid hlc hsz=>
   have:=RV.own (E:=E') (W:=W') nid o n cap hU hlc (by rw[hι,hs];exact hsz)
   rw[hι,hs]at this;exact this
  |own0 _ _ a hid=>exact .own0 _ _ _ hU
 ·have h1:RV (Env0 L') W' a v:=r.toPlain (fun _=>Nat.le_refl _) h
  have h2:renO1 nid a=a:=by cases h<;>rfl
  rw[h2];exact h1.fromPlain hL
theorem rv_renO{b0 k nid:Nat}{L':Nat→Nat}{E':Env}{W':World}(hι:E'.ι nid=b0)(hs:E'.sz nid=k)(hU:E'.U nid)(hL:∀b,L' b≤E'.L b){a:AV}{v:Value}(h:OkO a)(r:RV (EO b0 k L') W' a v):RV E' W' (renO nid a) v:=by
 have htup:∀xs,a= .tup xs→(∀x∈xs,OkO1 x)→RV E' W' (renO nid a) v:=fun xs he hx=>by
  subst he;cases r with
  |tup _ vs hl hr=>
  refine .tup _ vs (by simpa using hl) fun i x v hx' hv=> ?_
  rw[List.getElem?_map]at hx'
  obtain⟨y,hy,rfl⟩:∃y,xs[i]? =some y∧renO1 nid y=x:=by
   cases hq:xs[i]? with
   |none=>rw[hq]at hx';cases hx'
   |some y=>rw[hq]at hx';exact⟨y,rfl,by simpa using hx'⟩
  exact rv_renO1 hι hs hU hL (hx y (List.mem_of_getElem? hy)) (hr i y v hy hv)
 rcases h with h|⟨xs,rfl,hx⟩
 ·have h0:=h
  rcases h with⟨o,n,rfl⟩|h
  ·exact rv_renO1 hι hs hU hL h0 r
  ·cases h with
   |tup xs h=>exact htup xs rfl fun x hx=> .inr (h x hx)
   |c x=>exact rv_renO1 hι hs hU hL h0 r
   |agg xs h=>exact rv_renO1 hι hs hU hL h0 r
   |snap rows h=>exact rv_renO1 hι hs hU hL h0 r
   |sptr rows i o h=>exact rv_renO1 hι hs hU hL h0 r
   |fn f x y h h2=>exact rv_renO1 hι hs hU hL h0 r
 ·exact htup xs rfl hx
theorem FOCall.run{P:Program}{n:FuncId}{args0 args:List AV}{a:AV}{el:TypeId}{k:Nat}{rows:List (List AV)}{ap:Bool}{G:Nat→Option Blk}(kk:Nat)(h:FOCall P n args a el k rows ap)(he:args0.map (expoD G kk)=args)(ha:∀a∈args,NoId a){E:Env}{W:World}{H:Heap}{nid:Nat}(hnid:¬E.U nid)(hH:RH E W H)(hG:RC E W G){vs:List Value}(hr:RVs E W args0 vs):
  Calls P n vs.toArray W fun e W'=>∃v,e= .returned v∧∃E',Evo E W E' W'∧RC E' W' (upd H.get [(nid,some (.cells el k rows true ap))])∧RV E' W' (renO nid a) v∧∀id,E'.U id→E.U id∨id=nid:=by
 obtain⟨_,h⟩:=h
 have hsz:∀b,W.heap.size≤b→max (E.L b) (match W.heap[b]? with|some (.cells cur _ _)=>cur.size|_=>0)=0:=fun b hb=>by
  rw[hH.core.lim b hb,Array.getElem?_eq_none hb];rfl
 refine(h (fun b=>max (E.L b) (match W.heap[b]? with|some (.cells cur _ _)=>cur.size|_=>0)) W vs hsz ?_).mono fun e W' ⟨v,hev,hok,hlen,L',b0,cur,hb,h2,h3,hb0,hLb,hcur,hle,hcells,h4⟩=> ?_
 ·subst he
  refine⟨by simpa using hr.1,fun i x v hx hv=> ?_⟩
  have hno:=ha x (List.mem_of_getElem? hx);rw[List.getElem?_map]at hx;obtain⟨y,hy,rfl⟩:=map_some hx;refine expoD_ok hG (fun b=>Nat.le_max_left _ _) (fun id hU cur e f hc=> ?_) kk (hr.2 i y v hy hv) hno
  simp only[hc];exact Nat.le_max_right _ _
 ·subst hev
  have hlt:∀b k,k<E.L b→b<W.heap.size:=fun b k hk=>by
   rcases Nat.lt_or_ge b W.heap.size with h|h
   ·exact h
   ·have:=hH.core.lim b h;omega
  have hlt0:b0<W'.heap.size:=(Array.getElem?_eq_some_iff.1 hcur).1
  let E':Env:=⟨fun id=>if id=nid then b0 else E.ι id,fun id=>if id=nid then k else E.sz id,fun id=>E.U id∨id=nid,fun b=>if b<W.heap.size then E.L b else L' b⟩
  have hι:∀id,E.U id→E'.ι id=E.ι id:=fun id hid=>by
   show(if id=nid then _ else _)=_
   rw[if_neg];rintro rfl;exact hnid hid
  have hs:∀id,E.U id→E'.sz id=E.sz id:=fun id hid=>by
   show(if id=nid then _ else _)=_
   rw[if_neg];rintro rfl;exact hnid hid
  have hιn:E'.ι nid=b0:=by show(if nid=nid then _ else _)=_;rw[if_pos rfl]
  have hsn:E'.sz nid=k:=by show(if nid=nid then _ else _)=_;rw[if_pos rfl]
  have hL2:∀b,b<W.heap.size→E'.L b=E.L b:=fun b hb=>if_pos hb
  have hL3:∀b,W.heap.size≤b→E'.L b=L' b:=fun b hb=>if_neg (by omega)
  have hLle:∀b,L' b≤E'.L b:=fun b=>by
   rcases Nat.lt_or_ge b W.heap.size with h|h
   ·rw[h2 b h];exact Nat.zero_le _
   ·exact Nat.le_of_eq (hL3 b h).symm
  have hL0:E'.L b0=0:=by rw[hL3 b0 hb0];exact hLb
  have hEvo:Evo E W E' W':=by
   refine⟨hb.os,hb.tape,hb.output,hb.size,fun _ h=> .inl h,fun id hid=>⟨hι id hid,hs id hid⟩,fun b=> ?_,fun b k hk=>hb.cell (p:=⟨b,k,none⟩) (hlt b k hk),fun b hb' _=>hb.block b hb',fun b cur e f hc=> ?_,fun b hb' _=>hL2 b hb',fun id h1 h2=> ?_,fun b r h=>⟨r,by rw[hb.block b (Array.getElem?_eq_some_iff.1 h).1];exact h,rfl⟩⟩
   ·rcases Nat.lt_or_ge b W.heap.size with h|h
    ·exact Nat.le_of_eq (hL2 b h).symm
    ·rw[hH.core.lim b h];exact Nat.zero_le _
   ·exact⟨cur,f,by rw[hb.block b (Array.getElem?_eq_some_iff.1 hc).1];exact hc,rfl⟩
   ·rcases h2 with h2|h2
    ·exact absurd h2 h1
    ·subst h2;rw[hιn];exact .inl hb0
  have holdne:∀id,E.U id→E'.ι id≠b0:=fun id hid heq=>by
   rw[hι id hid]at heq;have:=hH.core.inW id hid;omega
  refine⟨v,rfl,E',hEvo,⟨fun b hb'=> ?_,fun id hid=> ?_,fun id b hg=> ?_⟩,rv_renO hιn hsn (.inr rfl) hLle hok h4,fun id h=>h⟩
  ·have:=hb.size
   rw[hL3 b (by omega)]
   exact h3 b hb'
  ·rcases hid with hid|hid
   ·rw[hι id hid];exact Nat.lt_of_lt_of_le (hH.core.inW id hid) hb.size
   ·subst hid;rw[hιn];exact hlt0
  ·simp only[upd]at hg
   by_cases hid:id=nid
   ·subst hid
    rw[if_pos rfl]at hg;injection hg with hg
    subst hg;refine⟨.inr rfl,hsn,hlen,⟨cur,by rw[hιn];exact hcur,hle,fun i' j row x h1 h2=> ?_⟩,fun _=>⟨by rw[hιn];exact hL0,fun id' b' hne hg' heq=> ?_⟩,fun _=>⟨by rw[hιn,hL0];exact Nat.zero_le _,fun id' b' hne hg' heq=> ?_⟩⟩
    ·obtain⟨u,h3,h4⟩:=hcells i' j row x h1 h2
     exact⟨u,h3,h4.fromPlain hLle⟩
    ·rw[hιn]at heq
     simp only[upd,if_neg hne]at hg';exact holdne id' (hH.core.ok id' b' hg').1 heq
    ·rw[hιn]at heq
     simp only[upd,if_neg hne]at hg';exact absurd heq (holdne id' (hH.core.ok id' b' hg').1)
   ·rw[if_neg hid]at hg
    obtain⟨hU,hok⟩:=hH.core.ok id b hg;have hlt2:=hH.core.inW id hU;refine⟨.inl hU,hok.mono hEvo hU (hb.block _ hlt2) (hL2 _ hlt2) fun id' b' hne hg' heq=> ?_⟩
    simp only[upd]at hg';by_cases hid':id'=nid
    ·subst hid'
     rw[hιn]at heq;omega
    ·rw[if_neg hid']at hg'
     exact⟨b',hg',by rw[←heq,hι id' (hH.core.ok id' b' hg').1],rfl,fun h=>h⟩
def datO(G:Nat→Option Blk)(kk j:Nat)(x:AV):Option AV:=
 if fresh G kk x&&noIdB (expoD G kk x)&& !(idsD G kk x).contains j then some (expoD G kk x)else none
def compO(G:Nat→Option Blk)(kk j:Nat):AV→Option AV
 | .own i o n=>cond (Nat.beq i j) (some (.own 0 o n)) (datO G kk j (.own i o n))
 |x=>datO G kk j x
def compsO(G:Nat→Option Blk)(kk j:Nat):List AV→Option (List AV)
 |[]=>some []
 |x::r=>match compO G kk j x,compsO G kk j r with
  |some a,some l=>some (a::l)
  |_,_=>none
def resO(G:Nat→Option Blk)(kk j:Nat):AV→Option AV
 | .tup xs=>match compsO G kk j xs with
   |some l=>some (.tup l)
   |none=>none
 |a=>compO G kk j a
def firstO:List AV→Option Nat
 |[]=>none
 | .own j _ _::_=>some j
 |_::r=>firstO r
def ownO:AV→Option Nat
 | .own j _ _=>some j
 | .tup xs=>firstO xs
 |_=>none
def rowO(G:Nat→Option Blk)(kk j:Nat):List AV→Option (List AV)
 |[]=>some []
 |x::r=>match datO G kk j x,rowO G kk j r with
  |some a,some l=>some (a::l)
  |_,_=>none
def rowsO(G:Nat→Option Blk)(kk j:Nat):List (List AV)→Option (List (List AV))
 |[]=>some []
 |x::r=>match rowO G kk j x,rowsO G kk j r with
  |some a,some l=>some (a::l)
  |_,_=>none
structure FO where
 a:AV
 el:TypeId
 k:Nat
 rows:List (List AV)
 ap:Bool
def mkO(G:Nat→Option Blk)(kk j:Nat)(r:AV):Option Blk→Option FO
 |some (.cells el k rows0 true ap)=>match rowsO G kk j rows0,resO G kk j r with
  |some rows,some a=>some ⟨a,el,k,rows,ap⟩
  |_,_=>none
 |_=>none
def foOf(G:Nat→Option Blk)(kk:Nat)(r:AV):Option FO:=
 match ownO r with
 |some j=>mkO G kk j r (G j)
 |none=>none
section
variable {G : Nat → Option Blk} {kk j : Nat}
theorem datO_out{x y:AV}(h:datO G kk j x=some y):y=expoD G kk x∧fresh G kk x=true∧NoId y∧j∉idsD G kk x:=by
 unfold datO at h;split at h
 ·rename_i hc
  simp only[Bool.and_eq_true,Bool.not_eq_true']at hc;injection h with h
  subst h;exact⟨rfl,hc.1.1,noIdB_ok _ hc.1.2,by simpa using hc.2⟩
 ·cases h
theorem rowO_out:∀{xs ys:List AV},rowO G kk j xs=some ys→ys.length=xs.length∧∀(i:Nat) y,ys[i]? =some y→∃x,xs[i]? =some x∧datO G kk j x=some y
 |[],ys,h=>by simp only[rowO,Option.some.injEq]at h;subst h;exact⟨rfl,fun i y h=>by simp at h⟩
 |x::r,ys,h=>by
  simp only[rowO]at h;split at h
  ·rename_i a l ha hl
   injection h with h
   subst h;obtain⟨h1,h2⟩:=rowO_out hl;refine⟨by simp[h1],fun i y hy=> ?_⟩
   cases i with
   |zero=>simp at hy;subst hy;exact⟨x,rfl,ha⟩
   |succ i=>obtain⟨x',h3,h4⟩:=h2 i y (by simpa using hy);exact⟨x',by simpa using h3,h4⟩
  ·cases h
theorem rowsO_out:∀{xs ys:List (List AV)},rowsO G kk j xs=some ys→ys.length=xs.length∧∀(i:Nat) y,ys[i]? =some y→∃x,xs[i]? =some x∧rowO G kk j x=some y
 |[],ys,h=>by simp only[rowsO,Option.some.injEq]at h;subst h;exact⟨rfl,fun i y h=>by simp at h⟩
 |x::r,ys,h=>by
  simp only[rowsO]at h;split at h
  ·rename_i a l ha hl
   injection h with h
   subst h;obtain⟨h1,h2⟩:=rowsO_out hl;refine⟨by simp[h1],fun i y hy=> ?_⟩
   cases i with
   |zero=>simp at hy;subst hy;exact⟨x,rfl,ha⟩
   |succ i=>obtain⟨x',h3,h4⟩:=h2 i y (by simpa using hy);exact⟨x',by simpa using h3,h4⟩
  ·cases h
theorem compsO_out:∀{xs ys:List AV},compsO G kk j xs=some ys→ys.length=xs.length∧∀(i:Nat) y,ys[i]? =some y→∃x,xs[i]? =some x∧compO G kk j x=some y
 |[],ys,h=>by simp only[compsO,Option.some.injEq]at h;subst h;exact⟨rfl,fun i y h=>by simp at h⟩
 |x::r,ys,h=>by
  simp only[compsO]at h;split at h
  ·rename_i a l ha hl
   injection h with h
   subst h;obtain⟨h1,h2⟩:=compsO_out hl;refine⟨by simp[h1],fun i y hy=> ?_⟩
   cases i with
   |zero=>simp at hy;subst hy;exact⟨x,rfl,ha⟩
   |succ i=>obtain⟨x',h3,h4⟩:=h2 i y (by simpa using hy);exact⟨x',by simpa using h3,h4⟩
  ·cases h
theorem compO_out{x y:AV}(h:compO G kk j x=some y):(∃o n,x= .own j o n∧y= .own 0 o n)∨datO G kk j x=some y:=by
 unfold compO at h;split at h
 ·rename_i i o n
  cases hb:Nat.beq i j with
  |true=>
   rw[hb]at h;have:=Nat.eq_of_beq_eq_true hb;subst this;simp only[cond]at h;injection h with h
   exact .inl ⟨o,n,rfl,h.symm⟩
  |false=>rw[hb]at h;exact .inr h
 ·exact .inr h
theorem compO_ok{x y:AV}(h:compO G kk j x=some y):OkO1 y:=by
 rcases compO_out h with⟨o,n,_,rfl⟩|h
 ·exact .inl ⟨o,n,rfl⟩
 ·exact .inr (datO_out h).2.2.1
end
theorem focallD(kk:Nat){P:Program}{n:FuncId}{fn:Func}{c:Code}{args:List AV}{f:FO}(hf:P.funcs[n]? =some fn)(hb:fn.body=some c)(hnm:(fn.name== "runtime.NumGoroutine")=false)(hlen:args.length≤fn.ntmps)
  (hA:ACall P n args ⟨0,tabG []⟩ fun r H'=>foOf H'.get kk r=some f):FOCall P n args f.a f.el f.k f.rows f.ap:=by
 refine⟨hA.1,fun L W vs hL hr=> ?_⟩
 have hRH:RH (Env0 L) W ⟨0,tabG []⟩:=⟨fun id h=>h.elim,hL,fun id h=>h.elim,fun id b h=>by cases h⟩
 refine(hA.2 (Env0 L) W vs hRH hr).mono fun e W' ⟨v,he,E',r,H',hv,hH,hrv,h⟩=> ?_
 simp only[]at h;unfold foOf at h;split at h
 case h_2=>cases h
 rename_i j hj;unfold mkO at h;split at h
 case h_2=>cases h
 rename_i el k rows0 ap hg;split at h
 case h_2=>cases h
 rename_i rows a hrows ha;injection h with h
 subst h;obtain⟨hU,hszk,hlen0,⟨cur,hcur,hle,hcells⟩,hw,_⟩:=hH.core.ok j _ hg;obtain⟨hL0,hdis⟩:=hw rfl
 have hnew:∀id,E'.U id→W.heap.size≤E'.ι id:=fun id hid=>by
  rcases hv.fresh id (fun h=>h) hid with h1|⟨id0,h1,_⟩
  ·exact h1
  ·exact h1.elim
 let L':Nat→Nat:=fun b=>if b<W.heap.size then 0 else if b=E'.ι j then 0 else(match W'.heap[b]? with|some (.cells cur _ _)=>cur.size|_=>0)
 have hLj:L' (E'.ι j)=0:=by
  show(if _ then 0 else if _ then 0 else _)=0
  rw[if_pos rfl];split<;>rfl
 have hdat:∀{x y u},datO H'.get kk j x=some y→RV E' W' x u→RV (Env0 L') W' y u:=fun{x y u} hd hx=>by
  obtain⟨rfl,hfr,_,hnj⟩:=datO_out hd;refine expoD_freshI hH.core kk (fun id hid hs hUid cur2 e2 f2 hc2=> ?_) hx hfr
  have hne:id≠j:=fun h=>hnj (h▸hid)
  obtain⟨b',hb'⟩:=Option.isSome_iff_exists.1 hs;have h1:=hdis id b' hne hb';have h2:¬E'.ι id<W.heap.size:=by have:=hnew id hUid;omega
  show _≤(if _ then 0 else if _ then 0 else _)
  rw[if_neg h2,if_neg h1,hc2];exact Nat.le_refl _
 have hcomp:∀{x y u},compO H'.get kk j x=some y→RV E' W' x u→RV (EO (E'.ι j) k L') W' y u:=fun{x y u} hd hx=>by
  rcases compO_out hd with⟨o,n,rfl,rfl⟩|hd
  ·rcases(own_inv hx).2 with⟨cap,rfl,hlc,cur2,e2,f2,h4,h5⟩|⟨hl0,a,rfl⟩
   ·have:=RV.own (E:=EO (E'.ι j) k L') (W:=W') 0 o n cap rfl hlc ⟨cur2,e2,f2,h4,by rw[hszk]at h5;exact h5⟩
    rw[hszk];exact this
   ·subst hl0;exact .own0 _ _ _ rfl
  ·exact(hdat hd hx).fromPlain fun _=>Nat.le_refl _
 have hok:OkO a∧(∀(i:Nat) row,rows[i]? =some row→row.length=k):=by
  refine⟨?_,fun i row hi=> ?_⟩
  ·unfold resO at ha
   split at ha
   ·rename_i xs
    split at ha
    ·rename_i l hl
     injection ha with ha
     subst ha;refine .inr ⟨l,rfl,fun x hx=> ?_⟩
     obtain⟨i,hi⟩:=List.mem_iff_getElem?.1 hx;obtain⟨y,_,h2⟩:=(compsO_out hl).2 i x hi;exact compO_ok h2
    ·cases ha
   ·exact .inl (compO_ok ha)
  ·obtain⟨row0,h1,h2⟩:=(rowsO_out hrows).2 i row hi
   rw[(rowO_out h2).1];exact hlen0 i row0 h1
 refine⟨v,he,hok.1,hok.2,L',E'.ι j,cur,⟨hv.os,hv.tape,hv.output,hv.size,fun k hk=>hv.foreign k hk fun id h=>h.elim⟩,fun b hb'=>if_pos hb',fun b hb'=> ?_,hnew j hU,hLj,hcur,by rw[(rowsO_out hrows).1];exact hle,fun i j' row x h1 h2=> ?_,?_⟩
 ·have:=hv.size
  show(if _ then 0 else if _ then 0 else _)=0
  rw[if_neg (by omega),Array.getElem?_eq_none hb']
  split<;>rfl
 ·obtain⟨row0,h3,h4⟩:=(rowsO_out hrows).2 i row h1
  obtain⟨x0,h5,h6⟩:=(rowO_out h4).2 j' x h2;obtain⟨u,h7,h8⟩:=hcells i j' row0 x0 h3 h5;exact⟨u,h7,hdat h6 h8⟩
 ·simp only[]
  unfold resO at ha;split at ha
  ·rename_i xs
   split at ha
   ·rename_i l hl
    injection ha with ha
    subst ha;cases hrv with
    |tup _ vs' hl' hr'=>
    refine .tup _ vs' (by rw[(compsO_out hl).1];exact hl') fun i y u hy hu=> ?_
    obtain⟨x,h1,h2⟩:=(compsO_out hl).2 i y hy;exact hcomp h2 (hr' i x u h1 hu)
   ·cases ha
  ·exact hcomp ha hrv
def unfz:Option Blk→Bool
 |some (.cells _ _ _ w _)=>w
 |_=>false
theorem unfz_frz{b:Option Blk}(h:unfz b=false):frzB b=b:=by
 unfold unfz at h;split at h
 ·subst h;rfl
 ·rename_i hn
  unfold frzB;split
  ·rename_i e s rows w a;exact absurd rfl (hn _ _ _ _ _)
  ·rfl
theorem upd_map(F:Nat→Option Blk):∀(ids:List Nat) (G:Nat→Option Blk) (k:Nat),upd G (ids.map fun id=>(id,F id)) k=if k∈ids then F k else G k
 |[],G,k=>by simp[upd]
 |i::r,G,k=>by
  simp only[List.map_cons,upd];rw[upd_map F r];by_cases h:k∈r
  ·simp[h]
  ·by_cases hi:k=i
   ·subst hi;simp[h]
   ·simp[h,hi]
theorem frz_updF(ids:List Nat)(G:Nat→Option Blk):frz G ids=upd G ((ids.filter fun id=>unfz (G id)).map fun id=>(id,frzB (G id))):=by
 rw[frz_upd]
 funext k
 rw[upd_map (fun id=>frzB (G id)),upd_map (fun id=>frzB (G id))]
 by_cases h:k∈ids
 ·by_cases hu:unfz (G k)=true
  ·simp[h,hu]
  ·have hu':unfz (G k)=false:=by simpa using hu
   simp[h,hu',unfz_frz hu']
 ·simp[h]
end Go.AL
namespace Go.AL
open Go.RowKit
def TOCall(P:Program)(n:FuncId)(args:List AV)(a:AV)(e:TypeId)(k:Nat)(rows:List (List AV)):Prop:=
 enterable P n=true∧∀(E:Env) (W:World) (G:Nat→Option Blk) (nid:Nat) (vs:List Value),RC E W G→¬E.U nid→RVs E W args vs→
  Calls P n vs.toArray W fun x W'=>∃v,x= .returned v∧∃E',Evo E W E' W'∧RC E' W' (upd G [(nid,some (.cells e k rows true true))])∧RV E' W' (renO nid a) v∧∀id,E'.U id→E.U id∨id=nid
theorem rv_swap1{E1 E':Env}{W':World}{i nid:Nat}(hι:E'.ι nid=E1.ι i)(hs:E'.sz nid=E1.sz i)(hU:E'.U nid)(hno:∀{x u},RV E1 W' x u→NoId x→RV E' W' x u){a:AV}{v:Value}(h:OkO1 a)(r:RV E1 W' (renO1 i a) v):RV E' W' (renO1 nid a) v:=by
 rcases h with⟨o,n,rfl⟩|h
 ·cases r with
  |own _ _ _ cap hid hlc hsz=>
   have:=RV.own (E:=E') (W:=W') nid o n cap hU hlc (by rw[hι,hs];exact hsz)
   rw[hι,hs]at this;exact this
  |own0 _ _ a hid=>exact .own0 _ _ _ hU
 ·have h1:renO1 i a=a:=by cases h<;>rfl
  have h2:renO1 nid a=a:=by cases h<;>rfl
  rw[h1]at r;rw[h2];exact hno r h
theorem rv_swap{E1 E':Env}{W':World}{i nid:Nat}(hι:E'.ι nid=E1.ι i)(hs:E'.sz nid=E1.sz i)(hU:E'.U nid)(hno:∀{x u},RV E1 W' x u→NoId x→RV E' W' x u){a:AV}{v:Value}(h:OkO a)(r:RV E1 W' (renO i a) v):RV E' W' (renO nid a) v:=by
 have htup:∀xs,a= .tup xs→(∀x∈xs,OkO1 x)→RV E' W' (renO nid a) v:=fun xs he hx=>by
  subst he;cases r with
  |tup _ vs hl hr=>
  refine .tup _ vs (by simpa using hl) fun j x v hx' hv=> ?_
  rw[List.getElem?_map]at hx'
  obtain⟨y,hy,rfl⟩:∃y,xs[j]? =some y∧renO1 nid y=x:=by
   cases hq:xs[j]? with
   |none=>rw[hq]at hx';cases hx'
   |some y=>rw[hq]at hx';exact⟨y,rfl,by simpa using hx'⟩
  exact rv_swap1 hι hs hU hno (hx y (List.mem_of_getElem? hy)) (hr j (renO1 i y) v (by rw[List.getElem?_map,hy];rfl) hv)
 rcases h with h|⟨xs,rfl,hx⟩
 ·have h0:=h
  rcases h with⟨o,n,rfl⟩|h
  ·exact rv_swap1 hι hs hU hno h0 r
  ·cases h with
   |tup xs h=>exact htup xs rfl fun x hx=> .inr (h x hx)
   |c x=>exact rv_swap1 hι hs hU hno h0 r
   |agg xs h=>exact rv_swap1 hι hs hU hno h0 r
   |snap rows h=>exact rv_swap1 hι hs hU hno h0 r
   |sptr rows i o h=>exact rv_swap1 hι hs hU hno h0 r
   |fn f x y h h2=>exact rv_swap1 hι hs hU hno h0 r
 ·exact htup xs rfl hx
theorem TOCall.run{P:Program}{n:FuncId}{args:List AV}{a:AV}{e:TypeId}{k:Nat}{rows:List (List AV)}(h:TOCall P n args a e k rows){H:Heap}:
  ACall P n args H fun r H'=>r=renO H.next a∧H'=⟨H.next+1,upd H.get [(H.next,some (.cells e k rows true true))]⟩:=
 ⟨h.1,fun E W vs hH hr=>(h.2 E W H.get H.next vs hH.core (fun hU=>Nat.lt_irrefl _ (hH.next _ hU)) hr).mono fun x W' ⟨v,he,E',h1,h2,h3,h4⟩=>
   ⟨v,he,E',_,_,h1,⟨fun id hid=>by
     rcases h4 id hid with h5|h5
     ·exact Nat.lt_succ_of_lt (hH.next id h5)
     ·subst h5;exact Nat.lt_succ_self _,h2⟩,h3,rfl,rfl⟩⟩
end Go.AL
namespace Go.AL
open Go.RowKit
structure Entry where
 c:Bool
 a:AV
 wr:List (Nat×Option Blk)
 rd:List Nat
def gOK(ops:List Oper)(o:Oper)(σ:AS)(c:Bool):Prop:=
 match o.guard with
 |none=>c=true
 |some (j,want)=>gcond (gval ops j σ.env) want=some c
def CCall(P:Program)(n:FuncId)(args:List AV)(id:Nat)(el0:TypeId)(k0:Nat)(rows0:List (List AV))(el:TypeId)(k:Nat)(rows:List (List AV)):Prop:=
 enterable P n=true∧∀(E:Env) (W:World) (G:Nat→Option Blk) (nid:Nat) (vs:List Value),RC E W G→G id=some (.cells el0 k0 rows0 true true)→¬E.U nid→RVs E W args vs→
  Calls P n vs.toArray W fun e W'=>∃v,e= .returned v∧∃E',Evo E W E' W'∧RC E' W' (upd G [(id,none),(nid,some (.cells el k rows true true))])∧RV E' W' (.own nid 0 rows.length) v∧∀id',E'.U id'→E.U id'∨id'=nid
theorem upd_appN(G:Nat→Option Blk)(a b:List (Nat×Option Blk)):upd G (a++b)=upd (upd G a) b:=by
 induction a generalizing G with
 |nil=>rfl
 |cons x a ih=>exact ih _
inductive Ent (P:Program) (ops:List Oper) (o:Oper) (σ:AS) (nid:Nat) (e:Entry):Prop
 |call (f:Operand) (as:Array Operand) (ts:Array TypeId) (n:FuncId) (args:List AV) (hop:o.op= .call ⟨.value f,as,ts⟩) (hg:gOK ops o σ e.c) (hc:calleeA (σ.get e.c f) (getsA (σ.get e.c) as.toList)=some (n,args))
   (hp:e.c=true→(∀a∈args,NoId a)∧PCall P n args (·=e.a)) (hw:e.wr=[])
 |pick (x0 x y:Operand) (b p q:Bool) (hop:o.op= .pick x0 x y) (hg:gOK ops o σ e.c) (hb:asB (σ.get e.c x0)=some b) (hpq:pairB (asB (σ.get (e.c&&b) x)) (asB (σ.get (e.c&& !b) y))=some (p,q)) (ha:e.a= .c (.bool (cond b p q))) (hw:e.wr=[])
 |ocall (f:Operand) (as:Array Operand) (ts:Array TypeId) (n:FuncId) (args:List AV) (el:TypeId) (k:Nat) (rows:List (List AV)) (hop:o.op= .call ⟨.value f,as,ts⟩) (hg:gOK ops o σ e.c) (hcc:e.c=true) (hc:calleeA (σ.get true f) (getsA (σ.get true) as.toList)=some (n,args))
   (hp:OCall P n args el k rows) (ha:e.a= .own nid 0 rows.length) (hw:e.wr=[(nid,some (.cells el k rows true true))])
 |ccall (f:Operand) (as:Array Operand) (ts:Array TypeId) (n:FuncId) (args:List AV) (id:Nat) (el0:TypeId) (k0:Nat) (rows0:List (List AV)) (el:TypeId) (k:Nat) (rows:List (List AV)) (hop:o.op= .call ⟨.value f,as,ts⟩) (hg:gOK ops o σ e.c) (hcc:e.c=true) (hc:calleeA (σ.get true f) (getsA (σ.get true) as.toList)=some (n,args))
   (hgi:σ.H.get id=some (.cells el0 k0 rows0 true true)) (hp:CCall P n args id el0 k0 rows0 el k rows) (ha:e.a= .own nid 0 rows.length) (hw:e.wr=[(id,none),(nid,some (.cells el k rows true true))]) (hrd:id∈e.rd)
 |tocall (f:Operand) (as:Array Operand) (ts:Array TypeId) (n:FuncId) (args:List AV) (a:AV) (el:TypeId) (k:Nat) (rows:List (List AV)) (hop:o.op= .call ⟨.value f,as,ts⟩) (hg:gOK ops o σ e.c) (hcc:e.c=true) (hc:calleeA (σ.get true f) (getsA (σ.get true) as.toList)=some (n,args))
   (hp:TOCall P n args a el k rows) (ha:e.a=renO nid a) (hw:e.wr=[(nid,some (.cells el k rows true true))])
 |callx (f:Operand) (as:Array Operand) (ts:Array TypeId) (n:FuncId) (args0 args:List AV) (hop:o.op= .call ⟨.value f,as,ts⟩) (hg:gOK ops o σ e.c) (hcc:e.c=true) (hc:calleeA (σ.get true f) (getsA (σ.get true) as.toList)=some (n,args0))
   (he:args0.map (expo2 σ.H.get)=args) (hno:∀a∈args,NoId a) (hp:PCall P n args (·=e.a)) (hw:e.wr=((idsAll ids2 args0).map fun id=>(id,frzB (σ.H.get id)))∨e.wr=((idsAll ids2 args0).filter fun id=>unfz (σ.H.get id)).map fun id=>(id,frzB (σ.H.get id))) (hrd:∀id∈idsAll ids2 args0,id∈e.rd)
 |ocallx (f:Operand) (as:Array Operand) (ts:Array TypeId) (n:FuncId) (args0 args:List AV) (el:TypeId) (k:Nat) (rows:List (List AV)) (hop:o.op= .call ⟨.value f,as,ts⟩) (hg:gOK ops o σ e.c) (hcc:e.c=true) (hc:calleeA (σ.get true f) (getsA (σ.get true) as.toList)=some (n,args0))
   (he:args0.map (expo2 σ.H.get)=args) (hp:OCall P n args el k rows) (ha:e.a= .own nid 0 rows.length) (hw:e.wr=((idsAll ids2 args0).map fun id=>(id,frzB (σ.H.get id)))++[(nid,some (.cells el k rows true true))]) (hrd:∀id∈idsAll ids2 args0,id∈e.rd)
 |rcall (f:Operand) (as:Array Operand) (ts:Array TypeId) (n:FuncId) (args0 args:List AV) (k:Nat) (hop:o.op= .call ⟨.value f,as,ts⟩) (hg:gOK ops o σ e.c) (hcc:e.c=true) (hc:calleeA (σ.get true f) (getsA (σ.get true) as.toList)=some (n,args0))
   (he:args0.map (expoD σ.H.get k)=args) (hno:∀a∈args,NoId a) (hp:FCall P n args e.a) (hw:e.wr=[]) (hrd:∀x∈args0,∀id∈idsD σ.H.get k x,id∈e.rd)
 |rocall (f:Operand) (as:Array Operand) (ts:Array TypeId) (n:FuncId) (args0 args:List AV) (kk:Nat) (a:AV) (el:TypeId) (k:Nat) (rows:List (List AV)) (ap:Bool) (hop:o.op= .call ⟨.value f,as,ts⟩) (hg:gOK ops o σ e.c) (hcc:e.c=true) (hc:calleeA (σ.get true f) (getsA (σ.get true) as.toList)=some (n,args0))
   (he:args0.map (expoD σ.H.get kk)=args) (hno:∀a∈args,NoId a) (hp:FOCall P n args a el k rows ap) (ha:e.a=renO nid a) (hw:e.wr=[(nid,some (.cells el k rows true ap))]) (hrd:∀x∈args0,∀id∈idsD σ.H.get kk x,id∈e.rd)
 |skip (hg:gOK ops o σ e.c) (hc:e.c=false) (hw:e.wr=[])
 |res (hg:gOK ops o σ e.c) (hr:res P (σ.get e.c) σ.H.get nid o=some (e.a,e.wr,e.rd)) (hw:e.wr=[]∨e.c=true)
def AS.app(σ:AS)(dst:Option Tmp)(e:Entry):AS:=({σ with H:=⟨σ.H.next,upd σ.H.get e.wr⟩}:AS).put dst e.c e.a
section
variable {P : Program} {ops : Array Oper} {o : Oper} {σ σ' : AS} {nid : Nat} {e : Entry}
theorem get_congr{c:Bool}{x:Operand}(h:∀t,x= .tmp t→lk σ'.env t=lk σ.env t):σ'.get c x=σ.get c x:=by
 cases x with
 |tmp t=>simp only[AS.get,h t rfl]
 |_=>rfl
theorem gOK_congr{c:Bool}(h:gOK ops.toList o σ c)(ha:∀t∈o.looksAt ops,lk σ'.env t=lk σ.env t):gOK ops.toList o σ' c:=by
 unfold gOK at h⊢;split at h
 ·exact h
 ·rename_i j want hg
  rw[←h];congr 1;unfold gval;cases hj:ops.toList[j]? with
  |none=>rfl
  |some o'=>
   cases hd:o'.dst with
   |none=>simp only[hd]
   |some t=>
    simp only[hd];refine ha t ?_;unfold Oper.looksAt;rw[hg];refine List.mem_append_right _ ?_;rw[Array.getElem?_toList]at hj;simp[hj,hd]
theorem Ent.congr(h:Ent P ops.toList o σ nid e)(ha:∀t∈o.looksAt ops,lk σ'.env t=lk σ.env t)(hr:∀id∈e.rd,σ'.H.get id=σ.H.get id):Ent P ops.toList o σ' nid e:=by
 have hget:∀c,∀x∈o.op.operands,σ'.get c x=σ.get c x:=fun c x hx=>get_congr fun t ht=>by
  subst ht;refine ha t ?_;unfold Oper.looksAt;exact List.mem_append_left _ (List.mem_filterMap.2 ⟨.tmp t,by simpa using hx,rfl⟩)
 cases h with
 |call f as ts n args hop hg hc hp hw=>
  refine .call f as ts n args hop (gOK_congr hg ha) ?_ hp hw;rw[hget e.c f (by rw[hop];simp[Op.operands,Call.operands]),getsA_congr as.toList fun x hx=>hget e.c x (by rw[hop];simp[Op.operands,Call.operands];exact .inr (by simpa using hx))]
  exact hc
 |pick x0 x y b p q hop hg hb hpq he hw=>
  refine .pick x0 x y b p q hop (gOK_congr hg ha) ?_ ?_ he hw
  ·rw[hget e.c x0 (by rw[hop];simp[Op.operands])];exact hb
  ·rw[hget _ x (by rw[hop];simp[Op.operands]),hget _ y (by rw[hop];simp[Op.operands])];exact hpq
 |callx f as ts n args0 args hop hg hcc hc he hno hp hw hrd=>
  refine .callx f as ts n args0 args hop (gOK_congr hg ha) hcc ?_ ?_ hno hp ?_ hrd
  ·rw[hget true f (by rw[hop];simp[Op.operands,Call.operands]),getsA_congr as.toList fun x hx=>hget true x (by rw[hop];simp[Op.operands,Call.operands];exact .inr (by simpa using hx))]
   exact hc
  ·rw[expo2_congrL args0 fun id hid=>hr id (hrd id hid)];exact he
  ·rcases hw with hw|hw
   ·exact .inl (by rw[hw];exact List.map_congr_left fun id hid=>by rw[hr id (hrd id hid)])
   ·refine .inr ?_
    have h1:(idsAll ids2 args0).filter (fun id=>unfz (σ'.H.get id))=(idsAll ids2 args0).filter fun id=>unfz (σ.H.get id):=List.filter_congr fun id hid=>by rw[hr id (hrd id hid)]
    rw[hw,h1];exact List.map_congr_left fun id hid=>by rw[hr id (hrd id (List.mem_filter.1 hid).1)]
 |ocallx f as ts n args0 args el k rows hop hg hcc hc he hp hea hw hrd=>
  refine .ocallx f as ts n args0 args el k rows hop (gOK_congr hg ha) hcc ?_ ?_ hp hea ?_ hrd
  ·rw[hget true f (by rw[hop];simp[Op.operands,Call.operands]),getsA_congr as.toList fun x hx=>hget true x (by rw[hop];simp[Op.operands,Call.operands];exact .inr (by simpa using hx))]
   exact hc
  ·rw[expo2_congrL args0 fun id hid=>hr id (hrd id hid)];exact he
  ·rw[hw]
   congr 1;exact List.map_congr_left fun id hid=>by rw[hr id (hrd id hid)]
 |ocall f as ts n args el k rows hop hg hcc hc hp hea hw=>
  refine .ocall f as ts n args el k rows hop (gOK_congr hg ha) hcc ?_ hp hea hw;rw[hget true f (by rw[hop];simp[Op.operands,Call.operands]),getsA_congr as.toList fun x hx=>hget true x (by rw[hop];simp[Op.operands,Call.operands];exact .inr (by simpa using hx))]
  exact hc
 |ccall f as ts n args id el0 k0 rows0 el k rows hop hg hcc hc hgi hp hea hw hrd=>
  refine .ccall f as ts n args id el0 k0 rows0 el k rows hop (gOK_congr hg ha) hcc ?_ (by rw[hr id hrd];exact hgi) hp hea hw hrd
  rw[hget true f (by rw[hop];simp[Op.operands,Call.operands]),getsA_congr as.toList fun x hx=>hget true x (by rw[hop];simp[Op.operands,Call.operands];exact .inr (by simpa using hx))]
  exact hc
 |tocall f as ts n args a el k rows hop hg hcc hc hp hea hw=>
  refine .tocall f as ts n args a el k rows hop (gOK_congr hg ha) hcc ?_ hp hea hw;rw[hget true f (by rw[hop];simp[Op.operands,Call.operands]),getsA_congr as.toList fun x hx=>hget true x (by rw[hop];simp[Op.operands,Call.operands];exact .inr (by simpa using hx))]
  exact hc
 |rcall f as ts n args0 args k hop hg hcc hc he hno hp hw hrd=>
  refine .rcall f as ts n args0 args k hop (gOK_congr hg ha) hcc ?_ ?_ hno hp hw fun x hx id hid=> ?_
  ·rw[hget true f (by rw[hop];simp[Op.operands,Call.operands]),getsA_congr as.toList fun x hx=>hget true x (by rw[hop];simp[Op.operands,Call.operands];exact .inr (by simpa using hx))]
   exact hc
  ·rw[←he]
   exact List.map_congr_left fun x hx=>expoD_congr k x fun id hid=>hr id (hrd x hx id hid)
  ·rw[idsD_congr k x fun id hid=>hr id (hrd x hx id hid)]at hid
   exact hrd x hx id hid
 |rocall f as ts n args0 args kk a el k rows ap hop hg hcc hc he hno hp hea hw hrd=>
  refine .rocall f as ts n args0 args kk a el k rows ap hop (gOK_congr hg ha) hcc ?_ ?_ hno hp hea hw fun x hx id hid=> ?_
  ·rw[hget true f (by rw[hop];simp[Op.operands,Call.operands]),getsA_congr as.toList fun x hx=>hget true x (by rw[hop];simp[Op.operands,Call.operands];exact .inr (by simpa using hx))]
   exact hc
  ·rw[←he]
   exact List.map_congr_left fun x hx=>expoD_congr kk x fun id hid=>hr id (hrd x hx id hid)
  ·rw[idsD_congr kk x fun id hid=>hr id (hrd x hx id hid)]at hid
   exact hrd x hx id hid
 |skip hg hc hw=>exact .skip (gOK_congr hg ha) hc hw
 |res hg hres hw=>exact .res (gOK_congr hg ha) (res_congr hres (hget e.c) hr) hw
theorem wanted_of{E:Env}{W:World}{act:Act}(hr:Rel E W σ act){c:Bool}(h:gOK ops.toList o σ c):Region.wanted o (yielded ops act.tmps)=c:=by
 unfold gOK at h;split at h
 ·rename_i hg;simp only[Region.wanted,hg];exact h.symm
 ·rename_i j want hg
  obtain⟨c',b,hb,rfl⟩:=gcond_out h
  obtain⟨t,ht,hlk⟩:∃t,(ops[j]?).bind (·.dst)=some t∧lk σ.env t=some (c',.c (.bool b)):=by
   unfold gval at hb;split at hb
   ·rename_i o' ho'
    rw[Array.getElem?_toList]at ho';split at hb
    ·rename_i t ht;exact⟨t,by rw[ho'];exact ht,hb⟩
    ·cases hb
   ·cases hb
  obtain⟨v,h1,h2,h3⟩:=hr.env t _ _ hlk
  have hy:yielded ops act.tmps j=if c'=true then some b else none:=by
   unfold yielded;rw[ht];simp only[Option.bind_some,h1];cases c'
   ·rw[h3 rfl];rfl
   ·have h4:=h2 rfl
    cases h4;rfl
  simp only[Region.wanted,hg,hy];cases c'<;>cases b<;>cases want<;>rfl
theorem Ent.run(h:Ent P ops.toList o σ nid e)(hd:dstIn σ.nt o=true){E:Env}{W:World}{act:Act}(hr:Rel E W σ act)(hnid:¬E.U nid)(hlt:nid<σ.H.next){next:Act→World→Prop}{Q:Exit→Act→World→Prop}{ro:Option Nat}
  (hn:∀E' W' act',Went E W act E' W' act'→Rel E' W' (σ.app o.dst e) act'→(∀id,E'.U id→E.U id∨id=nid)→next act' W'):
  if Region.wanted o (yielded ops act.tmps)=true then o.wpIn (fen ro) 3 P act W next Q else next (act.put o.dst undef) W:=by
 have happ:e.wr=[]→σ.app o.dst e=σ.put o.dst e.c e.a:=fun hw=>by unfold AS.app;rw[hw];rfl
 have skip:e.c≠true→e.wr=[]→next (act.put o.dst undef) W:=fun hc hw=>
  hn E W _ (Went.of (Evo.refl E W) (Act.put_defers _ _ _)) (by rw[happ hw];exact hr.put (dstIn_ok hd) (fun h=>absurd h hc) (fun _=>rfl)) fun _ h=> .inl h
 cases h with
 |call f as ts n args hop hg hc hp hw=>
  rw[wanted_of hr hg];by_cases hcc:e.c=true
  ·rw[if_pos hcc]
   obtain⟨hno,hp⟩:=hp hcc;obtain⟨first,cap,as',hf,has,rfl⟩:=calleeA_out hc
   have h1:=hr.get hcc hf;have h2:=getsA_ok (E:=E) (W:=W) (ρ:=act.eval) (fun x b hb=>hr.get hcc hb) _ _ has
   generalize hfv:act.eval f=fv at h1;cases h1 with
   |fn _ _ _ vf vc hl hl2 h3 h4=>
   have hargs:RVs E W (first++as'++cap) (vf.toList++as.toList.map act.eval++vc.toList):=by
    refine(RVs.append ?_ h2).append ?_
    ·exact⟨by simpa using hl,fun i x v hx hv=>h3 i x v hx (by simpa using hv)⟩
    ·exact⟨by simpa using hl2,fun i x v hx hv=>h4 i x v hx (by simpa using hv)⟩
   have hrun:(execOp act.eval o).run P W= .ok (.enter n (vf.toList++as.toList.map act.eval++vc.toList).toArray) W:=by
    simp only[execOp,hop,resolve,hfv,Deferred.ofValue,Sem.run_bind,Sem.run_pure,Result.andThen_ok,invoke];rw[run_callFunc hp.1];congr 2;apply Array.ext';simp
   refine⟨fun _ _=>trivial,?_⟩
   rw[Oper.semAt_eq _ _ _ (fun c h=>by rw[hop]at h;cases h),hrun]
   refine⟨fen_depth,fen_calls ((hp.run hno hr.heap hargs).mono fun e' W' ⟨v,he,r,L',hv,hH,hrv,hno',hq⟩=> ?_)⟩
   subst he;subst hq;refine hn _ W' _ (Went.of hv (Act.put_defers _ _ _)) ?_ fun _ h=> .inl h
   rw[happ hw];exact(hr.mono hv hH).put (dst:=o.dst) (dstIn_ok hd) (c:=e.c) (fun _=>hrv) (fun h=>by rw[hcc]at h;cases h)
  ·rw[if_neg hcc];exact skip hcc hw
 |pick x0 x y b p q hop hg hb hpq he hw=>
  rw[wanted_of hr hg];by_cases hcc:e.c=true
  ·rw[if_pos hcc]
   obtain⟨hp,hq⟩:=pairB_out hpq;have hp:=asB_out hp;have hq:=asB_out hq;refine pick_wp hcc hop (asB_out hb) (a:=e.a) (fun hbt=>⟨e.c&&b,by simp[hcc,hbt],?_⟩) (fun hbf=>⟨e.c&& !b,by simp[hcc,hbf],?_⟩) hd hr fun v hrel=>hn E W _ (Went.of (Evo.refl E W) (Act.put_defers _ _ _)) (by rw[happ hw];exact hrel) fun _ h=> .inl h
   ·rw[hp,he,hbt];rfl
   ·rw[hq,he,hbf];rfl
  ·rw[if_neg hcc];exact skip hcc hw
 |callx f as ts n args0 args hop hg hcc hc he hno hp hw hrd=>
  rw[wanted_of hr hg,if_pos hcc];obtain⟨first,cap,as',hf,has,rfl⟩:=calleeA_out hc
  have h1:=hr.get rfl hf;have h2:=getsA_ok (E:=E) (W:=W) (ρ:=act.eval) (fun x b hb=>hr.get rfl hb) _ _ has
  generalize hfv:act.eval f=fv at h1;cases h1 with
  |fn _ _ _ vf vc hl hl2 h3 h4=>
  have hargs:RVs E W (first++as'++cap) (vf.toList++as.toList.map act.eval++vc.toList):=by
   refine(RVs.append ?_ h2).append ?_
   ·exact⟨by simpa using hl,fun i x v hx hv=>h3 i x v hx (by simpa using hv)⟩
   ·exact⟨by simpa using hl2,fun i x v hx hv=>h4 i x v hx (by simpa using hv)⟩
  have hrun:(execOp act.eval o).run P W= .ok (.enter n (vf.toList++as.toList.map act.eval++vc.toList).toArray) W:=by
   simp only[execOp,hop,resolve,hfv,Deferred.ofValue,Sem.run_bind,Sem.run_pure,Result.andThen_ok,invoke];rw[run_callFunc hp.1];congr 2;apply Array.ext';simp
  refine⟨fun _ _=>trivial,?_⟩
  rw[Oper.semAt_eq _ _ _ (fun c h=>by rw[hop]at h;cases h),hrun]
  generalize first++as'++cap=args0 at hargs he hw hrd
  obtain⟨L1,g1,g2,g3⟩:=freezeAll (W:=W) (idsAll ids2 args0) hr.heap
  have hrx:RVs ⟨E.ι,E.sz,E.U,L1⟩ W args (vf.toList++as.toList.map act.eval++vc.toList):=by
   subst he;refine⟨by simpa using hargs.1,fun i x v hx hv=> ?_⟩
   rw[List.getElem?_map]at hx;obtain⟨y,hy,rfl⟩:=map_some hx;exact expoX2 hr.heap.core g1 (hargs.2 i y v hy hv) fun id hid=>g3 id (idsAll_mem (List.mem_of_getElem? hy) hid)
  refine⟨fen_depth,fen_calls ((hp.run hno g2 hrx).mono fun e' W' ⟨v,hev,r,L',h5,h6,h7,h8,h9⟩=> ?_)⟩
  subst hev;subst h9
  have hRH:RH ⟨E.ι,E.sz,E.U,L'⟩ W' ⟨σ.H.next,upd σ.H.get e.wr⟩:=by
   rcases hw with hw|hw
   ·rw[hw,←frz_upd];exact h6
   ·rw[hw,←frz_updF];exact h6
  have hrel:=(hr.mono (g1.trans h5) hRH).put (dst:=o.dst) (dstIn_ok hd) (c:=e.c) (a:=e.a) (fun _=>h7) (fun h=>by rw[hcc]at h;cases h)
  exact hn _ W' _ (Went.of (g1.trans h5) (Act.put_defers _ _ _)) hrel fun _ h=> .inl h
 |ocallx f as ts n args0 args el k rows hop hg hcc hc he hp hea hw hrd=>
  rw[wanted_of hr hg,if_pos hcc];obtain⟨first,cap,as',hf,has,rfl⟩:=calleeA_out hc
  have h1:=hr.get rfl hf;have h2:=getsA_ok (E:=E) (W:=W) (ρ:=act.eval) (fun x b hb=>hr.get rfl hb) _ _ has
  generalize hfv:act.eval f=fv at h1;cases h1 with
  |fn _ _ _ vf vc hl hl2 h3 h4=>
  have hargs:RVs E W (first++as'++cap) (vf.toList++as.toList.map act.eval++vc.toList):=by
   refine(RVs.append ?_ h2).append ?_
   ·exact⟨by simpa using hl,fun i x v hx hv=>h3 i x v hx (by simpa using hv)⟩
   ·exact⟨by simpa using hl2,fun i x v hx hv=>h4 i x v hx (by simpa using hv)⟩
  have hrun:(execOp act.eval o).run P W= .ok (.enter n (vf.toList++as.toList.map act.eval++vc.toList).toArray) W:=by
   simp only[execOp,hop,resolve,hfv,Deferred.ofValue,Sem.run_bind,Sem.run_pure,Result.andThen_ok,invoke];rw[run_callFunc hp.1];congr 2;apply Array.ext';simp
  refine⟨fun _ _=>trivial,?_⟩
  rw[Oper.semAt_eq _ _ _ (fun c h=>by rw[hop]at h;cases h),hrun]
  generalize first++as'++cap=args0 at hargs he hw hrd
  obtain⟨L1,g1,g2,g3⟩:=freezeAll (W:=W) (idsAll ids2 args0) hr.heap
  have hrx:RVs ⟨E.ι,E.sz,E.U,L1⟩ W args (vf.toList++as.toList.map act.eval++vc.toList):=by
   subst he;refine⟨by simpa using hargs.1,fun i x v hx hv=> ?_⟩
   rw[List.getElem?_map]at hx;obtain⟨y,hy,rfl⟩:=map_some hx;exact expoX2 hr.heap.core g1 (hargs.2 i y v hy hv) fun id hid=>g3 id (idsAll_mem (List.mem_of_getElem? hy) hid)
  refine⟨fen_depth,fen_calls ((hp.2 ⟨E.ι,E.sz,E.U,L1⟩ W _ nid _ g2.core hnid hrx).mono fun e' W' ⟨v,hev,E',hv,hG,hrv,hU⟩=> ?_)⟩
  subst hev
  have hRH:RH E' W' ⟨σ.H.next,upd σ.H.get e.wr⟩:=⟨fun id hid=>by
   rcases hU id hid with h5|h5
   ·exact hr.heap.next id h5
   ·subst h5;exact hlt,by rw[hw,upd_appN,←frz_upd];exact hG⟩
  have hrel:=(hr.mono (g1.trans hv) hRH).put (dst:=o.dst) (dstIn_ok hd) (c:=e.c) (a:=e.a) (fun _=>by rw[hea];exact hrv) (fun h=>by rw[hcc]at h;cases h)
  exact hn E' W' _ (Went.of (g1.trans hv) (Act.put_defers _ _ _)) hrel hU
 |ocall f as ts n args el k rows hop hg hcc hc hp hea hw=>
  rw[wanted_of hr hg,if_pos hcc];obtain⟨first,cap,as',hf,has,rfl⟩:=calleeA_out hc
  have h1:=hr.get rfl hf;have h2:=getsA_ok (E:=E) (W:=W) (ρ:=act.eval) (fun x b hb=>hr.get rfl hb) _ _ has
  generalize hfv:act.eval f=fv at h1;cases h1 with
  |fn _ _ _ vf vc hl hl2 h3 h4=>
  have hargs:RVs E W (first++as'++cap) (vf.toList++as.toList.map act.eval++vc.toList):=by
   refine(RVs.append ?_ h2).append ?_
   ·exact⟨by simpa using hl,fun i x v hx hv=>h3 i x v hx (by simpa using hv)⟩
   ·exact⟨by simpa using hl2,fun i x v hx hv=>h4 i x v hx (by simpa using hv)⟩
  have hrun:(execOp act.eval o).run P W= .ok (.enter n (vf.toList++as.toList.map act.eval++vc.toList).toArray) W:=by
   simp only[execOp,hop,resolve,hfv,Deferred.ofValue,Sem.run_bind,Sem.run_pure,Result.andThen_ok,invoke];rw[run_callFunc hp.1];congr 2;apply Array.ext';simp
  refine⟨fun _ _=>trivial,?_⟩
  rw[Oper.semAt_eq _ _ _ (fun c h=>by rw[hop]at h;cases h),hrun]
  refine⟨fen_depth,fen_calls ((hp.2 E W σ.H.get nid _ hr.heap.core hnid hargs).mono fun e' W' ⟨v,he,E',hv,hG,hrv,hU⟩=> ?_)⟩
  subst he
  have hRH:RH E' W' ⟨σ.H.next,upd σ.H.get e.wr⟩:=⟨fun id hid=>by
   rcases hU id hid with h5|h5
   ·exact hr.heap.next id h5
   ·subst h5;exact hlt,by rw[hw];exact hG⟩
  have hrel:=(hr.mono hv hRH).put (dst:=o.dst) (dstIn_ok hd) (c:=e.c) (a:=e.a) (fun _=>by rw[hea];exact hrv) (fun h=>by rw[hcc]at h;cases h)
  exact hn E' W' _ (Went.of hv (Act.put_defers _ _ _)) hrel hU
 |ccall f as ts n args id el0 k0 rows0 el k rows hop hg hcc hc hgi hp hea hw hrd=>
  rw[wanted_of hr hg,if_pos hcc];obtain⟨first,cap,as',hf,has,rfl⟩:=calleeA_out hc
  have h1:=hr.get rfl hf;have h2:=getsA_ok (E:=E) (W:=W) (ρ:=act.eval) (fun x b hb=>hr.get rfl hb) _ _ has
  generalize hfv:act.eval f=fv at h1;cases h1 with
  |fn _ _ _ vf vc hl hl2 h3 h4=>
  have hargs:RVs E W (first++as'++cap) (vf.toList++as.toList.map act.eval++vc.toList):=by
   refine(RVs.append ?_ h2).append ?_
   ·exact⟨by simpa using hl,fun i x v hx hv=>h3 i x v hx (by simpa using hv)⟩
   ·exact⟨by simpa using hl2,fun i x v hx hv=>h4 i x v hx (by simpa using hv)⟩
  have hrun:(execOp act.eval o).run P W= .ok (.enter n (vf.toList++as.toList.map act.eval++vc.toList).toArray) W:=by
   simp only[execOp,hop,resolve,hfv,Deferred.ofValue,Sem.run_bind,Sem.run_pure,Result.andThen_ok,invoke];rw[run_callFunc hp.1];congr 2;apply Array.ext';simp
  refine⟨fun _ _=>trivial,?_⟩
  rw[Oper.semAt_eq _ _ _ (fun c h=>by rw[hop]at h;cases h),hrun]
  refine⟨fen_depth,fen_calls ((hp.2 E W σ.H.get nid _ hr.heap.core hgi hnid hargs).mono fun e' W' ⟨v,he,E',hv,hG,hrv,hU⟩=> ?_)⟩
  subst he
  have hRH:RH E' W' ⟨σ.H.next,upd σ.H.get e.wr⟩:=⟨fun id hid=>by
   rcases hU id hid with h5|h5
   ·exact hr.heap.next id h5
   ·subst h5;exact hlt,by rw[hw];exact hG⟩
  have hrel:=(hr.mono hv hRH).put (dst:=o.dst) (dstIn_ok hd) (c:=e.c) (a:=e.a) (fun _=>by rw[hea];exact hrv) (fun h=>by rw[hcc]at h;cases h)
  exact hn E' W' _ (Went.of hv (Act.put_defers _ _ _)) hrel hU
 |tocall f as ts n args a el k rows hop hg hcc hc hp hea hw=>
  rw[wanted_of hr hg,if_pos hcc];obtain⟨first,cap,as',hf,has,rfl⟩:=calleeA_out hc
  have h1:=hr.get rfl hf;have h2:=getsA_ok (E:=E) (W:=W) (ρ:=act.eval) (fun x b hb=>hr.get rfl hb) _ _ has
  generalize hfv:act.eval f=fv at h1;cases h1 with
  |fn _ _ _ vf vc hl hl2 h3 h4=>
  have hargs:RVs E W (first++as'++cap) (vf.toList++as.toList.map act.eval++vc.toList):=by
   refine(RVs.append ?_ h2).append ?_
   ·exact⟨by simpa using hl,fun i x v hx hv=>h3 i x v hx (by simpa using hv)⟩
   ·exact⟨by simpa using hl2,fun i x v hx hv=>h4 i x v hx (by simpa using hv)⟩
  have hrun:(execOp act.eval o).run P W= .ok (.enter n (vf.toList++as.toList.map act.eval++vc.toList).toArray) W:=by
   simp only[execOp,hop,resolve,hfv,Deferred.ofValue,Sem.run_bind,Sem.run_pure,Result.andThen_ok,invoke];rw[run_callFunc hp.1];congr 2;apply Array.ext';simp
  refine⟨fun _ _=>trivial,?_⟩
  rw[Oper.semAt_eq _ _ _ (fun c h=>by rw[hop]at h;cases h),hrun]
  refine⟨fen_depth,fen_calls ((hp.2 E W σ.H.get nid _ hr.heap.core hnid hargs).mono fun e' W' ⟨v,he,E',hv,hG,hrv,hU⟩=> ?_)⟩
  subst he
  have hRH:RH E' W' ⟨σ.H.next,upd σ.H.get e.wr⟩:=⟨fun id hid=>by
   rcases hU id hid with h5|h5
   ·exact hr.heap.next id h5
   ·subst h5;exact hlt,by rw[hw];exact hG⟩
  have hrel:=(hr.mono hv hRH).put (dst:=o.dst) (dstIn_ok hd) (c:=e.c) (a:=e.a) (fun _=>by rw[hea];exact hrv) (fun h=>by rw[hcc]at h;cases h)
  exact hn E' W' _ (Went.of hv (Act.put_defers _ _ _)) hrel hU
 |rcall f as ts n args0 args k hop hg hcc hc he hno hp hw hrd=>
  rw[wanted_of hr hg,if_pos hcc];obtain⟨first,cap,as',hf,has,rfl⟩:=calleeA_out hc
  have h1:=hr.get rfl hf;have h2:=getsA_ok (E:=E) (W:=W) (ρ:=act.eval) (fun x b hb=>hr.get rfl hb) _ _ has
  generalize hfv:act.eval f=fv at h1;cases h1 with
  |fn _ _ _ vf vc hl hl2 h3 h4=>
  have hargs:RVs E W (first++as'++cap) (vf.toList++as.toList.map act.eval++vc.toList):=by
   refine(RVs.append ?_ h2).append ?_
   ·exact⟨by simpa using hl,fun i x v hx hv=>h3 i x v hx (by simpa using hv)⟩
   ·exact⟨by simpa using hl2,fun i x v hx hv=>h4 i x v hx (by simpa using hv)⟩
  have hrun:(execOp act.eval o).run P W= .ok (.enter n (vf.toList++as.toList.map act.eval++vc.toList).toArray) W:=by
   simp only[execOp,hop,resolve,hfv,Deferred.ofValue,Sem.run_bind,Sem.run_pure,Result.andThen_ok,invoke];rw[run_callFunc hp.1];congr 2;apply Array.ext';simp
  refine⟨fun _ _=>trivial,?_⟩
  rw[Oper.semAt_eq _ _ _ (fun c h=>by rw[hop]at h;cases h),hrun]
  refine⟨fen_depth,fen_calls ((hp.runR k he hno hr.heap hr.heap.core hargs).mono fun e' W' ⟨v,hev,L',hv,hH,hrv⟩=> ?_)⟩
  subst hev;refine hn _ W' _ (Went.of hv (Act.put_defers _ _ _)) ?_ fun _ h=> .inl h
  rw[happ hw];exact(hr.mono hv hH).put (dst:=o.dst) (dstIn_ok hd) (c:=e.c) (fun _=>hrv) (fun h=>by rw[hcc]at h;cases h)
 |rocall f as ts n args0 args kk a el k rows ap hop hg hcc hc he hno hp hea hw hrd=>
  rw[wanted_of hr hg,if_pos hcc];obtain⟨first,cap,as',hf,has,rfl⟩:=calleeA_out hc
  have h1:=hr.get rfl hf;have h2:=getsA_ok (E:=E) (W:=W) (ρ:=act.eval) (fun x b hb=>hr.get rfl hb) _ _ has
  generalize hfv:act.eval f=fv at h1;cases h1 with
  |fn _ _ _ vf vc hl hl2 h3 h4=>
  have hargs:RVs E W (first++as'++cap) (vf.toList++as.toList.map act.eval++vc.toList):=by
   refine(RVs.append ?_ h2).append ?_
   ·exact⟨by simpa using hl,fun i x v hx hv=>h3 i x v hx (by simpa using hv)⟩
   ·exact⟨by simpa using hl2,fun i x v hx hv=>h4 i x v hx (by simpa using hv)⟩
  have hrun:(execOp act.eval o).run P W= .ok (.enter n (vf.toList++as.toList.map act.eval++vc.toList).toArray) W:=by
   simp only[execOp,hop,resolve,hfv,Deferred.ofValue,Sem.run_bind,Sem.run_pure,Result.andThen_ok,invoke];rw[run_callFunc hp.1];congr 2;apply Array.ext';simp
  refine⟨fun _ _=>trivial,?_⟩
  rw[Oper.semAt_eq _ _ _ (fun c h=>by rw[hop]at h;cases h),hrun]
  refine⟨fen_depth,fen_calls ((hp.run kk he hno hnid hr.heap hr.heap.core hargs).mono fun e' W' ⟨v,hev,E',hv,hG,hrv,hU⟩=> ?_)⟩
  subst hev
  have hRH:RH E' W' ⟨σ.H.next,upd σ.H.get e.wr⟩:=⟨fun id hid=>by
   rcases hU id hid with h5|h5
   ·exact hr.heap.next id h5
   ·subst h5;exact hlt,by rw[hw];exact hG⟩
  have hrel:=(hr.mono hv hRH).put (dst:=o.dst) (dstIn_ok hd) (c:=e.c) (a:=e.a) (fun _=>by rw[hea];exact hrv) (fun h=>by rw[hcc]at h;cases h)
  exact hn E' W' _ (Went.of hv (Act.put_defers _ _ _)) hrel hU
 |skip hg hc hw=>
  rw[wanted_of hr hg,if_neg (by rw[hc];decide)]
  exact skip (by rw[hc];decide) hw
 |res hg hres hw=>
  rw[wanted_of hr hg];by_cases hcc:e.c=true
  ·rw[if_pos hcc]
   obtain⟨W',v,E',hrun,hv,hG,hrv,hU⟩:=res_ok hres E W act.eval hr.heap.core hnid (fun x b hb=>hr.get hcc hb)
   have hU':∀id,E'.U id→E.U id∨id=nid:=fun id h=>(hU id h).imp (fun h=>h) (fun h=>h.1)
   have hRH:RH E' W' ⟨σ.H.next,upd σ.H.get e.wr⟩:=⟨fun id hid=>by
    rcases hU' id hid with h1|h1
    ·exact hr.heap.next id h1
    ·subst h1;exact hlt,hG⟩
   have hrel:=(hr.mono hv hRH).put (dst:=o.dst) (dstIn_ok hd) (c:=e.c) (fun _=>hrv) (fun h=>by rw[hcc]at h;cases h)
   have hres2:=hn E' W' _ (Went.of hv (Act.put_defers _ _ _)) hrel hU';refine⟨fun _ _=>trivial,?_⟩
   rw[Oper.semAt_eq _ _ _ (res_noDefer hres)];rcases hrun with h1|⟨h1,h2⟩
   ·rw[h1];exact hres2
   ·rw[h1];subst h2;exact hres2
  ·rw[if_neg hcc]
   exact skip hcc (hw.resolve_right hcc)
end
def top(p:Nat→Bool):Nat→Option Nat
 |0=>none
 |n+1=>if p n then some n else top p n
theorem top_congr{p q:Nat→Bool}:∀{n:Nat},(∀i,i<n→p i=q i)→top p n=top q n
 |0,_=>rfl
 |n+1,h=>by simp only[top,h n (Nat.lt_succ_self n),top_congr fun i hi=>h i (Nat.lt_succ_of_lt hi)]
theorem top_some{p:Nat→Bool}{j:Nat}:∀{n:Nat},j<n→p j=true→(∀i,i<n→p i=true→i≤j)→top p n=some j
 |0,h,_,_=>by omega
 |n+1,h,hp,hm=>by
  simp only[top];by_cases hn:p n=true
  ·have:=hm n (Nat.lt_succ_self n) hn
   have:n=j:=by omega
   subst this;simp[hn]
  ·have hne:j≠n:=fun e=>by subst e;exact hn hp
   simp only[hn,if_false,Bool.false_eq_true];exact top_some (by omega) hp fun i hi=>hm i (by omega)
theorem top_below{p:Nat→Bool}{j:Nat}:∀{n:Nat},j≤n→(∀i,i<n→p i=true→i<j)→top p n=top p j
 |0,h,_=>by
  have hj:j=0:=by omega
  subst hj;rfl
 |n+1,h,hm=>by
  by_cases hj:j=n+1
  ·subst hj;rfl
  ·simp only[top]
   have hn:¬p n=true:=fun hp=>by have:=hm n (Nat.lt_succ_self n) hp;omega
   simp only[hn,if_false,Bool.false_eq_true];exact top_below (by omega) fun i hi=>hm i (by omega)
def wlook:List (Nat×Option Blk)→Nat→Option (Option Blk)
 |[],_=>none
 |(i,b)::r,k=>match wlook r k with
  |some x=>some x
  |none=>if k=i then some b else none
theorem upd_wlook:∀(wr:List (Nat×Option Blk)) (G:Nat→Option Blk) (k:Nat),upd G wr k=(wlook wr k).getD (G k)
 |[],G,k=>rfl
 |(i,b)::r,G,k=>by
  simp only[upd,wlook];rw[upd_wlook r];cases wlook r k with
  |some x=>rfl
  |none=>by_cases h:k=i<;>simp[h]
def stD(ops:Array Oper)(es:List Entry)(σ0:AS)(D:Nat→Bool):Nat→AS
 |0=>σ0
 |k+1=>if D k then(match ops[k]?,es[k]? with
  |some o,some e=>(stD ops es σ0 D k).app o.dst e
  |_,_=>stD ops es σ0 D k)else stD ops es σ0 D k
def wt(ops:Array Oper)(es:List Entry)(t:Nat)(i:Nat):Bool:=
 match ops[i]?,es[i]? with
 |some o,some _=>o.dst==some t
 |_,_=>false
def slotOf(es:List Entry)(i:Nat):Option (Bool×AV):=(es[i]?).map fun e=>(e.c,e.a)
def wk(ops:Array Oper)(es:List Entry)(k:Nat)(i:Nat):Bool:=
 match ops[i]?,es[i]? with
 |some _,some e=>(wlook e.wr k).isSome
 |_,_=>false
def blkOf(es:List Entry)(k i:Nat):Option Blk:=((es[i]?).bind fun e=>wlook e.wr k).getD none
section
variable {ops : Array Oper} {es : List Entry} {σ0 : AS}
theorem app_nt(σ:AS)(dst:Option Tmp)(e:Entry):(σ.app dst e).nt=σ.nt:=by unfold AS.app;rw[AS.put_nt]
theorem app_next(σ:AS)(dst:Option Tmp)(e:Entry):(σ.app dst e).H.next=σ.H.next:=by unfold AS.app AS.put;split<;>rfl
theorem app_get(σ:AS)(dst:Option Tmp)(e:Entry):(σ.app dst e).H.get=upd σ.H.get e.wr:=by unfold AS.app AS.put;split<;>rfl
theorem app_lk(σ:AS)(dst:Option Tmp)(e:Entry)(t:Nat):lk (σ.app dst e).env t=if dst=some t then some (e.c,e.a)else lk σ.env t:=by
 unfold AS.app AS.put;cases dst with
 |none=>simp
 |some d=>
  simp only[lk,Option.some.injEq];by_cases h:t=d
  ·subst h;simp
  ·simp[h,Ne.symm h]
theorem stD_nt(D:Nat→Bool):∀k,(stD ops es σ0 D k).nt=σ0.nt
 |0=>rfl
 |k+1=>by
  simp only[stD];split
  ·split
   ·rw[app_nt];exact stD_nt D k
   ·exact stD_nt D k
  ·exact stD_nt D k
theorem stD_next(D:Nat→Bool):∀k,(stD ops es σ0 D k).H.next=σ0.H.next
 |0=>rfl
 |k+1=>by
  simp only[stD];split
  ·split
   ·rw[app_next];exact stD_next D k
   ·exact stD_next D k
  ·exact stD_next D k
theorem stD_lk(D:Nat→Bool)(t:Nat):∀k,lk (stD ops es σ0 D k).env t=match top (fun i=>D i&&wt ops es t i) k with
  |some i=>slotOf es i
  |none=>lk σ0.env t
 |0=>rfl
 |k+1=>by
  have ih:=stD_lk D t k;simp only[stD,top];by_cases hD:D k=true
  case neg=>
   have hD':D k=false:=by simpa using hD
   simp only[hD',Bool.false_eq_true,if_false,Bool.false_and];exact ih
  case pos=>
   simp only[hD,if_true,Bool.true_and];cases ho:ops[k]? with
   |none=>simp only[wt,ho,Bool.false_eq_true,if_false];exact ih
   |some o=>
    cases he:es[k]? with
    |none=>simp only[wt,ho,he,Bool.false_eq_true,if_false];exact ih
    |some e=>
     simp only[wt,ho,he,app_lk,beq_iff_eq];by_cases hd:o.dst=some t
     ·simp[hd,slotOf,he]
     ·simp only[hd,if_false];exact ih
theorem stD_get(D:Nat→Bool)(q:Nat):∀k,(stD ops es σ0 D k).H.get q=match top (fun i=>D i&&wk ops es q i) k with
  |some i=>blkOf es q i
  |none=>σ0.H.get q
 |0=>rfl
 |k+1=>by
  have ih:=stD_get D q k;simp only[stD,top];by_cases hD:D k=true
  case neg=>
   have hD':D k=false:=by simpa using hD
   simp only[hD',Bool.false_eq_true,if_false,Bool.false_and];exact ih
  case pos=>
   simp only[hD,if_true,Bool.true_and];cases ho:ops[k]? with
   |none=>simp only[wk,ho,Bool.false_eq_true,if_false];exact ih
   |some o=>
    cases he:es[k]? with
    |none=>simp only[wk,ho,he,Bool.false_eq_true,if_false];exact ih
    |some e=>
     simp only[wk,ho,he,app_get,upd_wlook];cases hw:wlook e.wr q with
     |none=>simp only[Option.isSome_none,Bool.false_eq_true,if_false,Option.getD_none];exact ih
     |some b=>simp[blkOf,he,hw]
end
theorem Rel.ext{E:Env}{W:World}{σ σ':AS}{act:Act}(h:Rel E W σ act)(hl:∀t,lk σ'.env t=lk σ.env t)(hg:∀id,σ'.H.get id=σ.H.get id)(hn:σ'.H.next=σ.H.next)(ht:σ'.nt=σ.nt):Rel E W σ' act:=by
 have hG:σ'.H.get=σ.H.get:=funext hg
 exact⟨h.defers,by rw[ht];exact h.size,fun t c a ha=>h.env t c a (by rw[←hl];exact ha),⟨by rw[hn];exact h.heap.next,by rw[hG];exact h.heap.core⟩⟩
end Go.AL
namespace Go.AL
open Go.RowKit
def onsOf(o:Oper):List Nat:=(o.after.toList.filter (fun e=>Region.binds .any e)).map (·.on)
inductive Reach (ops:List Oper):Nat→Nat→Prop
 |step {i j:Nat} {o:Oper} (h:ops[j]? =some o) (hi:i∈onsOf o):Reach ops i j
 |trans {i k j:Nat} {o:Oper} (h:ops[j]? =some o) (hk:k∈onsOf o) (hr:Reach ops i k):Reach ops i j
def Closed(ops:List Oper)(D:Nat→Bool):Prop:=∀(j:Nat) o,ops[j]? =some o→D j=true→∀k∈onsOf o,D k=true
theorem Reach.closed{ops:List Oper}{D:Nat→Bool}(hc:Closed ops D){i j:Nat}(h:Reach ops i j):D j=true→D i=true:=by
 induction h with
 |step h hi=>exact fun hj=>hc _ _ h hj _ hi
 |trans h hk _ ih=>exact fun hj=>ih (hc _ _ h hj _ hk)
def maskOf(o:Oper)(acc:List Nat):Nat:=(onsOf o).foldl (fun s k=>s|||2 ^ k|||acc.getD k 0) 0
def tabGo:List Oper→List Nat→List Nat
 |[],acc=>acc
 |o::r,acc=>tabGo r (acc++[maskOf o acc])
def tab(ops:List Oper):List Nat:=tabGo ops []
theorem mask_bit{acc:List Nat}{i:Nat}:∀(l:List Nat) (s:Nat),(l.foldl (fun s k=>s|||2 ^ k|||acc.getD k 0) s).testBit i=true→s.testBit i=true∨∃k∈l,i=k∨(acc.getD k 0).testBit i=true
 |[],s,h=> .inl h
 |k::l,s,h=>by
  simp only[List.foldl_cons]at h;rcases mask_bit l _ h with h|⟨k',h1,h2⟩
  ·simp only[Nat.testBit_or,Bool.or_eq_true]at h
   rcases h with(h|h)|h
   ·exact .inl h
   ·rw[Nat.testBit_two_pow]at h
    have h':k=i:=of_decide_eq_true h;exact .inr ⟨k,by simp,.inl h'.symm⟩
   ·exact .inr ⟨k,by simp,.inr h⟩
  ·exact .inr ⟨k',by simp[h1],h2⟩
theorem tabGo_ok{ops:List Oper}:∀(r:List Oper) (acc:List Nat),ops.drop acc.length=r→(∀(j m i:Nat),acc[j]? =some m→m.testBit i=true→Reach ops i j)→∀(j m i:Nat),(tabGo r acc)[j]? =some m→m.testBit i=true→Reach ops i j
 |[],acc,_,h=>h
 |o::r,acc,hd,h=>by
  have hlt:acc.length<ops.length:=by
   rcases Nat.lt_or_ge acc.length ops.length with h|h
   ·exact h
   ·rw[List.drop_eq_nil_of_le h]at hd;cases hd
  have ho:ops[acc.length]? =some o:=by
   have:=List.getElem?_drop (xs:=ops) (i:=acc.length) (j:=0);rw[hd]at this;simpa using this.symm
  refine tabGo_ok r (acc++[maskOf o acc]) ?_ ?_
  ·rw[List.length_append,List.length_singleton,←List.drop_drop,hd];rfl
  ·intro j m i hj hb
   by_cases hjl:j<acc.length
   ·rw[List.getElem?_append_left hjl]at hj;exact h j m i hj hb
   ·rw[List.getElem?_append_right (by omega)]at hj
    have hj0:j-acc.length=0:=by
     rcases Nat.eq_zero_or_pos (j-acc.length)with h0|h0
     ·exact h0
     ·rw[List.getElem?_eq_none (by simp;omega)]at hj;cases hj
    have hje:j=acc.length:=by omega
    subst hje;simp at hj;subst hj;rcases mask_bit _ _ hb with h0|⟨k,hk,hik⟩
    ·simp at h0
    ·rcases hik with rfl|hik
     ·exact .step ho hk
     ·cases hkm:acc[k]? with
      |none=>simp[List.getD,hkm]at hik
      |some m'=>
       simp[List.getD,hkm]at hik;exact .trans ho hk (h k m' i hkm hik)
theorem tab_ok{ops:List Oper}{i j:Nat}(h:((tab ops).getD j 0).testBit i=true):Reach ops i j:=by
 cases hm:(tab ops)[j]? with
 |none=>simp[List.getD,hm]at h
 |some m=>
  simp[List.getD,hm]at h;exact tabGo_ok ops [] rfl (fun j m i hj=>by simp at hj) j m i hm h
def namesOf(ops:Array Oper)(o:Oper):List Tmp:=o.dst.toList++o.looksAt ops
def namesConf(ops:Array Oper)(x y:Oper):Bool:=(match x.dst with|some d=>(namesOf ops y).contains d|none=>false)||(match y.dst with|some d=>(namesOf ops x).contains d|none=>false)
def statGo(ops:Array Oper)(tb:List Nat):Bool:=
 ((List.range ops.size).all fun j=>match ops[j]? with
   |some o=>(onsOf o).all (·<j)
   |none=>true)&&
 (List.range ops.size).all fun j=>(List.range j).all fun i=>match ops[i]?,ops[j]? with
   |some x,some y=> !(namesConf ops x y)||(tb.getD j 0).testBit i
   |_,_=>true
def statB(ops:Array Oper):Bool:=statGo ops (tab ops.toList)
def hasK(e:Entry)(k:Nat):Bool:=e.rd.contains k||e.wr.any fun p=>p.1==k
def conf(a b:Entry):Bool:=(a.wr.any fun p=>hasK b p.1)||(b.wr.any fun p=>hasK a p.1)
def dynGo(tb:List Nat):Nat→List (Nat×Entry)→List Entry→Bool
 |_,_,[]=>true
 |j,prev,e::r=>prev.all (fun p=> !(conf p.2 e)||(tb.getD j 0).testBit p.1)&&dynGo tb (j+1) ((j,e)::prev) r
theorem dynGo_ok{tb:List Nat}:∀(r:List Entry) (j:Nat) (prev:List (Nat×Entry)),dynGo tb j prev r=true→
  (∀p∈prev,∀(k:Nat) e,r[k]? =some e→conf p.2 e=true→(tb.getD (j+k) 0).testBit p.1=true)∧(∀(i k:Nat) a b,i<k→r[i]? =some a→r[k]? =some b→conf a b=true→(tb.getD (j+k) 0).testBit (j+i)=true)
 |[],j,prev,_=>⟨fun p _ k e h=>by simp at h,fun i k a b _ h=>by simp at h⟩
 |e::r,j,prev,h=>by
  simp only[dynGo,Bool.and_eq_true,List.all_eq_true]at h;obtain⟨h1,h2⟩:=h;obtain⟨h3,h4⟩:=dynGo_ok r (j+1) ((j,e)::prev) h2;refine⟨fun p hp k e' he hc=> ?_,fun i k a b hik ha hb hc=> ?_⟩
  ·cases k with
   |zero=>
    simp at he;subst he;have:=h1 p hp;simp[hc]at this;simpa using this
   |succ k=>
    have:=h3 p (by simp[hp]) k e' (by simpa using he) hc
    rw[show j+(k+1)=j+1+k by omega];exact this
  ·cases k with
   |zero=>omega
   |succ k=>
    cases i with
    |zero=>
     simp at ha;subst ha;have:=h3 (j,e) (by simp) k b (by simpa using hb) hc
     rw[show j+(k+1)=j+1+k by omega];exact this
    |succ i=>
     have:=h4 i k a b (by omega) (by simpa using ha) (by simpa using hb) hc
     rw[show j+(k+1)=j+1+k by omega,show j+(i+1)=j+1+i by omega];exact this
inductive DRun (P:Program) (ops:List Oper) (N0:Nat):Nat→List Oper→AS→List Entry→AS→Prop
 |nil (i:Nat) (σ:AS):DRun P ops N0 i [] σ [] σ
 |cons (i:Nat) (o:Oper) (r:List Oper) (σ:AS) (e:Entry) (es:List Entry) (σ':AS) (h:Ent P ops o σ (N0+i) e) (hr:DRun P ops N0 (i+1) r (σ.app o.dst e) es σ'):DRun P ops N0 i (o::r) σ (e::es) σ'
theorem DRun.out{P:Program}{ops:Array Oper}{N0:Nat}{σ0:AS}{i:Nat}{r:List Oper}{σ σ':AS}{es:List Entry}(h:DRun P ops.toList N0 i r σ es σ'):
  ∀pre:List Entry,pre.length=i→ops.toList.drop i=r→i≤ops.size→σ=stD ops (pre++es) σ0 (fun _=>true) i→
   (pre++es).length=ops.size∧σ'=stD ops (pre++es) σ0 (fun _=>true) ops.size∧
   ∀(j:Nat) o e,i≤j→ops[j]? =some o→(pre++es)[j]? =some e→Ent P ops.toList o (stD ops (pre++es) σ0 (fun _=>true) j) (N0+j) e:=by
 induction h with
 |nil i σ=>
  intro pre hp hd hi hσ
  have hlen:ops.size=i:=by
   have:=congrArg List.length hd;simp at this;omega
  refine⟨by simp;omega,by rw[hlen];exact hσ,fun j o e hj ho=> ?_⟩
  have:=(Array.getElem?_eq_some_iff.1 ho).1;omega
 |cons i o r σ e es σ' he _ ih=>
  intro pre hp hd hi hσ
  have ho:ops[i]? =some o:=by
   have:=List.getElem?_drop (xs:=ops.toList) (i:=i) (j:=0);rw[hd]at this;simpa using this.symm
  have hlt:i<ops.size:=(Array.getElem?_eq_some_iff.1 ho).1;have hpe:pre++e::es=(pre++[e])++es:=by simp
  have hge:(pre++e::es)[i]? =some e:=by rw[List.getElem?_append_right (by omega)];simp[hp]
  have hst:σ.app o.dst e=stD ops ((pre++[e])++es) σ0 (fun _=>true) (i+1):=by
   simp only[stD,if_true];rw[←hpe];simp only[ho,hge];rw[←hσ]
  obtain⟨h1,h2,h3⟩:=ih (pre++[e]) (by simp[hp]) (by rw[←List.drop_drop,hd];rfl) (by omega) hst
  refine⟨by rw[hpe];exact h1,by rw[hpe];exact h2,fun j o' e' hj ho' he'=> ?_⟩
  by_cases hji:j=i
  ·subst hji
   rw[ho]at ho';injection ho' with ho'
   subst ho';rw[hge]at he';injection he' with he'
   subst he';rw[←hσ];exact he
  ·rw[hpe]at he'⊢
   exact h3 j o' e' (by omega) ho' he'
section
variable {P : Program} {ops : Array Oper} {es : List Entry} {σ0 : AS} {N0 : Nat}
def Lst(l:Array Bool)(i:Nat):Bool:=l.getD i false
theorem draw_any{E0:Env}{W0:World}{A0:Act}{ro:Option Nat}{Q:Exit→Act→World→Prop}(hlen:es.length=ops.size)(hent:∀(j:Nat) o e,ops[j]? =some o→es[j]? =some e→Ent P ops.toList o (stD ops es σ0 (fun _=>true) j) (N0+j) e)
  (hacy:∀(j:Nat) o,ops[j]? =some o→∀k∈onsOf o,k<j)
  (hnames:∀(i j:Nat) x y,i<j→ops[i]? =some x→ops[j]? =some y→namesConf ops x y=true→Reach ops.toList i j)
  (hconf:∀(i j:Nat) a b,i<j→es[i]? =some a→es[j]? =some b→conf a b=true→Reach ops.toList i j)
  (hd:ops.toList.all (dstIn σ0.nt)=true) (hnext:σ0.H.next=N0+ops.size)
  (hQ:∀E W act,Went E0 W0 A0 E W act→Rel E W (stD ops es σ0 (fun _=>true) ops.size) act→Q .normal act W):
  ∀(fuel:Nat) (l:Array Bool) (E:Env) (W:World) (act:Act),l.size=ops.size→(List.range ops.size).countP (fun i=> !Lst l i)≤fuel→Closed ops.toList (Lst l)→Went E0 W0 A0 E W act→Rel E W (stD ops es σ0 (Lst l) ops.size) act→
   (∀id,E.U id→id<N0∨∃i,Lst l i=true∧id=N0+i)→wpAnyIn (fen ro) 3 P .any ops Q fuel l act W:=by
 --all listed
 have hall:∀(l:Array Bool),l.size=ops.size→Closed ops.toList (Lst l)→Region.ready .any ops l=[]→∀i,i<ops.size→Lst l i=true:=by
  intro l hl hc hr i
  induction i using Nat.strongRecOn with
  |_ i ih=>
   intro hi;by_cases hli:Lst l i=true
   ·exact hli
   ·exfalso
    have hmem:i∈Region.ready .any ops l:=by
     rw[mem_ready]
     have hget:l.getD i true=false:=by
      have:i<l.size:=by omega
      simp[Lst,this]at hli;simp[this,hli]
     refine⟨hget,ops[i],Array.getElem?_eq_getElem hi,fun e he hb=> ?_⟩
     have hk:e.on∈onsOf ops[i]:=List.mem_map.2 ⟨e,List.mem_filter.2 ⟨by simpa using he,hb⟩,rfl⟩
     have hlt:=hacy i ops[i] (Array.getElem?_eq_getElem hi) e.on hk;exact ih e.on hlt (by omega)
    rw[hr]at hmem;cases hmem
 have hfin:∀(l:Array Bool) (E:Env) (W:World) (act:Act),l.size=ops.size→Closed ops.toList (Lst l)→Went E0 W0 A0 E W act→Rel E W (stD ops es σ0 (Lst l) ops.size) act→Region.ready .any ops l=[]→Q .normal act W:=by
  intro l E W act hl hc hv hr hrd;have ha:=hall l hl hc hrd
  have heq:∀k,k≤ops.size→stD ops es σ0 (Lst l) k=stD ops es σ0 (fun _=>true) k:=by
   intro k
   induction k with
   |zero=>intro _;rfl
   |succ k ih=>
    intro hk;simp only[stD,ha k (by omega),if_true]
    rw[ih (by omega)]
  rw[heq _ (Nat.le_refl _)]at hr;exact hQ E W act hv hr
 intro fuel
 induction fuel with
 |zero=>
  intro l E W act hl hcount hc hv hr hU
  have hrd:Region.ready .any ops l=[]:=by
   cases hrdy:Region.ready .any ops l with
   |nil=>rfl
   |cons i rest=>
    exfalso;have hmem:i∈Region.ready .any ops l:=by rw[hrdy];simp
    obtain⟨h0,o,ho,_⟩:=mem_ready.1 hmem;have hi:i<ops.size:=(Array.getElem?_eq_some_iff.1 ho).1
    have h1:Lst l i=false:=by
     have:i<l.size:=by omega
     simp[this]at h0;simp[Lst,this,h0]
    have h2:0<(List.range ops.size).countP (fun i=> !Lst l i):=List.countP_pos_iff.2 ⟨i,by simpa using hi,by simp[h1]⟩
    omega
  exact⟨hrd,hfin l E W act hl hc hv hr hrd⟩
 |succ fuel ih=>
  intro l E W act hl hcount hc hv hr hU;refine⟨hfin l E W act hl hc hv hr,fun j hj=> ?_⟩
  obtain⟨h0,o,ho,hafter⟩:=mem_ready.1 hj;have hjn:j<ops.size:=(Array.getElem?_eq_some_iff.1 ho).1
  have hjl:Lst l j=false:=by
   have:j<l.size:=by omega
   simp[this]at h0;simp[Lst,this,h0]
  have hol:ops.toList[j]? =some o:=by simpa using ho
  have hpre:∀k∈onsOf o,Lst l k=true:=fun k hk=>by
   obtain⟨e,he,rfl⟩:=List.mem_map.1 hk;obtain⟨he1,he2⟩:=List.mem_filter.1 he;exact hafter e (by simpa using he1) he2
  have hpreR:∀i,Reach ops.toList i j→Lst l i=true:=fun i h=>by
   cases h with
   |step h hi=>rw[hol]at h;injection h with h;subst h;exact hpre _ hi
   |trans h hk hr=>rw[hol]at h;injection h with h;subst h;exact hr.closed hc (hpre _ hk)
  have hpostR:∀i,Reach ops.toList j i→Lst l i=false:=fun i h=>by
   cases hli:Lst l i
   ·rfl
   ·have:=h.closed hc hli;rw[hjl]at this;cases this
  obtain⟨e,he⟩:∃e,es[j]? =some e:=⟨es[j]'(by omega),List.getElem?_eq_getElem (by omega)⟩
  --of two that touch one another,which is done
  have hcmp:∀i,i<ops.size→(∀x y,ops[i]? =some x→ops[j]? =some y→(i<j→Reach ops.toList i j)∧(j<i→Reach ops.toList j i))→i≠j→Lst l i=decide (i<j):=by
   intro i hi hcase hne;obtain⟨x,hx⟩:∃x,ops[i]? =some x:=⟨ops[i],Array.getElem?_eq_getElem hi⟩;obtain⟨h1,h2⟩:=hcase x o hx ho;rcases Nat.lt_or_gt_of_ne hne with h|h
   ·simp[h,hpreR i (h1 h)]
   ·have:¬i<j:=by omega
    simp[this,hpostR i (h2 h)]
  have hcmpN:∀i x,i<ops.size→ops[i]? =some x→i≠j→(namesConf ops x o=true∨namesConf ops o x=true)→Lst l i=decide (i<j):=fun i x hi hx hne hcn=>
   hcmp i hi (fun x' y' hx' hy'=>by
    rw[hx]at hx';injection hx' with hx';subst hx'
    rw[ho]at hy';injection hy' with hy';subst hy'
    have hsym:∀a b:Oper,namesConf ops a b=namesConf ops b a:=fun a b=>by unfold namesConf;rw[Bool.or_comm]
    have hb:namesConf ops x o=true:=hcn.elim id fun h=>by rw[hsym];exact h
    exact⟨fun h=>hnames i j x o h hx ho hb,fun h=>hnames j i o x h ho hx (by rw[hsym];exact hb)⟩) hne
  have hcmpK:∀i a,i<ops.size→es[i]? =some a→i≠j→(conf a e=true∨conf e a=true)→Lst l i=decide (i<j):=fun i a hi ha hne hcn=>
   hcmp i hi (fun x' y' hx' hy'=>by
    have hsym:∀a b:Entry,conf a b=conf b a:=fun a b=>by unfold conf;rw[Bool.or_comm]
    have hb:conf a e=true:=hcn.elim id fun h=>by rw[hsym];exact h
    exact⟨fun h=>hconf i j a e h ha he hb,fun h=>hconf j i e a h he ha (by rw[hsym];exact hb)⟩) hne
  have hwtn:∀i t,wt ops es t i=true→∃x,ops[i]? =some x∧x.dst=some t:=fun i t h=>by
   unfold wt at h;split at h
   ·rename_i x e' hx he';exact⟨x,hx,by simpa using h⟩
   ·cases h
  have hwkn:∀i q,wk ops es q i=true→∃a,es[i]? =some a∧(wlook a.wr q).isSome=true:=fun i q h=>by
   unfold wk at h;split at h
   ·rename_i x e' hx he';exact⟨e',he',h⟩
   ·cases h
  have hwin:∀(wr:List (Nat×Option Blk)) q,(wlook wr q).isSome=true→∃p∈wr,p.1=q:=by
   intro wr q
   induction wr with
   |nil=>intro h;simp[wlook]at h
   |cons p r ih=>
    intro h;obtain⟨pi,pb⟩:=p;simp only[wlook]at h;cases hw:wlook r q with
    |some x=>
     obtain⟨p',h1,h2⟩:=ih (by rw[hw];rfl)
     exact⟨p',by simp[h1],h2⟩
    |none=>
     simp only[hw]at h;by_cases hqp:q=pi
     ·exact⟨(pi,pb),by simp,hqp.symm⟩
     ·simp[hqp]at h
  --slots
  have slots:∀t∈namesOf ops o,∀i,i<ops.size→i≠j→wt ops es t i=true→Lst l i=decide (i<j):=fun t ht i hi hne hw=>by
   obtain⟨x,hx,hxd⟩:=hwtn i t hw;refine hcmpN i x hi hx hne (.inl ?_);unfold namesConf;rw[hxd];simp[ht]
  have blks:∀q,hasK e q=true→∀i,i<ops.size→i≠j→wk ops es q i=true→Lst l i=decide (i<j):=fun q hq i hi hne hw=>by
   obtain⟨a,ha,hs⟩:=hwkn i q hw;obtain⟨p,hp,rfl⟩:=hwin _ _ hs;refine hcmpK i a hi ha hne (.inl ?_);unfold conf;have:(a.wr.any fun p=>hasK e p.1)=true:=List.any_eq_true.2 ⟨p,hp,hq⟩
   simp[this]
  have hE:=hent j o e ho he
  have hE':Ent P ops.toList o (stD ops es σ0 (Lst l) ops.size) (N0+j) e:=by
   refine hE.congr (fun t ht=> ?_) fun q hq=> ?_
   ·rw[stD_lk,stD_lk]
    have hcg:top (fun i=>Lst l i&&wt ops es t i) ops.size=top (fun i=>decide (i<j)&&wt ops es t i) ops.size:=top_congr fun i hi=>by
     cases hw:wt ops es t i
     ·simp
     ·by_cases hne:i=j
      ·subst hne;simp[hjl]
      ·rw[slots t (by unfold namesOf;exact List.mem_append_right _ ht) i hi hne hw]
    rw[hcg,top_below (p:=fun i=>decide (i<j)&&wt ops es t i) (j:=j) (Nat.le_of_lt hjn) (fun i _ h=>by simp at h;exact h.1)]
    rw[top_congr (n:=j) (q:=fun i=>(fun _=>true) i&&wt ops es t i) fun i hi=>by simp[hi]]
   ·rw[stD_get,stD_get]
    have hcg:top (fun i=>Lst l i&&wk ops es q i) ops.size=top (fun i=>decide (i<j)&&wk ops es q i) ops.size:=top_congr fun i hi=>by
     cases hw:wk ops es q i
     ·simp
     ·by_cases hne:i=j
      ·subst hne;simp[hjl]
      ·rw[blks q (by unfold hasK;simp[hq]) i hi hne hw]
    rw[hcg,top_below (p:=fun i=>decide (i<j)&&wk ops es q i) (j:=j) (Nat.le_of_lt hjn) (fun i _ h=>by simp at h;exact h.1)]
    rw[top_congr (n:=j) (q:=fun i=>(fun _=>true) i&&wk ops es q i) fun i hi=>by simp[hi]]
  have hdj:dstIn σ0.nt o=true:=List.all_eq_true.1 hd o (by rw[Array.mem_toList_iff];exact Array.mem_of_getElem? ho)
  have hnid:¬E.U (N0+j):=fun h=>by
   rcases hU _ h with h1|⟨i,h1,h2⟩
   ·omega
   ·have:i=j:=by omega
    subst this;rw[hjl]at h1;cases h1
  have hl':(l.setIfInBounds j true).size=ops.size:=by simpa using hl
  have hset:∀i,Lst (l.setIfInBounds j true) i=(Lst l i||decide (i=j)):=fun i=>by
   unfold Lst;by_cases hij:i=j
   ·subst hij
    have:i<l.size:=by omega
    simp[this]
   ·simp[Array.getElem?_setIfInBounds_ne (Ne.symm hij),hij]
  have hrun:=Ent.run (Q:=Q) (ro:=ro) hE' (by rw[stD_nt];exact hdj) hr hnid (by rw[stD_next,hnext];omega) (next:=wpAnyIn (fen ro) 3 P .any ops Q fuel (l.setIfInBounds j true)) (fun E' W' act' hv' hr' hU'=>by
   refine ih (l.setIfInBounds j true) E' W' act' hl' ?_ ?_ (hv.trans hv') ?_ ?_
   ·have hlt:(List.range ops.size).countP (fun i=> !Lst (l.setIfInBounds j true) i)<(List.range ops.size).countP (fun i=> !Lst l i):=by
     have key:∀n,j<n→(List.range n).countP (fun i=> !Lst (l.setIfInBounds j true) i)<(List.range n).countP (fun i=> !Lst l i):=by
      intro n
      induction n with
      |zero=>intro h;omega
      |succ n ihn=>
       intro hjn';rw[List.range_succ,List.countP_append,List.countP_append];by_cases hne:j=n
       ·subst hne
        have hle:(List.range j).countP (fun i=> !Lst (l.setIfInBounds j true) i)≤(List.range j).countP (fun i=> !Lst l i):=List.countP_mono_left fun i _ h=>by
         rw[hset]at h;simp at h;simp[h.1]
        have hsj:Lst (l.setIfInBounds j true) j=true:=by rw[hset];simp
        simp only[List.countP_cons,List.countP_nil,hsj,hjl,Bool.not_true,Bool.not_false,Bool.false_eq_true,if_true,if_false];omega
       ·have:=ihn (by omega)
        have hn:Lst (l.setIfInBounds j true) n=Lst l n:=by rw[hset];simp[Ne.symm hne]
        simp only[List.countP_cons,List.countP_nil,hn];omega
     exact key _ hjn
    omega
   ·intro i x hx hi k hk
    rw[hset]at hi⊢;simp only[Bool.or_eq_true,decide_eq_true_eq]at hi⊢;rcases hi with hi|hi
    ·exact .inl (hc i x hx hi k hk)
    ·subst hi
     rw[hol]at hx;injection hx with hx
     subst hx;exact .inl (hpre k hk)
   ·refine hr'.ext (fun t=> ?_) (fun q=> ?_) (by rw[app_next,stD_next,stD_next]) (by rw[app_nt,stD_nt,stD_nt])
    ·rw[app_lk,stD_lk,stD_lk]
     by_cases hdt:o.dst=some t
     ·rw[if_pos hdt]
      have hwj:wt ops es t j=true:=by unfold wt;simp[ho,he,hdt]
      rw[top_some (j:=j) hjn (by simp[hset,hwj]) fun i hi h=> ?_]
      ·simp[slotOf,he]
      ·simp only[Bool.and_eq_true]at h
       by_cases hne:i=j
       ·omega
       ·have h1:=slots t (by unfold namesOf;rw[hdt];simp) i hi hne h.2
        have h2:=h.1;rw[hset,h1]at h2;simp[hne]at h2;omega
     ·rw[if_neg hdt]
      have hwj:wt ops es t j=false:=by
       cases hw:wt ops es t j
       ·rfl
       ·obtain⟨x,hx,hxd⟩:=hwtn j t hw
        rw[ho]at hx;injection hx with hx;subst hx
        exact absurd hxd hdt
      rw[top_congr fun i hi=> ?_]
      by_cases hne:i=j
      ·subst hne;simp[hwj]
      ·simp[hset,hne]
    ·rw[app_get,upd_wlook,stD_get,stD_get]
     cases hw:wlook e.wr q with
     |some b=>
      have hwj:wk ops es q j=true:=by unfold wk;simp[ho,he,hw]
      rw[top_some (j:=j) hjn (by simp[hset,hwj]) fun i hi h=> ?_]
      ·simp[blkOf,he,hw]
      ·simp only[Bool.and_eq_true]at h
       by_cases hne:i=j
       ·omega
       ·obtain⟨p,hp,hpq⟩:=hwin e.wr q (by rw[hw];rfl)
        have hk:hasK e q=true:=by
         unfold hasK;have:(e.wr.any fun p=>p.1==q)=true:=List.any_eq_true.2 ⟨p,hp,by simp[hpq]⟩
         simp[this]
        have h1:=blks q hk i hi hne h.2;have h2:=h.1;rw[hset,h1]at h2;simp[hne]at h2;omega
     |none=>
      have hwj:wk ops es q j=false:=by unfold wk;simp[ho,he,hw]
      simp only[Option.getD_none];rw[top_congr fun i hi=> ?_]
      by_cases hne:i=j
      ·subst hne;simp[hwj]
      ·simp[hset,hne]
   ·intro id hid
    rcases hU' id hid with h1|h1
    ·rcases hU id h1 with h2|⟨i,h2,h3⟩
     ·exact .inl h2
     ·exact .inr ⟨i,by rw[hset];simp[h2],h3⟩
    ·exact .inr ⟨j,by rw[hset];simp,h1⟩)
  unfold wpOpIn;simp only[ho];by_cases hw:Region.wanted o (yielded ops act.tmps)=true
  ·simp only[hw,if_true]at hrun⊢
   exact hrun
  ·simp only[hw]at hrun⊢
   exact⟨fun _ _=>trivial,hrun⟩
end
theorem statB_ok{ops:Array Oper}(h:statB ops=true):(∀(j:Nat) o,ops[j]? =some o→∀k∈onsOf o,k<j)∧
  ∀(i j:Nat) x y,i<j→ops[i]? =some x→ops[j]? =some y→namesConf ops x y=true→Reach ops.toList i j:=by
 unfold statB statGo at h;simp only[Bool.and_eq_true,List.all_eq_true,List.mem_range]at h;refine⟨fun j o ho k hk=> ?_,fun i j x y hij hx hy hc=> ?_⟩
 ·have h1:=h.1 j (Array.getElem?_eq_some_iff.1 ho).1
  rw[ho]at h1;simpa using List.all_eq_true.1 h1 k hk
 ·have h1:=h.2 j (Array.getElem?_eq_some_iff.1 hy).1 i hij
  rw[hx,hy]at h1;simp only[hc,Bool.not_true,Bool.false_or]at h1;exact tab_ok h1
theorem w_draw{P:Program}{σ σ':AS}{Q:Exit→AS→Prop}{id:Nat}{ops:Array Oper}{es:List Entry}(hm:P.follows .mixedOrders=true)(hs:statB ops=true)(hd:ops.toList.all (dstIn σ.nt)=true)
  (hr:DRun P ops.toList σ.H.next 0 ops.toList {σ with H:=⟨σ.H.next+ops.size,σ.H.get⟩} es σ') (hdyn:dynGo (tab ops.toList) 0 [] es=true) (h:Q .normal σ'):AW P (.region id ops true) σ Q:=fun ro E W act hro hrel=>by
 obtain⟨h1,h2⟩:=statB_ok hs;obtain⟨h3,h4,h5⟩:=hr.out (σ0:={σ with H:=⟨σ.H.next+ops.size,σ.H.get⟩}) [] rfl rfl (Nat.zero_le _) rfl
 simp only[List.nil_append]at h3 h4 h5;have hdy:=(dynGo_ok es 0 [] hdyn).2;simp only[Nat.zero_add]at hdy;refine wpIn_region_any hm ?_
 refine draw_any (N0:=σ.H.next) (σ0:={σ with H:=⟨σ.H.next+ops.size,σ.H.get⟩}) (es:=es) (E0:=E) (W0:=W) (A0:=act) h3 (fun j o e ho he=>h5 j o e (Nat.zero_le _) ho he) h1 h2 (fun i j a b hij ha hb hc=>tab_ok (hdy i j a b hij ha hb hc)) hd rfl
  (fun E' W' act' hv hr'=>⟨E',σ',hv,by rw[h4];exact hr',by rw[h4,stD_nt],h⟩) ops.size (Array.replicate ops.size false) E W.drew act (by simp) ?_ ?_ (Went.of (Evo.drew E W) rfl) ?_ ?_
 ·have:=List.countP_le_length (p:=fun i=> !Lst (Array.replicate ops.size false) i) (l:=List.range ops.size)
  simpa using this
 ·intro j o _ hj
  have:Lst (Array.replicate ops.size false) j=false:=by
   unfold Lst;by_cases hjn:j<ops.size<;>simp[hjn]
  rw[this]at hj;cases hj
 ·have hfalse:∀i,Lst (Array.replicate ops.size false) i=false:=fun i=>by
   unfold Lst;by_cases hin:i<ops.size<;>simp[hin]
  have heq:∀k,stD ops es {σ with H:=⟨σ.H.next+ops.size,σ.H.get⟩} (Lst (Array.replicate ops.size false)) k={σ with H:=⟨σ.H.next+ops.size,σ.H.get⟩}:=by
   intro k
   induction k with
   |zero=>rfl
   |succ k ih=>simp only[stD,hfalse,Bool.false_eq_true,if_false];exact ih
  rw[heq];exact⟨hrel.defers.mono (Evo.drew E W),hrel.size,fun t c a ha=>let ⟨v,h1,h2,h3⟩:=hrel.env t c a ha;⟨v,h1,fun hc=>(h2 hc).mono (Evo.drew E W),h3⟩,⟨fun id hid=>Nat.lt_of_lt_of_le (hrel.heap.next id hid) (Nat.le_add_right _ _),hrel.heap.core.drew⟩⟩
 ·exact fun id hid=> .inl (hrel.heap.next id hid)
end Go.AL
namespace Go.AL
open Go.RowKit
def entU:Option Res→Option Entry
 |some (a,wr,rd)=>some ⟨true,a,wr,rd⟩
 |none=>none
def entC(c:Bool):Option Res→Option Entry
 |some (a,[],rd)=>some ⟨c,a,[],rd⟩
 |_=>none
def entP(c b:Bool):Option (Bool×Bool)→Option Entry
 |some (p,q)=>some ⟨c,.c (.bool (cond b p q)),[],[]⟩
 |none=>none
def entPC(σ:AS)(c:Bool)(x y:Operand):Option Bool→Option Entry
 |some b=>entP c b (pairB (asB (σ.get (c&&b) x)) (asB (σ.get (c&& !b) y)))
 |none=>none
def entG(P:Program)(o:Oper)(σ:AS)(nid:Nat):Option Bool→Option Entry
 |some true=>match o.op with
  | .pick b x y=>entPC σ true x y (asB (σ.get true b))
  |_=>entC true (res P (σ.get true) σ.H.get nid o)
 |some false=>some ⟨false,.c (.bool false),[],[]⟩
 |none=>none
def stepD(P:Program)(ops:List Oper)(o:Oper)(σ:AS)(nid:Nat):Option Entry:=
 match o.op with
 | .call ⟨.value _,_,_⟩=>none
 |_=>match o.guard with
  |none=>match o.op with
   | .pick b x y=>entPC σ true x y (asB (σ.get true b))
   |_=>entU (res P (σ.get true) σ.H.get nid o)
  |some (j,want)=>entG P o σ nid (gcond (gval ops j σ.env) want)
theorem entPC_out{σ:AS}{c:Bool}{x y:Operand}{b:Option Bool}{e:Entry}(h:entPC σ c x y b=some e):∃b0 p q,b=some b0∧pairB (asB (σ.get (c&&b0) x)) (asB (σ.get (c&& !b0) y))=some (p,q)∧e=⟨c,.c (.bool (cond b0 p q)),[],[]⟩:=by
 unfold entPC at h;split at h
 ·rename_i b0
  unfold entP at h;split at h
  ·rename_i p q hpq
   injection h with h
   exact⟨b0,p,q,rfl,hpq,h.symm⟩
  ·cases h
 ·cases h
theorem stepD_ok{P:Program}{ops:List Oper}{o:Oper}{σ:AS}{nid:Nat}{e:Entry}(h:stepD P ops o σ nid=some e):Ent P ops o σ nid e:=by
 unfold stepD at h;split at h
 ·cases h
 ·rename_i hn1
  split at h
  ·rename_i hg
   split at h
   ·rename_i b x y hop
    obtain⟨b0,p,q,h1,h2,rfl⟩:=entPC_out h;exact .pick b x y b0 p q hop (by unfold gOK;rw[hg]) h1 h2 rfl rfl
   ·unfold entU at h
    split at h
    ·rename_i a wr rd hres
     injection h with h
     subst h;exact .res (by unfold gOK;rw[hg]) hres (.inr rfl)
    ·cases h
  ·rename_i j want hg
   unfold entG at h;split at h
   ·rename_i hc
    split at h
    ·rename_i b x y hop
     obtain⟨b0,p,q,h1,h2,rfl⟩:=entPC_out h;exact .pick b x y b0 p q hop (by unfold gOK;rw[hg];exact hc) h1 h2 rfl rfl
    ·unfold entC at h
     split at h
     ·rename_i a rd hres
      injection h with h
      subst h;exact .res (by unfold gOK;rw[hg];exact hc) hres (.inl rfl)
     ·cases h
   ·rename_i hc
    injection h with h
    subst h;exact .skip (by unfold gOK;rw[hg];exact hc) rfl rfl
   ·cases h
def consE(e:Entry)(p:List Entry×AS×Nat×List Oper):List Entry×AS×Nat×List Oper:=(e::p.1,p.2)
def runD(P:Program)(ops:List Oper)(N0:Nat):Nat→List Oper→AS→List Entry×AS×Nat×List Oper
 |i,[],σ=>([],σ,i,[])
 |i,o::r,σ=>runDK (runD P ops N0 (i+1) r) i o r σ (stepD P ops o σ (N0+i))
where
 runDK (f:AS→List Entry×AS×Nat×List Oper) (i:Nat) (o:Oper) (r:List Oper) (σ:AS):Option Entry→List Entry×AS×Nat×List Oper
  |some e=>consE e (f (σ.app o.dst e))
  |none=>([],σ,i,o::r)
theorem d_run{P:Program}{ops:List Oper}{N0:Nat}{es2:List Entry}{σ'':AS}:∀{l:List Oper} {i:Nat} {σ:AS} {p:List Entry×AS×Nat×List Oper},runD P ops N0 i l σ=p→DRun P ops N0 p.2.2.1 p.2.2.2 p.2.1 es2 σ''→DRun P ops N0 i l σ (p.1++es2) σ''
 |[],i,σ,p,hr,h=>by simp only[runD]at hr;subst hr;exact h
 |o::r,i,σ,p,hr,h=>by
  simp only[runD]at hr;unfold runD.runDK at hr;split at hr
  ·rename_i e he
   subst hr;exact .cons i o r σ e _ σ'' (stepD_ok he) (d_run rfl h)
  ·subst hr;exact h
theorem d_nil{P:Program}{ops:List Oper}{N0 i:Nat}{σ:AS}:DRun P ops N0 i [] σ [] σ:= .nil i σ
theorem d_callP{P:Program}{ops:List Oper}{N0 i:Nat}{o:Oper}{r:List Oper}{σ σ'':AS}{es:List Entry}{f:Operand}{as:Array Operand}{ts:Array TypeId}{n:FuncId}{args:List AV}{a:AV}(hop:o.op= .call ⟨.value f,as,ts⟩)(hg:o.guard=none)
  (hp:PCall P n args (·=a)) (hc:calleeA (σ.get true f) (getsA (σ.get true) as.toList)=some (n,args)) (hn:∀a∈args,NoId a) (h:DRun P ops N0 (i+1) r (σ.app o.dst ⟨true,a,[],[]⟩) es σ''):DRun P ops N0 i (o::r) σ (⟨true,a,[],[]⟩::es) σ'':=
 .cons i o r σ _ es σ'' (.call f as ts n args hop (by unfold gOK;rw[hg]) hc (fun _=>⟨hn,hp⟩) rfl) h
theorem d_callG{P:Program}{ops:List Oper}{N0 i:Nat}{o:Oper}{r:List Oper}{σ σ'':AS}{es:List Entry}{f:Operand}{as:Array Operand}{ts:Array TypeId}{n:FuncId}{args:List AV}{a:AV}{j:Nat}{want c:Bool}(hop:o.op= .call ⟨.value f,as,ts⟩)(hg:o.guard=some (j,want))
  (hw:gcond (gval ops j σ.env) want=some c) (hp:PCall P n args (·=a)) (hc:calleeA (σ.get c f) (getsA (σ.get c) as.toList)=some (n,args)) (hn:∀a∈args,NoId a) (h:DRun P ops N0 (i+1) r (σ.app o.dst ⟨c,a,[],[]⟩) es σ''):DRun P ops N0 i (o::r) σ (⟨c,a,[],[]⟩::es) σ'':=
 .cons i o r σ _ es σ'' (.call f as ts n args hop (by unfold gOK;rw[hg];exact hw) hc (fun _=>⟨hn,hp⟩) rfl) h
structure Holds(σ:AS)(env:List (Nat×Bool×AV))(H:Heap):Prop where
 env:∀t a,lk env t=some a→lk σ.env t=some a
 next:σ.H.next≤H.next
 get:∀id b,H.get id=some b→σ.H.get id=some b
theorem aw_less{P:Program}{σ:AS}{Q:Exit→AS→Prop}{c:Code}{env:List (Nat×Bool×AV)}{H:Heap}(hh:Holds σ env H)(h:AW P c ⟨env,H,σ.nt⟩ Q):AW P c σ Q:=fun ro E W act hro hr=>
 h ro E W act hro ⟨hr.defers,hr.size,fun t c a ha=>hr.env t c a (hh.env t _ ha),⟨fun id hid=>Nat.lt_of_lt_of_le (hr.heap.next id hid) hh.next,hr.heap.core.weaker fun id b hb=>⟨b,hh.get id b hb,Blk.le_refl b⟩⟩⟩
theorem w_loop{P:Program}{σ:AS}{Q:Exit→AS→Prop}{c:Code}(S:Nat→List (Nat×Bool×AV)→Heap→Prop)(n:Nat)(h0:∃env H,S n env H∧Holds σ env H)
  (round:∀n env H,S n env H→AW P c ⟨env,H,σ.nt⟩ (thenA (fun σ'=>∃m,m<n∧∃env H,S m env H∧Holds σ' env H) Q)):AW P (.loop c) σ Q:=by
 have key:AW P (.loop c) σ (fun e σ'=>σ'.nt=σ.nt→Q e σ'):=by
  refine aw_loop (fun n σ'=>σ'.nt=σ.nt∧∃env H,S n env H∧Holds σ' env H) n ⟨rfl,h0⟩ ?_
  rintro n σ' ⟨hnt,env,H,hS,hh⟩;have hr:=round n env H hS;rw[←hnt]at hr;intro ro E W act hro hrel;refine wpIn_mono (aw_less hh hr ro E W act hro hrel) fun e a w ⟨E',σ'',h1,h2,h3,h4⟩=>⟨E',σ'',h1,h2,h3,?_⟩
  cases e with
  |normal=>
   obtain⟨m,hm,h5⟩:=h4;exact⟨m,hm,h3.trans hnt,h5⟩
  |_=>exact fun _=>h4
 intro ro E W act hro hrel;exact wpIn_mono (key ro E W act hro hrel) fun e a w ⟨E',σ',h1,h2,h3,h4⟩=>⟨E',σ',h1,h2,h3,h4 h3⟩
theorem holds_nil{σ:AS}{H:Heap}(hn:σ.H.next≤H.next)(hg:∀id b,H.get id=some b→σ.H.get id=some b):Holds σ [] H:=⟨fun t a h=>by simp[lk]at h,hn,hg⟩
theorem holds_cons{σ:AS}{env:List (Nat×Bool×AV)}{H:Heap}{t:Nat}{a:Bool×AV}(h:lk σ.env t=some a)(hr:Holds σ env H):Holds σ ((t,a)::env) H:=
 ⟨fun t' a' h'=>by
   simp only[lk]at h';split at h'
   ·rename_i ht;subst ht;rw[←h'];exact h
   ·exact hr.env t' a' h',hr.next,hr.get⟩
attribute [go_sem] entU entC entP entPC entG stepD consE runD runD.runDK AS.app List.size_toArray List.contains_cons List.contains_nil List.any_cons List.any_nil hasK conf dynGo
end Go.AL
namespace Go.AL
open Go.RowKit
theorem stD_same{ops:Array Oper}{es:List Entry}{σ0:AS}{D D':Nat→Bool}:∀{k:Nat},(∀i,i<k→D i=D' i)→stD ops es σ0 D k=stD ops es σ0 D' k
 |0,_=>rfl
 |k+1,h=>by
  have h1:=stD_same (ops:=ops) (es:=es) (σ0:=σ0) (k:=k) fun i hi=>h i (by omega)
  simp only[stD,h k (by omega),h1]
section
variable {P : Program} {ops : Array Oper} {es : List Entry} {σ0 : AS} {N0 : Nat}
theorem draw_tail{E0:Env}{W0:World}{A0:Act}{ro:Option Nat}{Q:Exit→Act→World→Prop}{k0:Nat}(hk0:k0≤ops.size)(hlen:es.length=k0)(htail:∀j,k0≤j→j<ops.size→∀i,i<j→Reach ops.toList i j)(hent:∀(j:Nat) o e,ops[j]? =some o→es[j]? =some e→Ent P ops.toList o (stD ops es σ0 (fun _=>true) j) (N0+j) e)
  (hacy:∀(j:Nat) o,ops[j]? =some o→∀k∈onsOf o,k<j)
  (hnames:∀(i j:Nat) x y,i<j→ops[i]? =some x→ops[j]? =some y→namesConf ops x y=true→Reach ops.toList i j)
  (hconf:∀(i j:Nat) a b,i<j→es[i]? =some a→es[j]? =some b→conf a b=true→Reach ops.toList i j)
  (hd:ops.toList.all (dstIn σ0.nt)=true) (hnext:N0+k0≤σ0.H.next)
  (hQ:∀(fuel:Nat) (l:Array Bool) (E:Env) (W:World) (act:Act),l.size=ops.size→(List.range ops.size).countP (fun i=> !Lst l i)≤fuel→(∀i,Lst l i=decide (i<k0))→Went E0 W0 A0 E W act→Rel E W (stD ops es σ0 (fun _=>true) k0) act→wpAnyIn (fen ro) 3 P .any ops Q fuel l act W):
  ∀(fuel:Nat) (l:Array Bool) (E:Env) (W:World) (act:Act),l.size=ops.size→(List.range ops.size).countP (fun i=> !Lst l i)≤fuel→Closed ops.toList (Lst l)→(∀i,k0≤i→Lst l i=false)→Went E0 W0 A0 E W act→Rel E W (stD ops es σ0 (Lst l) k0) act→
   (∀id,E.U id→id<N0∨∃i,Lst l i=true∧id=N0+i)→wpAnyIn (fen ro) 3 P .any ops Q fuel l act W:=by
 --some of the first are not listed:one of them is ready
 have hsome:∀(l:Array Bool),l.size=ops.size→Closed ops.toList (Lst l)→∀i,i<k0→Lst l i=false→∃j,j<k0∧j∈Region.ready .any ops l:=by
  intro l hl hc i
  induction i using Nat.strongRecOn with
  |_ i ih=>
   intro hi hli;by_cases hall:∀k∈onsOf (ops[i]'(by omega)),Lst l k=true
   ·refine⟨i,hi,?_⟩
    rw[mem_ready]
    have hget:l.getD i true=false:=by
     have:i<l.size:=by omega
     simp[Lst,this]at hli;simp[this,hli]
    refine⟨hget,ops[i]'(by omega),Array.getElem?_eq_getElem (by omega),fun e he hb=> ?_⟩
    exact hall e.on (List.mem_map.2 ⟨e,List.mem_filter.2 ⟨by simpa using he,hb⟩,rfl⟩)
   ·have ⟨k,hk⟩:∃k,¬(k∈onsOf (ops[i]'(by omega))→Lst l k=true):=by
     by_cases h:∃k,¬(k∈onsOf (ops[i]'(by omega))→Lst l k=true)
     ·exact h
     ·exact absurd (fun k hk=>Classical.byContradiction fun hn=>h ⟨k,fun h2=>hn (h2 hk)⟩) hall
    have hk1:k∈onsOf (ops[i]'(by omega)):=Classical.byContradiction fun h=>hk fun h2=>absurd h2 h
    have hk2:Lst l k=false:=by
     cases h:Lst l k
     ·rfl
     ·exact absurd (fun _=>h) hk
    have hlt:=hacy i _ (Array.getElem?_eq_getElem (by omega)) k hk1
    exact ih k hlt (by omega) hk2
 intro fuel
 induction fuel with
 |zero=>
  intro l E W act hl hcount hc hlow hv hr hU;by_cases hall:∀i,i<k0→Lst l i=true
  ·have hex:∀i,Lst l i=decide (i<k0):=fun i=>by
    by_cases hi:i<k0
    ·simp[hi,hall i hi]
    ·simp[hi,hlow i (by omega)]
   refine hQ 0 l E W act hl hcount hex hv ?_;rw[show stD ops es σ0 (fun _=>true) k0=stD ops es σ0 (Lst l) k0 from stD_same fun i hi=>(hall i hi).symm]
   exact hr
  ·exfalso
   have ⟨i,hi,hli⟩:∃i,i<k0∧Lst l i=false:=by
    by_cases h:∃i,i<k0∧Lst l i=false
    ·exact h
    ·exact absurd (fun i hi=>by cases h2:Lst l i with|false=>exact absurd ⟨i,hi,h2⟩ h|true=>rfl) hall
   have h2:0<(List.range ops.size).countP (fun i=> !Lst l i):=List.countP_pos_iff.2 ⟨i,by simp;omega,by simp[hli]⟩
   omega
 |succ fuel ih=>
  intro l E W act hl hcount hc hlow hv hr hU;by_cases hall:∀i,i<k0→Lst l i=true
  ·have hex:∀i,Lst l i=decide (i<k0):=fun i=>by
    by_cases hi:i<k0
    ·simp[hi,hall i hi]
    ·simp[hi,hlow i (by omega)]
   refine hQ _ l E W act hl hcount hex hv ?_;rw[show stD ops es σ0 (fun _=>true) k0=stD ops es σ0 (Lst l) k0 from stD_same fun i hi=>(hall i hi).symm]
   exact hr
  have ⟨i0,hi0,hli0⟩:∃i,i<k0∧Lst l i=false:=by
   by_cases h:∃i,i<k0∧Lst l i=false
   ·exact h
   ·exact absurd (fun i hi=>by cases h2:Lst l i with|false=>exact absurd ⟨i,hi,h2⟩ h|true=>rfl) hall
  obtain⟨j0,hj0,hrd0⟩:=hsome l hl hc i0 hi0 hli0;refine⟨(fun hrd=>by rw[hrd]at hrd0;cases hrd0),fun j hj=> ?_⟩
  obtain⟨h0,o,ho,hafter⟩:=mem_ready.1 hj;have hjs:j<ops.size:=(Array.getElem?_eq_some_iff.1 ho).1
  have hjl:Lst l j=false:=by
   have:j<l.size:=by omega
   simp[this]at h0;simp[Lst,this,h0]
  have hol:ops.toList[j]? =some o:=by simpa using ho
  have hpre:∀k∈onsOf o,Lst l k=true:=fun k hk=>by
   obtain⟨e,he,rfl⟩:=List.mem_map.1 hk;obtain⟨he1,he2⟩:=List.mem_filter.1 he;exact hafter e (by simpa using he1) he2
  have hpreR:∀i,Reach ops.toList i j→Lst l i=true:=fun i h=>by
   cases h with
   |step h hi=>rw[hol]at h;injection h with h;subst h;exact hpre _ hi
   |trans h hk hr=>rw[hol]at h;injection h with h;subst h;exact hr.closed hc (hpre _ hk)
  have hpostR:∀i,Reach ops.toList j i→Lst l i=false:=fun i h=>by
   cases hli:Lst l i
   ·rfl
   ·have:=h.closed hc hli;rw[hjl]at this;cases this
  have hjn:j<k0:=by
   rcases Nat.lt_or_ge j k0 with h|h
   ·exact h
   ·have:=hpreR i0 (htail j h hjs i0 (by omega))
    rw[hli0]at this;cases this
  obtain⟨e,he⟩:∃e,es[j]? =some e:=⟨es[j]'(by omega),List.getElem?_eq_getElem (by omega)⟩
  --of two that touch one another,which is done
  have hcmp:∀i,i<ops.size→(∀x y,ops[i]? =some x→ops[j]? =some y→(i<j→Reach ops.toList i j)∧(j<i→Reach ops.toList j i))→i≠j→Lst l i=decide (i<j):=by
   intro i hi hcase hne;obtain⟨x,hx⟩:∃x,ops[i]? =some x:=⟨ops[i],Array.getElem?_eq_getElem hi⟩;obtain⟨h1,h2⟩:=hcase x o hx ho;rcases Nat.lt_or_gt_of_ne hne with h|h
   ·simp[h,hpreR i (h1 h)]
   ·have:¬i<j:=by omega
    simp[this,hpostR i (h2 h)]
  have hcmpN:∀i x,i<ops.size→ops[i]? =some x→i≠j→(namesConf ops x o=true∨namesConf ops o x=true)→Lst l i=decide (i<j):=fun i x hi hx hne hcn=>
   hcmp i hi (fun x' y' hx' hy'=>by
    rw[hx]at hx';injection hx' with hx';subst hx'
    rw[ho]at hy';injection hy' with hy';subst hy'
    have hsym:∀a b:Oper,namesConf ops a b=namesConf ops b a:=fun a b=>by unfold namesConf;rw[Bool.or_comm]
    have hb:namesConf ops x o=true:=hcn.elim id fun h=>by rw[hsym];exact h
    exact⟨fun h=>hnames i j x o h hx ho hb,fun h=>hnames j i o x h ho hx (by rw[hsym];exact hb)⟩) hne
  have hcmpK:∀i a,i<ops.size→es[i]? =some a→i≠j→(conf a e=true∨conf e a=true)→Lst l i=decide (i<j):=fun i a hi ha hne hcn=>
   hcmp i hi (fun x' y' hx' hy'=>by
    have hsym:∀a b:Entry,conf a b=conf b a:=fun a b=>by unfold conf;rw[Bool.or_comm]
    have hb:conf a e=true:=hcn.elim id fun h=>by rw[hsym];exact h
    exact⟨fun h=>hconf i j a e h ha he hb,fun h=>hconf j i e a h he ha (by rw[hsym];exact hb)⟩) hne
  have hwtn:∀i t,wt ops es t i=true→∃x,ops[i]? =some x∧x.dst=some t:=fun i t h=>by
   unfold wt at h;split at h
   ·rename_i x e' hx he';exact⟨x,hx,by simpa using h⟩
   ·cases h
  have hwkn:∀i q,wk ops es q i=true→∃a,es[i]? =some a∧(wlook a.wr q).isSome=true:=fun i q h=>by
   unfold wk at h;split at h
   ·rename_i x e' hx he';exact⟨e',he',h⟩
   ·cases h
  have hwin:∀(wr:List (Nat×Option Blk)) q,(wlook wr q).isSome=true→∃p∈wr,p.1=q:=by
   intro wr q
   induction wr with
   |nil=>intro h;simp[wlook]at h
   |cons p r ih=>
    intro h;obtain⟨pi,pb⟩:=p;simp only[wlook]at h;cases hw:wlook r q with
    |some x=>
     obtain⟨p',h1,h2⟩:=ih (by rw[hw];rfl)
     exact⟨p',by simp[h1],h2⟩
    |none=>
     simp only[hw]at h;by_cases hqp:q=pi
     ·exact⟨(pi,pb),by simp,hqp.symm⟩
     ·simp[hqp]at h
  --slots
  have slots:∀t∈namesOf ops o,∀i,i<ops.size→i≠j→wt ops es t i=true→Lst l i=decide (i<j):=fun t ht i hi hne hw=>by
   obtain⟨x,hx,hxd⟩:=hwtn i t hw;refine hcmpN i x hi hx hne (.inl ?_);unfold namesConf;rw[hxd];simp[ht]
  have blks:∀q,hasK e q=true→∀i,i<ops.size→i≠j→wk ops es q i=true→Lst l i=decide (i<j):=fun q hq i hi hne hw=>by
   obtain⟨a,ha,hs⟩:=hwkn i q hw;obtain⟨p,hp,rfl⟩:=hwin _ _ hs;refine hcmpK i a hi ha hne (.inl ?_);unfold conf;have:(a.wr.any fun p=>hasK e p.1)=true:=List.any_eq_true.2 ⟨p,hp,hq⟩
   simp[this]
  have hE:=hent j o e ho he
  have hE':Ent P ops.toList o (stD ops es σ0 (Lst l) k0) (N0+j) e:=by
   refine hE.congr (fun t ht=> ?_) fun q hq=> ?_
   ·rw[stD_lk,stD_lk]
    have hcg:top (fun i=>Lst l i&&wt ops es t i) k0=top (fun i=>decide (i<j)&&wt ops es t i) k0:=top_congr fun i hi=>by
     cases hw:wt ops es t i
     ·simp
     ·by_cases hne:i=j
      ·subst hne;simp[hjl]
      ·rw[slots t (by unfold namesOf;exact List.mem_append_right _ ht) i (by omega) hne hw]
    rw[hcg,top_below (p:=fun i=>decide (i<j)&&wt ops es t i) (j:=j) (Nat.le_of_lt hjn) (fun i _ h=>by simp at h;exact h.1)]
    rw[top_congr (n:=j) (q:=fun i=>(fun _=>true) i&&wt ops es t i) fun i hi=>by simp[hi]]
   ·rw[stD_get,stD_get]
    have hcg:top (fun i=>Lst l i&&wk ops es q i) k0=top (fun i=>decide (i<j)&&wk ops es q i) k0:=top_congr fun i hi=>by
     cases hw:wk ops es q i
     ·simp
     ·by_cases hne:i=j
      ·subst hne;simp[hjl]
      ·rw[blks q (by unfold hasK;simp[hq]) i (by omega) hne hw]
    rw[hcg,top_below (p:=fun i=>decide (i<j)&&wk ops es q i) (j:=j) (Nat.le_of_lt hjn) (fun i _ h=>by simp at h;exact h.1)]
    rw[top_congr (n:=j) (q:=fun i=>(fun _=>true) i&&wk ops es q i) fun i hi=>by simp[hi]]
  have hdj:dstIn σ0.nt o=true:=List.all_eq_true.1 hd o (by rw[Array.mem_toList_iff];exact Array.mem_of_getElem? ho)
  have hnid:¬E.U (N0+j):=fun h=>by
   rcases hU _ h with h1|⟨i,h1,h2⟩
   ·omega
   ·have:i=j:=by omega
    subst this;rw[hjl]at h1;cases h1
  have hl':(l.setIfInBounds j true).size=ops.size:=by simpa using hl
  have hset:∀i,Lst (l.setIfInBounds j true) i=(Lst l i||decide (i=j)):=fun i=>by
   unfold Lst;by_cases hij:i=j
   ·subst hij
    have:i<l.size:=by omega
    simp[this]
   ·simp[Array.getElem?_setIfInBounds_ne (Ne.symm hij),hij]
  have hrun:=Ent.run (Q:=Q) (ro:=ro) hE' (by rw[stD_nt];exact hdj) hr hnid (by rw[stD_next];omega) (next:=wpAnyIn (fen ro) 3 P .any ops Q fuel (l.setIfInBounds j true)) (fun E' W' act' hv' hr' hU'=>by
   refine ih (l.setIfInBounds j true) E' W' act' hl' ?_ ?_ (fun i hi=>by rw[hset,hlow i hi];simp;omega) (hv.trans hv') ?_ ?_
   ·have hlt:(List.range ops.size).countP (fun i=> !Lst (l.setIfInBounds j true) i)<(List.range ops.size).countP (fun i=> !Lst l i):=by
     have key:∀n,j<n→(List.range n).countP (fun i=> !Lst (l.setIfInBounds j true) i)<(List.range n).countP (fun i=> !Lst l i):=by
      intro n
      induction n with
      |zero=>intro h;omega
      |succ n ihn=>
       intro hjn';rw[List.range_succ,List.countP_append,List.countP_append];by_cases hne:j=n
       ·subst hne
        have hle:(List.range j).countP (fun i=> !Lst (l.setIfInBounds j true) i)≤(List.range j).countP (fun i=> !Lst l i):=List.countP_mono_left fun i _ h=>by
         rw[hset]at h;simp at h;simp[h.1]
        have hsj:Lst (l.setIfInBounds j true) j=true:=by rw[hset];simp
        simp only[List.countP_cons,List.countP_nil,hsj,hjl,Bool.not_true,Bool.not_false,Bool.false_eq_true,if_true,if_false];omega
       ·have:=ihn (by omega)
        have hn:Lst (l.setIfInBounds j true) n=Lst l n:=by rw[hset];simp[Ne.symm hne]
        simp only[List.countP_cons,List.countP_nil,hn];omega
     exact key _ hjs
    omega
   ·intro i x hx hi k hk
    rw[hset]at hi⊢;simp only[Bool.or_eq_true,decide_eq_true_eq]at hi⊢;rcases hi with hi|hi
    ·exact .inl (hc i x hx hi k hk)
    ·subst hi
     rw[hol]at hx;injection hx with hx
     subst hx;exact .inl (hpre k hk)
   ·refine hr'.ext (fun t=> ?_) (fun q=> ?_) (by rw[app_next,stD_next,stD_next]) (by rw[app_nt,stD_nt,stD_nt])
    ·rw[app_lk,stD_lk,stD_lk]
     by_cases hdt:o.dst=some t
     ·rw[if_pos hdt]
      have hwj:wt ops es t j=true:=by unfold wt;simp[ho,he,hdt]
      rw[top_some (j:=j) hjn (by simp[hset,hwj]) fun i hi h=> ?_]
      ·simp[slotOf,he]
      ·simp only[Bool.and_eq_true]at h
       by_cases hne:i=j
       ·omega
       ·have h1:=slots t (by unfold namesOf;rw[hdt];simp) i (by omega) hne h.2
        have h2:=h.1;rw[hset,h1]at h2;simp[hne]at h2;omega
     ·rw[if_neg hdt]
      have hwj:wt ops es t j=false:=by
       cases hw:wt ops es t j
       ·rfl
       ·obtain⟨x,hx,hxd⟩:=hwtn j t hw
        rw[ho]at hx;injection hx with hx;subst hx
        exact absurd hxd hdt
      rw[top_congr fun i hi=> ?_]
      by_cases hne:i=j
      ·subst hne;simp[hwj]
      ·simp[hset,hne]
    ·rw[app_get,upd_wlook,stD_get,stD_get]
     cases hw:wlook e.wr q with
     |some b=>
      have hwj:wk ops es q j=true:=by unfold wk;simp[ho,he,hw]
      rw[top_some (j:=j) hjn (by simp[hset,hwj]) fun i hi h=> ?_]
      ·simp[blkOf,he,hw]
      ·simp only[Bool.and_eq_true]at h
       by_cases hne:i=j
       ·omega
       ·obtain⟨p,hp,hpq⟩:=hwin e.wr q (by rw[hw];rfl)
        have hk:hasK e q=true:=by
         unfold hasK;have:(e.wr.any fun p=>p.1==q)=true:=List.any_eq_true.2 ⟨p,hp,by simp[hpq]⟩
         simp[this]
        have h1:=blks q hk i (by omega) hne h.2
        have h2:=h.1;rw[hset,h1]at h2;simp[hne]at h2;omega
     |none=>
      have hwj:wk ops es q j=false:=by unfold wk;simp[ho,he,hw]
      simp only[Option.getD_none];rw[top_congr fun i hi=> ?_]
      by_cases hne:i=j
      ·subst hne;simp[hwj]
      ·simp[hset,hne]
   ·intro id hid
    rcases hU' id hid with h1|h1
    ·rcases hU id h1 with h2|⟨i,h2,h3⟩
     ·exact .inl h2
     ·exact .inr ⟨i,by rw[hset];simp[h2],h3⟩
    ·exact .inr ⟨j,by rw[hset];simp,h1⟩)
  unfold wpOpIn;simp only[ho];by_cases hw:Region.wanted o (yielded ops act.tmps)=true
  ·simp only[hw,if_true]at hrun⊢
   exact hrun
  ·simp only[hw]at hrun⊢
   exact⟨fun _ _=>trivial,hrun⟩
end
theorem DRun.outT{P:Program}{ops:Array Oper}{N0 k0:Nat}{σ0:AS}(hk:k0≤ops.size){i:Nat}{r:List Oper}{σ σ':AS}{es:List Entry}(h:DRun P ops.toList N0 i r σ es σ'):
  ∀pre:List Entry,pre.length=i→(ops.toList.take k0).drop i=r→i≤k0→σ=stD ops (pre++es) σ0 (fun _=>true) i→
   (pre++es).length=k0∧σ'=stD ops (pre++es) σ0 (fun _=>true) k0∧
   ∀(j:Nat) o e,i≤j→ops[j]? =some o→(pre++es)[j]? =some e→Ent P ops.toList o (stD ops (pre++es) σ0 (fun _=>true) j) (N0+j) e:=by
 induction h with
 |nil i σ=>
  intro pre hp hd hi hσ
  have hlen:k0=i:=by
   have:=congrArg List.length hd;simp at this;omega
  refine⟨by simp;omega,by rw[hlen];exact hσ,fun j o e hj ho he=> ?_⟩
  have:=(List.getElem?_eq_some_iff.1 he).1;simp at this;omega
 |cons i o r σ e es σ' he _ ih=>
  intro pre hp hd hi hσ
  have ho2:(ops.toList.take k0)[i]? =some o:=by
   have:=List.getElem?_drop (xs:=ops.toList.take k0) (i:=i) (j:=0);rw[hd]at this;simpa using this.symm
  have hik:i<k0:=by
   have:=(List.getElem?_eq_some_iff.1 ho2).1;simp at this;omega
  have ho:ops[i]? =some o:=by
   rw[List.getElem?_take,if_pos hik]at ho2;simpa using ho2
  have hlt:i<ops.size:=(Array.getElem?_eq_some_iff.1 ho).1;have hpe:pre++e::es=(pre++[e])++es:=by simp
  have hge:(pre++e::es)[i]? =some e:=by rw[List.getElem?_append_right (by omega)];simp[hp]
  have hst:σ.app o.dst e=stD ops ((pre++[e])++es) σ0 (fun _=>true) (i+1):=by
   simp only[stD,if_true];rw[←hpe];simp only[ho,hge];rw[←hσ]
  obtain⟨h1,h2,h3⟩:=ih (pre++[e]) (by simp[hp]) (by rw[←List.drop_drop,hd];rfl) (by omega) hst
  refine⟨by rw[hpe];exact h1,by rw[hpe];exact h2,fun j o' e' hj ho' he'=> ?_⟩
  by_cases hji:j=i
  ·subst hji
   rw[ho]at ho';injection ho' with ho'
   subst ho';rw[hge]at he';injection he' with he'
   subst he';rw[←hσ];exact he
  ·rw[hpe]at he'⊢
   exact h3 j o' e' (by omega) ho' he'
section
variable {P : Program} {ops : Array Oper} {N0 : Nat}
end
def tailB(ops:List Oper)(k:Nat):Bool:=decide (k≤ops.length)&&(List.range ops.length).all fun j=>decide (j<k)||(List.range j).all fun i=>((tab ops).getD j 0).testBit i
theorem tailB_ok{ops:Array Oper}{k:Nat}(h:tailB ops.toList k=true):k≤ops.size∧∀j,k≤j→j<ops.size→∀i,i<j→Reach ops.toList i j:=by
 unfold tailB at h;simp only[Bool.and_eq_true,decide_eq_true_eq,List.all_eq_true,List.mem_range,Bool.or_eq_true]at h;refine⟨by simpa using h.1,fun j hj hlt i hi=> ?_⟩
 rcases h.2 j (by simpa using hlt)with h2|h2
 ·omega
 ·exact tab_ok (h2 i hi)
end Go.AL
