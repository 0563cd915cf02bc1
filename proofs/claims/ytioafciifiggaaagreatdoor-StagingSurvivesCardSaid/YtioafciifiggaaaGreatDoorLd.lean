/- Staging. No condition. -/
import Derived.Test.YtioafciifiggaaaGreatDoorL0
import Derived.Test.YtioafciifiggaaaGreatDoorLb
import Derived.OrdersIn
set_option linter.all false
namespace Go.AL
open Go.RowKit
def plainO(σ:AS)(dst:Option Tmp):Option kJ->Option AS
 |some (a,wr,_)=>some (({σ with H:=σ.H.app wr}:AS).put dst true a)
 |none=>none
def Qg(σ:AS)(dst:Option Tmp)(c:Bool):Option AV->Option AS
 |some a=>some (σ.put dst c a)
 |none=>none
def Y1(σ:AS)(c b:Bool)(dst:Option Tmp):Option (Bool×Bool)->Option AS
 |some (p,q)=>some (σ.put dst c (.c (.bool (cond b p q))))
 |none=>none
def Qh(σ:AS)(x y:Operand)(dst:Option Tmp):Option Bool->Option AS
 |some b=>Y1 σ true b dst (B5 (kU (σ.get b x)) (kU (σ.get (!b) y)))
 |none=>none
def Qi(σ:AS)(c:Bool)(x y:Operand)(dst:Option Tmp):Option Bool->Option AS
 |some b=>Y1 σ c b dst (B5 (kU (σ.get (c&&b) x)) (kU (σ.get (c&& !b) y)))
 |none=>none
def stepG(P:Program)(o:Oper)(σ:AS):Option Bool->Option AS
 |some c=>match o.op with
  | .pick b x y=>Qi σ c x y o.dst (kU (σ.get c b))
  |_=>Qg σ o.dst c (if parts o.op=true then none else MX (res P (σ.get c) σ.H.get σ.H.next o))
 |none=>none
def RT(P:Program)(ops:List Oper)(o:Oper)(σ:AS):Option AS:=
 match o.op with
 | .call ⟨.value _,_,_⟩=>none
 |_=>match o.guard with
  |none=>match o.op with
   | .pick b x y=>Qh σ x y o.dst (kU (σ.get true b))
   |_=>plainO σ o.dst (res P (σ.get true) σ.H.get σ.H.next o)
  |some (j,want)=>stepG P o σ (qL (pT ops j σ.env) want)
theorem cd5{P:Program}{ops:Array Oper}{o:Oper}{σ aK:AS}{K:AS->Prop}(h:RT P ops.toList o σ=some aK)(hk:K aK):oR P true ops o σ K:=by
 unfold RT at h;unfold oR;split at h
 ·cases h
 ·rename_i sI
  split at h
  ·rename_i hg
   simp only[hg];unfold rG;split at h
   ·rename_i b x y aO
    simp only[aO];unfold Qh at h;split at h
    ·rename_i b' hb
     unfold Y1 at h;split at h
     ·rename_i p q pR
      injection h with h
      subst h;rw[hb,yD];simp only[hold]at*;rw[pR];exact hk
     ·cases h
    ·cases h
   ·rename_i oP
    unfold plainO at h;split at h
    ·rename_i a wr rd mP
     injection h with h
     subst h;split
     ·rename_i f as ts aO;exact absurd aO (sI _ _ _)
     ·rename_i b x y aO;exact absurd aO (oP _ _ _)
     ·rename_i x aO;rw[av4 aO]at mP;cases mP
     ·rw[mP];exact hk
    ·cases h
  ·rename_i j want hg
   simp only[hg];unfold stepG at h;split at h
   ·rename_i c hc
    rw[hc,yD];simp only[hold];refine .inr ?_;unfold RE;split at h
    ·rename_i b x y aO
     simp only[aO];unfold Qi at h;split at h
     ·rename_i b' hb
      unfold Y1 at h;split at h
      ·rename_i p q pR
       injection h with h
       subst h;rw[hb];simp only[hold,zI]at*;rw[pR];exact hk
      ·cases h
     ·cases h
    ·rename_i oP
     unfold Qg at h;split at h
     ·rename_i a mP
      simp only[bC]at h;subst h;split
      ·rename_i f as ts aO;exact absurd aO (sI _ _ _)
      ·rename_i b x y aO;exact absurd aO (oP _ _ _)
      ·simp only[hold,mP,zI];exact hk
     ·cases h
   ·cases h
def run(P:Program)(ops:List Oper):List Oper->AS->AS×List Oper
 |[],σ=>(σ,[])
 |o::r,σ=>runK (run P ops r) (RT P ops o σ) (σ,o::r)
where
 runK (f:AS->AS×List Oper):Option AS->AS×List Oper->AS×List Oper
  |some aK,_=>f aK
  |none,p=>p
theorem pI{P:Program}{ops:Array Oper}{K:AS->Prop}:∀(l:List Oper) (σ:AS) {p:AS×List Oper},run P ops.toList l σ=p->b9 P true ops p.2 p.1 K->b9 P true ops l σ K
 |[],σ,p,h,hk=>by simp only[run]at h;subst h;exact hk
 |o::r,σ,p,h,hk=>by
  simp only[run]at h;unfold run.runK at h;split at h
  ·rename_i aK hs
   exact cd5 hs (pI r aK h hk)
  ·subst h;exact hk
section
variable {P : Program} {σ : AS} {Q : Exit -> AS -> Prop}
theorem ay8{id:Nat}{ops:Array Oper}{p:AS×List Oper}(hd:ops.toList.all (fY σ.nt)=true)(hr:run P ops.toList ops.toList σ=p)(h:b9 P true ops p.2 p.1 (Q .normal)):AW P (.region id ops false) σ Q:=
 bX4 (pI _ _ hr h) hd
theorem cd6{c:Operand}{x y:Code}{b:Bool}(hc:kU (σ.get true c)=some b)(ht:b=true->AW P x σ Q)(hf:b=false->AW P y σ Q):AW P (.cond c x y) σ Q:=Pw (CI hc) ht hf
theorem tF{ops:Array Oper}{K:AS->Prop}(h:K σ):b9 P true ops [] σ K:=h
theorem gT{next:AS->Prop}(h:next σ):dR next Q .normal σ:=h
theorem RU{next:AS->Prop}(h:Q .ret σ):dR next Q .ret σ:=h
theorem RX{next:AS->Prop}{id:Nat}(h:Q (.exit id) σ):dR next Q (.exit id) σ:=h
theorem RY{id:Nat}(h:Q .normal σ):eH id Q .normal σ:=h
theorem RZ{id:Nat}(h:Q .ret σ):eH id Q .ret σ:=h
theorem S3{id:Nat}(h:Q .normal σ):eH id Q (.exit id) σ:=by simp only[eH,if_true];exact h
theorem S4{id aM:Nat}(aJ:aM≠id)(h:Q (.exit aM) σ):eH id Q (.exit aM) σ:=by simp only[eH,aJ,if_false];exact h
theorem cd7{rs:List ResultVar}{Q:AV->Heap->Prop}{a:AV}(ho:jY P σ rs=some a)(h:Q a σ.H):cH P rs Q .ret σ:=by show p9 (jY P σ rs) _;rw[ho];exact h
theorem cd8{rs:List ResultVar}{Q:AV->Heap->Prop}{a:AV}(ho:jY P σ rs=some a)(h:Q a σ.H):cH P rs Q .normal σ:=by show p9 (jY P σ rs) _;rw[ho];exact h
theorem N7{α:Type}{f:α->Prop}{t:Tag f}{x:α}(h:f x):hold f t x:=h
theorem bR{α β:Type}{f:α->β->Prop}{t:Tag f}{x:α}{y:β}(h:f x y):hold f t x y:=h
theorem cd9{ops:Array Oper}{o:Oper}{rest:List Oper}{K:AS->Prop}{f:Operand}{as:Array Operand}{ts:Array TypeId}{n:FuncId}{args:List AV}{r:AV}{p:AS×List Oper}(aO:o.op= .call ⟨.value f,as,ts⟩)(hg:o.guard=none)
  (hp:eU P n args (·=r)) (hc:fZ (σ.get true f) (dZ (σ.get true) as.toList)=some (n,args)) (hn:∀a∈args,bK a) (hr:run P ops.toList rest (σ.put o.dst true r)=p) (h:b9 P true ops p.2 p.1 K):b9 P true ops (o::rest) σ K:=by
 show oR P true ops o σ _
 unfold oR;simp only[hg];unfold rG;simp only[aO];refine .inl ?_;rw[hc,yD];exact fU.pure hp hn fun r' _ he=>by subst he;exact pI _ _ hr h
theorem ce0{ops:Array Oper}{o:Oper}{rest:List Oper}{K:AS->Prop}{f:Operand}{as:Array Operand}{ts:Array TypeId}{n:FuncId}{args:List AV}{r:AV}{p:AS×List Oper}{j:Nat}{want c:Bool}(aO:o.op= .call ⟨.value f,as,ts⟩)(hg:o.guard=some (j,want))
  (hw:qL (pT ops.toList j σ.env) want=some c) (hp:eU P n args (·=r)) (hc:fZ (σ.get c f) (dZ (σ.get c) as.toList)=some (n,args)) (hn:∀a∈args,bK a) (hr:run P ops.toList rest (σ.put o.dst c r)=p) (h:b9 P true ops p.2 p.1 K):b9 P true ops (o::rest) σ K:=by
 show oR P true ops o σ _
 unfold oR;simp only[hg];rw[hw,yD];simp only[hold];refine .inr ?_;unfold RE;simp only[aO];rw[hc];exact⟨r,fun _=>⟨hn,hp⟩,pI _ _ hr h⟩
end
theorem ce1(a:Bool):AY a a=true:=by cases a<;>rfl
theorem ce2(a:Bool):AY a true=true:=by cases a<;>rfl
theorem ce3(a:Bool):AY true a=a:=by cases a<;>rfl
theorem ce4(a:Bool):AY false a=true:=by cases a<;>rfl
theorem ce5(a b c:Bool):AY (a&&b) c=(AY a c||AY b c):=by cases a<;>cases b<;>cases c<;>rfl
theorem ce6(a b c:Bool):AY a (b&&c)=(AY a b&&AY a c):=by cases a<;>cases b<;>cases c<;>rfl
theorem ce7(b x:Bool):cond b x false=(b&&x):=by cases b<;>rfl
theorem ce8(b x:Bool):cond b true x=(b||x):=by cases b<;>rfl
attribute [go_sem] RT plainO Qg Y1 Qh Qi stepG run run.runK
attribute [go_sem] ce7 ce8 ce1 ce2 ce3 ce4 ce5 ce6 Ee kU fZ B5 MX qL parts Bool.true_or Bool.or_true Tt Bool.or_false O3 Ti cond_true cond_false Bool.not_not
attribute [go_sem] pT AS.get AS.put lk res Ov Ox Oy Oz QT Ec Pb Pc Pd Pe Pf Pg QU QV QW Ph QX QY GK Ow X8 FK Option.isNone_some Option.isNone_none R6 XB R7 R8 Pj Ed dZ CD HK chunk deref rowsOf X5 tT MI Dn MG Dm CA AV.cells AV.one x8 bJ2 bJ3 Ul xI JI Heap.app mB iW Ek N1 jY HS sA Em o0 CF fY Value.oneCell' oU KH Z1 Option.bind_none gJ tK dK fJ nE vE List.getElem?_nil G4 xE NZ CO I4 List.all_nil List.isEmpty_cons List.isEmpty_nil pW yI mD Gc Ge if_true if_false true_and and_true and_self decide_true decide_false Tj TO TI Fw Bool.and_self fQ eV fN fC ne_eq not_false_eq_true not_true_eq_false mG cG jF or_false forall_eq_or_imp forall_eq I6 List.replicate_zero Z2 List.flatten_nil Ga true_imp_iff forall_const
end Go.AL
namespace Go.AL
open Go.RowKit
theorem ce9{G G':Nat->Option aI}{a:AV}{row:List AV}{o:Nat}{rd:List Nat}(h:deref G a=some (row,o,rd))(hG:∀id∈rd,G' id=G id):deref G' a=some (row,o,rd):=by
 unfold deref at h⊢;split at h
 ·rename_i id i o'
  split at h
  ·rename_i e s rows w ap bU
   split at h
   ·rename_i fP bH
    simp only[bC,cD]at h;obtain⟨rfl,rfl,rfl⟩:=h;rw[hG id (by simp),bU]
    simp only[bH]
   ·cases h
  ·cases h
 ·exact h
 ·cases h
theorem S5{G G':Nat->Option aI}{a:AV}{rows:List (List AV)}{rd:List Nat}(h:rowsOf G a=some (rows,rd))(hG:∀id∈rd,G' id=G id):rowsOf G' a=some (rows,rd):=by
 unfold rowsOf at h⊢;split at h
 ·exact h
 ·exact h
 ·rename_i id off len
  split at h
  ·rename_i e s fH w ap bU
   split at h
   ·rename_i hle
    simp only[bC,cD]at h;obtain⟨rfl,rfl⟩:=h;rw[hG id (by simp),bU]
    simp only[hle,if_true]
   ·cases h
  ·cases h
 ·rename_i id i o len
  split at h
  ·rename_i e s fH w ap bU
   split at h
   ·rename_i row bH
    split at h
    ·rename_i hle
     simp only[bC,cD]at h;obtain⟨rfl,rfl⟩:=h;rw[hG id (by simp),bU]
     simp only[bH,hle,if_true]
    ·cases h
   ·cases h
  ·cases h
 ·cases h
theorem E8{g g':Operand->Option AV}:∀(xs:List Operand),(∀x∈xs,g' x=g x)->dZ g' xs=dZ g xs
 |[],_=>rfl
 |x::r,h=>by simp only[dZ,h x (by simp),E8 r fun y hy=>h y (by simp[hy])]
theorem Qj{g g':Operand->Option AV}:∀(ps:List (Nat×Operand)),(∀p∈ps,g' p.2=g p.2)->CD g' ps=CD g ps
 |[],_=>rfl
 |(i,x)::r,h=>by simp only[CD,h (i,x) (by simp),Qj r fun y hy=>h y (by simp[hy])]
theorem Y2{g g':Operand->Option AV}{d:Int}{o:Option Operand}(h:∀x,o=some x->g' x=g x):iW g' d o=iW g d o:=by
 cases o with
 |none=>rfl
 |some x=>simp only[iW,h x rfl]
section
variable {P : Program} {G G' : Nat -> Option aI} {aF : Nat} {a : AV} {wr : List (Nat × Option aI)} {rd : List Nat}
theorem cf0{t:TypeId}{x:Option AV}(h:QU P G t x=some (a,wr,rd))(hG:∀id∈rd,G' id=G id):QU P G' t x=some (a,wr,rd):=by
 unfold QU at h⊢;split at h
 ·split at h
  ·rename_i row o AU hd
   obtain⟨d,h1,h2⟩:=map_some h;simp only[cD]at h2;obtain⟨rfl,rfl,rfl⟩:=h2;rw[ce9 hd hG];simp only[h1,oU]
  ·cases h
 ·cases h
theorem cf1{t:TypeId}{x y:Option AV}(h:QV P G t x y=some (a,wr,rd))(hG:∀id∈rd,G' id=G id):QV P G' t x y=some (a,wr,rd):=by
 unfold QV at h⊢;split at h
 ·rename_i id i o a'
  split at h
  ·rename_i e s rows ap hg
   split at h
   ·rename_i row k hr hk
    split at h
    ·rename_i hc
     simp only[bC,cD]at h;obtain⟨rfl,rfl,rfl⟩:=h;rw[hG id (by simp),hg]
     simp only[hr,hk,hc,and_self,if_true]
    ·cases h
   ·cases h
  ·cases h
 ·cases h
theorem cf2{t:TypeId}{x y:Option AV}(h:QW P G t x y=some (a,wr,rd))(hG:∀id∈rd,G' id=G id):QW P G' t x y=some (a,wr,rd):=by
 unfold QW at h⊢;split at h
 ·rename_i id off len ik i
  split at h
  ·rename_i e k e' k' rows w ap ht hg
   split at h
   ·rename_i hc
    simp only[bC,cD]at h;obtain⟨rfl,rfl,rfl⟩:=h;rw[hG id (by simp),hg,ht]
    simp only[hc,and_self,if_true]
   ·cases h
  ·cases h
 ·exact h
 ·exact h
 ·exact h
 ·cases h
theorem cf3{t:TypeId}{l l' h0 HN:Nat->Option Int}{x:Option AV}(hl:l'=l)(hh:HN=h0)(h:QX P G t l h0 x=some (a,wr,rd))(hG:∀id∈rd,G' id=G id):QX P G' t l' HN x=some (a,wr,rd):=by
 subst hl;subst hh;unfold QX at h⊢;split at h
 ·exact h
 ·exact h
 ·rename_i id off len
  split at h
  ·rename_i e k e' k' rows w ap l hh ht hg hl u5
   split at h
   ·rename_i hc
    simp only[bC,cD]at h;obtain⟨rfl,rfl,rfl⟩:=h;rw[hG id (by simp),hg,ht,hl,u5]
    simp only[hc,and_self,if_true]
   ·cases h
  ·cases h
 ·rename_i id i o
  split at h
  ·rename_i n e e' k' rows w ap ht hg
   split at h
   ·rename_i row l hh bH hl u5
    split at h
    ·rename_i hc
     simp only[bC,cD]at h;obtain⟨rfl,rfl,rfl⟩:=h;rw[hG id (by simp),hg,ht]
     simp only[bH,hl,u5];rw[if_pos hc]
    ·cases h
   ·cases h
  ·cases h
 ·exact h
 ·cases h
theorem cf4{t:TypeId}{l l' h0 HN m m':Nat->Option Int}{x:Option AV}(hl:l'=l)(hh:HN=h0)(hm:m'=m)(h:QY P G t l h0 m x=some (a,wr,rd))(hG:∀id∈rd,G' id=G id):QY P G' t l' HN m' x=some (a,wr,rd):=by
 subst hl;subst hh;subst hm;unfold QY at h⊢;split at h
 ·exact h
 ·rename_i id off len
  split at h
  ·rename_i e k e' k' rows w ap l hh m ht hg hl u5 hm
   split at h
   ·rename_i hc
    simp only[bC,cD]at h;obtain⟨rfl,rfl,rfl⟩:=h;rw[hG id (by simp),hg,ht,hl,u5,hm]
    simp only[];rw[if_pos hc]
   ·cases h
  ·cases h
 ·cases h
theorem cf5{t:TypeId}{x y:Option AV}(h:R8 P G t x y=some (a,wr,rd))(hG:∀id∈rd,G' id=G id):R8 P G' t x y=some (a,wr,rd):=by
 unfold R8 at h⊢;split at h
 ·rename_i id off len b
  split at h
  ·rename_i e k rows ap bA AU e' k' hg hb ht
   split at h
   ·rename_i hc
    simp only[bC,cD]at h;obtain⟨rfl,rfl,rfl⟩:=h;rw[hG id (by simp),hg,S5 hb (fun q hq=>hG q (by simp[hq])),ht]
    simp only[];rw[if_pos hc]
   ·cases h
  ·cases h
 ·rename_i id i o len b
  split at h
  ·rename_i e s rows ap bA AU e' hg hb ht
   split at h
   ·rename_i row bH
    split at h
    ·rename_i hc
     simp only[bC,cD]at h;obtain⟨rfl,rfl,rfl⟩:=h;rw[hG id (by simp),hg,S5 hb (fun q hq=>hG q (by simp[hq])),ht]
     simp only[bH];rw[if_pos hc]
    ·cases h
   ·cases h
  ·cases h
 ·cases h
theorem cf6{t:TypeId}{x y:Option AV}(h:R7 P G aF t x y=some (a,wr,rd))(hG:∀id∈rd,G' id=G id):R7 P G' aF t x y=some (a,wr,rd):=by
 unfold R7 at h⊢;split at h
 ·rename_i id n b
  split at h
  ·rename_i e k rows w bA AU e' k' hg hb ht
   split at h
   ·rename_i zs nZ hz rC
    split at h
    ·rename_i hc
     simp only[bC,cD]at h;obtain⟨rfl,rfl,rfl⟩:=h;rw[hG id (by simp),hg,S5 hb (fun q hq=>hG q (by simp[hq])),ht]
     simp only[hz,rC];rw[if_pos hc]
    ·cases h
   ·cases h
  ·cases h
 ·rename_i b
  split at h
  ·rename_i bA AU e k hb ht
   split at h
   ·rename_i IJ
    simp only[bC,cD]at h;obtain⟨rfl,rfl,rfl⟩:=h;rw[S5 hb hG,ht];simp only[IJ,if_true]
   ·rename_i IJ
    split at h
    ·rename_i zs nZ hz rC
     split at h
     ·rename_i hc
      simp only[bC,cD]at h;obtain⟨rfl,rfl,rfl⟩:=h;rw[S5 hb hG,ht];simp only[IJ,hz,rC];rw[if_neg (by simp),if_pos hc]
     ·cases h
    ·cases h
  ·cases h
 ·cases h
theorem cf7{aF:Nat}{t:TypeId}{x:Option AV}(h:R4 P G aF t x=some (a,wr,rd))(hG:∀id∈rd,G' id=G id):R4 P G' aF t x=some (a,wr,rd):=by
 unfold R4 at h⊢;split at h
 ·rename_i id
  cases hg:G id with
  |none=>simp[hg]at h
  |some b=>
   have hr:rd=[id]:=by
    cases b with
    |map es=>
     simp only[hg]at h;split at h
     ·simp only[bC,cD]at h;exact h.2.2.symm
     ·cases h
    |_=>simp[hg]at h
   rw[hG id (by rw[hr];simp)]
   exact h
 ·cases h
theorem cf8{x:Option AV}(h:R5 G x=some (a,wr,rd))(hG:∀id∈rd,G' id=G id):R5 G' x=some (a,wr,rd):=by
 unfold R5 at h⊢;split at h
 ·rename_i id
  split at h
  ·rename_i m n seen hg
   split at h
   ·rename_i i es hs hm
    split at h
    ·rename_i k a' he
     split at h
     ·rename_i hc
      simp only[bC,cD]at h;obtain⟨rfl,rfl,rfl⟩:=h;simp only[hG id (by simp),hG m (by simp),hg,hm,hs,he,if_pos hc]
     ·cases h
    ·cases h
   ·cases h
  ·cases h
 ·cases h
theorem cf9{t:TypeId}{ok:Bool}{x y:Option AV}(h:QZ P G t ok x y=some (a,wr,rd))(hG:∀id∈rd,G' id=G id):QZ P G' t ok x y=some (a,wr,rd):=by
 unfold QZ at h⊢;split at h
 ·rename_i id xa
  cases hk:E5 xa with
  |none=>simp[hk]at h
  |some kv=>
  simp only[hk]at h⊢;cases hg:G id with
  |none=>simp[hg]at h
  |some b=>
   have hr:rd=[id]:=by
    cases b with
    |map es=>
     simp only[hg]at h;split at h
     ·rename_i q1 q2 q3
      split at h
      ·split at h
       ·simp only[bC,cD]at h;exact h.2.2.symm
       ·cases h
      ·cases h
     ·cases h
    |_=>simp[hg]at h
   rw[hG id (by rw[hr];simp)]
   rw[hg]at h⊢;exact h
 ·cases h
theorem cg0{t:TypeId}{x y z:Option AV}(h:R3 P G t x y z=some (a,wr,rd))(hG:∀id∈rd,G' id=G id):R3 P G' t x y z=some (a,wr,rd):=by
 unfold R3 at h⊢;split at h
 ·rename_i id xa a'
  cases hk:E5 xa with
  |none=>simp[hk]at h
  |some kv=>
  simp only[hk]at h⊢;cases hg:G id with
  |none=>simp[hg]at h
  |some b=>
   have hr:rd=[id]:=by
    cases b with
    |map es=>
     simp only[hg]at h;split at h
     ·split at h
      ·simp only[bC,cD]at h;exact h.2.2.symm
      ·cases h
     ·cases h
    |_=>simp[hg]at h
   rw[hG id (by rw[hr];simp)]
   rw[hg]at h⊢;exact h
 ·cases h
theorem cg1{t:TypeId}{x:Option AV}(h:R6 P G t x=some (a,wr,rd))(hG:∀id∈rd,G' id=G id):R6 P G' t x=some (a,wr,rd):=by
 unfold R6 at h⊢;split at h
 ·rename_i id
  cases hg:G id with
  |none=>simp[hg]at h
  |some b=>
   have hr:rd=[id]:=by
    cases b with
    |cells=>simp[hg]at h
    |cO=>simp[hg]at h
    |iter=>simp[hg]at h
    |map es=>
     simp only[hg]at h;split at h
     ·simp only[bC,cD]at h;exact h.2.2.symm
     ·cases h
   rw[hG id (by rw[hr];simp)]
   exact h
 ·exact h
 ·exact h
 ·cases h
theorem cg2{s t:TypeId}{x:Option AV}(h:QT P G s t x=some (a,wr,rd))(hG:∀id∈rd,G' id=G id):QT P G' s t x=some (a,wr,rd):=by
 unfold QT at h⊢;split at h
 ·exact h
 ·unfold Ec at h⊢
  cases hd:oX P t isString with
  |true=>
   simp only[hd]at h⊢;split at h
   ·rename_i e rows AU hs hb
    split at h
    ·rename_i l he hl
     have dS:AU=rd:=by
      simp only[bC,cD]at h;exact h.2.2
     subst dS;cases x with
     |none=>cases hb
     |some y=>
      have sE:(some y:Option AV).bind (rowsOf G')=some (rows,AU):=S5 hb hG;simp only[hs,sE,he,hl];exact h
    ·cases h
   ·cases h
  |false=>
   simp only[hd]at h;cases h
theorem cg3{g g':Operand->Option AV}{o:Oper}(h:res P g G aF o=some (a,wr,rd))(hg:∀x∈o.op.operands,g' x=g x)(hG:∀id∈rd,G' id=G id):res P g' G' aF o=some (a,wr,rd):=by
 obtain⟨dst,op,ty,pos,after,guard⟩:=o;cases op with
 |move x=>simp only[res,Op.operands]at*;rw[hg x (by simp)];exact h
 |assign x=>simp only[res,Op.operands]at*;rw[hg x (by simp)];exact h
 |pick c x y=>simp only[res,Op.operands]at*;rw[hg c (by simp),hg x (by simp),hg y (by simp)];exact h
 |binOp op t x y yt=>simp only[res,Op.operands]at*;rw[hg x (by simp),hg y (by simp)];exact h
 |unOp op t x=>simp only[res,Op.operands]at*;rw[hg x (by simp)];exact h
 |convert s t x=>simp only[res,Op.operands]at*;rw[hg x (by simp)];exact cg2 h hG
 |sliceToArrayPointer t x=>simp only[res,Op.operands]at*;rw[hg x (by simp)];exact h
 |extract x i=>simp only[res,Op.operands]at*;rw[hg x (by simp)];exact h
 |field t x f=>simp only[res,Op.operands]at*;rw[hg x (by simp)];exact h
 |fieldAddr t x f=>simp only[res,Op.operands]at*;rw[hg x (by simp)];exact h
 |load t x=>simp only[res,Op.operands]at*;rw[hg x (by simp)];exact cf0 h hG
 |store t x y=>simp only[res,Op.operands]at*;rw[hg x (by simp),hg y (by simp)];exact cf1 h hG
 |indexAddr t x y=>simp only[res,Op.operands]at*;rw[hg x (by simp),hg y (by simp)];exact cf2 h hG
 |index t x y=>simp only[res,Op.operands]at*;rw[hg x (by simp),hg y (by simp)];exact h
 |slice t x lo hi mx=>
  cases mx with
  |some m=>
   cases hi with
   |none=>simp only[res]at h;cases h
   |some hi=>
    simp only[res,Op.operands]at*;rw[hg x (by simp)]
    rw[show(fun _=>iW g' 0 lo)=fun(_:Nat)=>iW g 0 lo from by funext _;exact Y2 fun y hy=>hg y (by simp[hy]),
     show(fun(n:Nat)=>iW g' n (some hi))=fun(n:Nat)=>iW g n (some hi)from by funext _;exact Y2 fun y hy=>hg y (by simp[hy]),
     show(fun(n:Nat)=>iW g' n (some m))=fun(n:Nat)=>iW g n (some m)from by funext _;exact Y2 fun y hy=>hg y (by simp[hy])]
    exact cf4 rfl rfl rfl h hG
  |none=>
   simp only[res,Op.operands]at*;rw[hg x (by simp)]
   exact cf3 (by funext _;exact Y2 fun y hy=>hg y (by simp[hy])) (by funext _;exact Y2 fun y hy=>hg y (by simp[hy])) h hG
 |alloc t=>exact h
 |box t x=>simp only[res,Op.operands]at*;rw[hg x (by simp)];exact h
 |build t ps=>
  simp only[res,Op.operands]at*;rw[Qj ps.toList fun p hp=>hg p.2 (by simp;exact⟨p.1,by simpa using hp⟩)];exact h
 |buildSlice t n ps=>
  simp only[res,Op.operands]at*;rw[Qj ps.toList fun p hp=>hg p.2 (by simp;exact⟨p.1,by simpa using hp⟩)];exact h
 |makeSlice t l c=>simp only[res,Op.operands]at*;rw[hg l (by simp),hg c (by simp)];exact h
 |makeMap t r=>
  cases r with
  |none=>exact h
  |some x=>simp only[res]at h;cases h
 |range t x=>simp only[res,Op.operands]at*;rw[hg x (by simp)];exact cf7 h hG
 |entry x=>simp only[res,Op.operands]at*;rw[hg x (by simp)];exact cf8 h hG
 |lookup t m x ok=>simp only[res,Op.operands]at*;rw[hg m (by simp),hg x (by simp)];exact cf9 h hG
 |mapUpdate t m x y=>simp only[res,Op.operands]at*;rw[hg m (by simp),hg x (by simp),hg y (by simp)];exact cg0 h hG
 |makeFunc fn f c=>
  simp only[res,Op.operands]at*;rw[E8 f.toList fun x hx=>hg x (by simp at hx⊢;exact .inl hx),E8 c.toList fun x hx=>hg x (by simp at hx⊢;exact .inr hx)];exact h
 |makeInterface t x=>simp only[res,Op.operands]at*;rw[hg x (by simp)];exact h
 |typeAssert x xt t ok=>simp only[res,Op.operands]at*;rw[hg x (by simp)];exact h
 |nilCheck x=>simp only[res,Op.operands]at*;rw[hg x (by simp)];exact h
 |call c=>
  obtain⟨cal,as,ts⟩:=c;cases cal with
  |builtin b=>
   simp only[res,Op.operands,Call.operands]at*;have hm:as.toList.map g'=as.toList.map g:=s7 fun x hx=>hg x (by simpa using hx)
   rw[hm];unfold Ed at h⊢;split at h
   ·exact cg1 h hG
   ·exact h
   ·exact h
   ·rename_i a' b' t t' _ _
    split at h
    ·rename_i ht;simp only[ht,if_true];subst ht;exact cf6 h hG
    ·rename_i ht;simp only[ht,if_false];exact h
   ·exact h
   ·exact cf5 h hG
   ·cases h
  |value f=>simp only[res]at h;cases h
  |invoke r m=>simp only[res]at h;cases h
 |_=>simp only[res]at h;cases h
end
end Go.AL
namespace Go.AL
open Go.RowKit
def yG:AV->List Nat
 | .own id _ _=> [id]
 | .ptr id _ _=> [id]
 | .sub id _ _ _=> [id]
 |_=> []
def mC(f:AV->List Nat):List AV->List Nat
 |[]=> []
 |x::r=>f x++mC f r
def nD:AV->List Nat
 | .agg xs=>mC yG xs
 | .fn _ xs ys=>mC yG xs++mC yG ys
 |a=>yG a
theorem N8{f:AV->List Nat}{xs:List AV}{x:AV}{id:Nat}(hx:x∈xs)(h:id∈f x):id∈mC f xs:=by
 induction xs with
 |nil=>cases hx
 |cons y r ih=>
  simp only[mC,lS];rcases cG.1 hx with rfl|hx
  ·exact .inl h
  ·exact .inr (ih hx)
def qN:Option aI->Option aI
 |some (.cells e s rows w a)=>some (.cells e s rows false a)
 |b=>b
def u9(G:Nat->Option aI):List Nat->Nat->Option aI
 |[]=>G
 |id::r=>u9 (aX G [(id,qN (G id))]) r
theorem bY7(G:Nat->Option aI):u9 G []=G:=rfl
theorem ax4(G:Nat->Option aI)(id:Nat)(r:List Nat):u9 G (id::r)=u9 (aX G [(id,qN (G id))]) r:=rfl
section
variable {E : Env} {W : World}
theorem ay9{H:Heap}(hH:RH E W H){id:Nat}{e:TypeId}{s:Nat}{rows:List (List AV)}{w a:Bool}(hg:H.get id=some (.cells e s rows w a)):
  bE E W ⟨E.ι,E.sz,E.U,fun b=>if b=E.ι id then max (E.L b) (rows.length*s)else E.L b⟩ W/\
   RH ⟨E.ι,E.sz,E.U,fun b=>if b=E.ι id then max (E.L b) (rows.length*s)else E.L b⟩ W ⟨H.next,aX H.get [(id,some (.cells e s rows false a))]⟩:=by
 obtain⟨hU,dO⟩:=hH.core.ok id _ hg
 have hv:bE E W ⟨E.ι,E.sz,E.U,fun b=>if b=E.ι id then max (E.L b) (rows.length*s)else E.L b⟩ W:=by
  refine⟨rfl,rfl,rfl,cE _,fun _ h=>h,fun _ _=>⟨rfl,rfl⟩,fun b=> ?_,fun _ _ _=>rfl,fun _ _ _=>rfl,fun b cur e f h=>⟨cur,f,h,rfl⟩,fun b hb hf=> ?_,fun _ h h'=>absurd h' h,fun b r h=>⟨r,h,rfl⟩⟩
  ·simp only[];split<;>omega
  ·simp only[];rw[if_neg (fun h=>hf id hU h.symm)]
 refine⟨hv,hH.next,fun b hb=> ?_,hH.core.eL,fun aM b' bY=> ?_⟩
 ·simp only[]
  have:=hH.core.eL id hU;rw[if_neg (by omega)]
  exact hH.core.lim b hb
 ·simp only[aX]at bY
  have qM:∀dI dJ,(if dI=id then some (aI.cells e s rows false a)else H.get dI)=some dJ->∃b0,H.get dI=some b0/\dJ.upto=b0.upto/\(b0.app=false->dJ.app=false):=fun dI dJ h=>by
   split at h
   ·rename_i heq
    injection h with h
    subst h;subst heq;exact⟨_,hg,rfl,fun h=>h⟩
   ·exact⟨dJ,h,rfl,fun h=>h⟩
  by_cases aB:aM=id
  ·subst aB
   rw[if_pos rfl]at bY;injection bY with bY
   subst bY;obtain⟨h1,h2,⟨cur,h3,h4,h5⟩,h6,h7⟩:=dO;refine⟨hU,h1,h2,⟨cur,h3,h4,fun i j row x hr hx=> ?_⟩,(fun h=>by cases h),fun ha=> ?_⟩
   ·obtain⟨v,pN,fB⟩:=h5 i j row x hr hx
    exact⟨v,pN,fB.mono hv⟩
   ·obtain⟨h8,h9⟩:=h7 ha
    refine⟨?_,fun dI dJ aJ u7 heq=> ?_⟩
    ·simp only[if_true];omega
    ·obtain⟨b0,dY,oC,uJ⟩:=qM dI dJ u7
     obtain⟨yM,CW⟩:=h9 dI b0 aJ dY heq;exact⟨by rw[oC];exact yM,uJ CW⟩
  ·rw[if_neg aB]at bY
   obtain⟨yE,JT⟩:=hH.core.ok aM b' bY;refine⟨yE,?_⟩;cases b' with
   |map es=>
   obtain⟨⟨ms,clock,h1,h2,h3,h4⟩,h5,h6⟩:=JT;have aJ:=h6 id _ (mQ aB) hg;refine⟨⟨ms,clock,h1,h2,h3,fun i k x hx=> ?_⟩,?_,fun dI dJ nX u7=> ?_⟩
   ·obtain⟨e,lC,mX,sN⟩:=h4 i k x hx
    exact⟨e,lC,mX,sN.mono hv⟩
   ·simp only[]
    rw[if_neg (fun h=>aJ h.symm)]
    exact h5
   ·obtain⟨b0,dY,oC,uJ⟩:=qM dI dJ u7
    exact h6 dI b0 nX dY
   |iter m n seen=>
   obtain⟨⟨h1,h3⟩,h5,h6⟩:=JT;have aJ:=h6 id _ (mQ aB) hg;refine⟨⟨h1,h3⟩,?_,fun dI dJ nX u7=> ?_⟩
   ·simp only[]
    rw[if_neg (fun h=>aJ h.symm)]
    exact h5
   ·obtain⟨b0,dY,oC,uJ⟩:=qM dI dJ u7
    exact h6 dI b0 nX dY
   |cO env nt ps assign body st MC=>
   obtain⟨⟨fn,tmps,D,h1,h2,h3⟩,h5,h6⟩:=JT;have aJ:=h6 id _ (mQ aB) hg;refine⟨⟨fn,tmps,D,h1,h2,fun t c a ht=> ?_⟩,?_,fun dI dJ nX u7=> ?_⟩
   ·obtain⟨v,lC,mX,sN⟩:=h3 t c a ht
    exact⟨v,lC,fun hc=>(mX hc).mono hv,sN⟩
   ·simp only[]
    rw[if_neg (fun h=>aJ h.symm)]
    exact h5
   ·obtain⟨b0,dY,oC,uJ⟩:=qM dI dJ u7
    exact h6 dI b0 nX dY
   |cells e' s' fH w' a'=>
   obtain⟨h1,h2,⟨cur,h3,h4,h5⟩,h6,h7⟩:=JT;refine⟨h1,h2,⟨cur,h3,h4,fun i j row x hr hx=> ?_⟩,fun hw=> ?_,fun ha=> ?_⟩
   ·obtain⟨v,pN,fB⟩:=h5 i j row x hr hx
    exact⟨v,pN,fB.mono hv⟩
   ·obtain⟨h8,h9⟩:=h6 hw
    refine⟨?_,fun dI dJ aJ u7=> ?_⟩
    ·simp only[]
     rw[if_neg (fun h=>h9 id _ (mQ aB) hg h.symm)]
     exact h8
    ·obtain⟨b0,dY,_,_⟩:=qM dI dJ u7
     exact h9 dI b0 aJ dY
   ·obtain⟨h8,h9⟩:=h7 ha
    refine⟨?_,fun dI dJ aJ u7 heq=> ?_⟩
    ·simp only[]
     split
     ·rename_i heq
      have:=(h9 id _ (mQ aB) hg heq.symm).1;simp only[aI.upto]at this;omega
     ·exact h8
    ·obtain⟨b0,dY,oC,uJ⟩:=qM dI dJ u7
     obtain⟨yM,CW⟩:=h9 dI b0 aJ dY heq;exact⟨by rw[oC];exact yM,uJ CW⟩
theorem N9:∀(ids:List Nat) {E:Env} {H:Heap},RH E W H->∃L1,bE E W ⟨E.ι,E.sz,E.U,L1⟩ W/\RH ⟨E.ι,E.sz,E.U,L1⟩ W ⟨H.next,u9 H.get ids⟩/\
  ∀id,id∈ids->∀(e:TypeId) (s:Nat) (rows:List (List AV)) (w a:Bool),H.get id=some (.cells e s rows w a)->rows.length*s<=L1 (E.ι id)
 |[],E,H,hH=>⟨E.L,bE.refl E W,hH,fun id h=>by cases h⟩
 |id::r,E,H,hH=>by
  have step:∃L0,bE E W ⟨E.ι,E.sz,E.U,L0⟩ W/\RH ⟨E.ι,E.sz,E.U,L0⟩ W ⟨H.next,aX H.get [(id,qN (H.get id))]⟩/\
    ∀(e:TypeId) (s:Nat) (rows:List (List AV)) (w a:Bool),H.get id=some (.cells e s rows w a)->rows.length*s<=L0 (E.ι id):=by
   have qM:∀x,qN x=x->H.get id=x->aX H.get [(id,qN (H.get id))]=H.get:=fun x h1 h2=>by
    funext k
    simp only[aX];split
    ·rename_i h;subst h;rw[h2,h1]
    ·rfl
   cases hg:H.get id with
   |none=>
    rw[<-hg,qM none rfl hg];exact⟨E.L,bE.refl E W,hH,fun e s rows w a h=>by rw[hg]at h;cases h⟩
   |some b=>
    cases b with
    |map es=>
     rw[<-hg,qM (some (.map es)) rfl hg];exact⟨E.L,bE.refl E W,hH,fun e s rows w a h=>by rw[hg]at h;cases h⟩
    |iter a1 a2 a3=>
     rw[<-hg,qM (some (.iter a1 a2 a3)) rfl hg];exact⟨E.L,bE.refl E W,hH,fun e s rows w a h=>by rw[hg]at h;cases h⟩
    |cO a1 a2 a3 a4 a5 a6 a7=>
     rw[<-hg,qM (some (.cO a1 a2 a3 a4 a5 a6 a7)) rfl hg];exact⟨E.L,bE.refl E W,hH,fun e s rows w a h=>by rw[hg]at h;cases h⟩
    |cells e s rows w a=>
     obtain⟨h1,h2⟩:=ay9 hH hg;refine⟨_,h1,h2,fun e' s' fH w' a' h=> ?_⟩
     injection h with h
     injection h with he hs hr hw ha
     subst hs;subst hr;simp only[if_true];omega
  obtain⟨L0,h1,h2,h3⟩:=step;obtain⟨L1,h4,h5,h6⟩:=N9 r h2;refine⟨L1,h1.trans h4,h5,fun aM uR e s rows w a hg=> ?_⟩
  rcases cG.1 uR with rfl|uR
  ·exact s8 (h3 e s rows w a hg) (h4.lim _)
  ·by_cases heq:aM=id
   ·subst heq
    exact s8 (h3 e s rows w a hg) (h4.lim _)
   ·exact h6 aM uR e s rows w a (by simp only[aX];rw[if_neg heq];exact hg)
theorem Y3{G:Nat->Option aI}{L1:Nat->Nat}(hG:RC E W G)(hv:bE E W ⟨E.ι,E.sz,E.U,L1⟩ W){a:AV}{v:Value}(r:RV E W a v)
  (hL:∀id,id∈yG a->∀(e:TypeId) (s:Nat) (rows:List (List AV)) (w a:Bool),G id=some (.cells e s rows w a)->rows.length*s<=L1 (E.ι id)):RV ⟨E.ι,E.sz,E.U,L1⟩ W (sA G a) v:=by
 unfold sA;split
 ·rename_i id off len
  split
  ·rename_i rows rd dB
   have hU:=(wO r).1;simp only[rowsOf]at dB;split at dB
   ·rename_i e s fH w ap bU
    split at dB
    ·rename_i hle
     simp only[bC,cD]at dB;obtain⟨rfl,rfl⟩:=dB;rcases(wO r).2 with⟨cap,lR,eC,DY,e0,f0,lF,XR⟩|⟨oZ,a0,lR⟩
     ·subst lR
      obtain⟨_,kZ,hlen,⟨cur,cK,qV,eX⟩,_,_⟩:=hG.ok id _ bU;rw[cK]at lF;injection lF with lF
      injection lF with lF N3 N4
      subst lF;subst N3;subst N4;have HT:=hL id (by simp[yG]) e s fH w ap bU
      have v8:∀(i:Nat) row,((fH.drop off).take len)[i]? =some row->fH[off+i]? =some row:=fun i row hr=>by
       rw[gU]at hr;split at hr
       ·rwa[mF]at hr
       ·cases hr
      have zA:((fH.drop off).take len).length=len:=by simp;omega
      have hmul:(off+len)*s<=fH.length*s:=nN s hle;refine .snap _ (E.ι id) (off*E.sz id) s len cap (fun i j=>cur.getD ((off+i)*s+j) undef) zA.symm eC (fun i row hr=>hlen _ row (v8 i row hr)) ?_ (fun i j row x h1 h2=> ?_) (fun i j row x h1 h2=> ?_)
      ·rw[zA,kZ,<-oW];simp only[];omega
      ·obtain⟨u,h3,h4⟩:=eX _ j row x (v8 i row h1) h2
       rw[cell_of_row W _ _ cur e (0,0) cK,kZ];have he:off*s+(i*s+j)=(off+i)*s+j:=by rw[oW];omega
       rw[he,h3];simp[h3]
      ·obtain⟨u,h3,h4⟩:=eX _ j row x (v8 i row h1) h2
       simp only[KI,h3,vZ];exact h4.mono hv
     ·subst oZ;subst lR
      simp only[xE];exact .lV _ _
    ·cases dB
   ·cases dB
  ·exact r.mono hv
 ·rename_i id i o
  split
  ·rename_i e s rows w ap bU
   cases r with
   |ptr _ _ _ hU=>
   obtain⟨_,kZ,hlen,⟨cur,cK,qV,eX⟩,_,_⟩:=hG.ok id _ bU;have HT:=hL id (by simp[yG]) e s rows w ap bU
   have:=RV.dD (E:=⟨E.ι,E.sz,E.U,L1⟩) (W:=W) rows i o (E.ι id) 0 s (fun i j=>cur.getD (i*s+j) undef) hlen (by simp only[];omega) (fun i j row x h1 h2=>by
    obtain⟨u,h3,h4⟩:=eX i j row x h1 h2;rw[cell_of_row W _ _ cur e (0,0) cK,pJ,h3];simp[h3]) (fun i j row x h1 h2=>by
    obtain⟨u,h3,h4⟩:=eX i j row x h1 h2;simp only[KI,h3,vZ]
    exact h4.mono hv)
   rw[kZ];simpa using this
  ·exact r.mono hv
 ·rename_i id i o len
  split
  ·rename_i row bH
   obtain⟨e,s,rows,w,ap,bU,AX⟩:=aw6 bH;split
   ·rename_i hle
    cases r with
    |sub _ _ _ _ cap hU eC XR=>
    obtain⟨_,kZ,hlen,⟨cur,cK,qV,eX⟩,_,_⟩:=hG.ok id _ bU;have HT:=hL id (by simp[yG]) e s rows w ap bU
    have iR:=hlen i row AX;have bG:i<rows.length:=(dV.1 AX).1;have hm:=aw8 (s:=s) bG;rw[kZ];refine aw7 (E:=⟨E.ι,E.sz,E.U,L1⟩) (s:=s) cK hle eC (show i*s+o+len<=L1 (E.ι id)by omega) fun j x h1 h2 hx=> ?_
    obtain⟨u,h3,h4⟩:=eX i j row x AX hx;exact⟨u,h3,h4.mono hv⟩
   ·exact r.mono hv
  ·exact r.mono hv
 ·exact r.mono hv
theorem Y4{G:Nat->Option aI}{L1:Nat->Nat}(hG:RC E W G)(hv:bE E W ⟨E.ι,E.sz,E.U,L1⟩ W){a:AV}{v:Value}(r:RV E W a v)
  (hL:∀id,id∈nD a->∀(e:TypeId) (s:Nat) (rows:List (List AV)) (w a:Bool),G id=some (.cells e s rows w a)->rows.length*s<=L1 (E.ι id)):RV ⟨E.ι,E.sz,E.U,L1⟩ W (o0 G a) v:=by
 unfold o0;split
 ·rename_i xs
  cases r with
  |agg _ vs hl hr=>
  refine .agg _ vs (by simpa using hl) fun i x v hx lR=> ?_
  rw[gE]at hx;obtain⟨y,hy,rfl⟩:=map_some hx;exact Y3 hG hv (hr i y v hy lR) fun id aB=>hL id (N8 (eS hy) aB)
 ·rename_i f xs ys
  cases r with
  |fn _ _ _ vf vc hl cW hr nC=>
  refine .fn _ _ _ vf vc (by simpa using hl) (by simpa using cW) (fun i x v hx lR=> ?_) (fun i x v hx lR=> ?_)
  ·rw[gE]at hx
   obtain⟨y,hy,rfl⟩:=map_some hx;exact Y3 hG hv (hr i y v hy lR) fun id aB=>hL id (wB _ (N8 (eS hy) aB))
  ·rw[gE]at hx
   obtain⟨y,hy,rfl⟩:=map_some hx;exact Y3 hG hv (nC i y v hy lR) fun id aB=>hL id (uE _ (N8 (eS hy) aB))
 ·rename_i aJ Qk
  refine Y3 hG hv r fun id aB=>hL id ?_
  cases a<;>first|exact aB|exact absurd rfl (aJ _)|exact absurd rfl (Qk _ _ _)
theorem fU.ax3{P:Program}{n:FuncId}{cA args:List AV}{Q:AV->Prop}{H:Heap}(h:eU P n args Q)(he:cA.map (o0 H.get)=args)(ha:∀a∈args,bK a){K:AV->Heap->Prop}
  (hk:∀r,bK r->Q r->K r ⟨H.next,u9 H.get (mC nD cA)⟩):fU P n cA H K:=
 ⟨h.1,fun E W vs hH hr=>by
   obtain⟨L1,h1,h2,h3⟩:=N9 (W:=W) (mC nD cA) hH
   have Y5:bX ⟨E.ι,E.sz,E.U,L1⟩ W args vs:=by
    subst he;refine⟨by simpa using hr.1,fun i x v hx hv=> ?_⟩
    rw[gE]at hx;obtain⟨y,hy,rfl⟩:=map_some hx;exact Y4 hH.core h1 (hr.2 i y v hy hv) fun id aB=>h3 id (N8 (eS hy) aB)
   exact(h.run ha h2 Y5).mono fun e W' ⟨v,vV,r,L',h4,h5,h6,h7,h8⟩=>⟨v,vV,_,r,_,h1.trans h4,h5,h6,hk r h7 h8⟩⟩
end
theorem cg5(x:Option aI):qN (qN x)=qN x:=by
 cases x with
 |none=>rfl
 |some b=>cases b<;>rfl
theorem Et:∀(ids:List Nat) (G:Nat->Option aI),u9 G ids=aX G (ids.map fun id=>(id,qN (G id)))
 |[],G=>rfl
 |id::r,G=>by
  rw[ax4,Et r]
  have:(r.map fun j=>(j,qN (aX G [(id,qN (G id))] j)))=r.map fun j=>(j,qN (G j)):=by
   refine s7 fun j _=> ?_
   simp only[aX];split
   ·rename_i h;subst h;rw[cg5]
   ·rfl
  rw[this];rfl
theorem cg6{G G':Nat->Option aI}{id off len:Nat}(h:G' id=G id):rowsOf G' (.own id off len)=rowsOf G (.own id off len):=by simp only[rowsOf,h]
theorem Eu{G G':Nat->Option aI}{a:AV}(h:∀id∈yG a,G' id=G id):sA G' a=sA G a:=by
 cases a with
 |own id off len=>simp only[sA,cg6 (h id (by simp[yG]))]
 |ptr id i o=>simp only[sA,h id (by simp[yG])]
 |sub id i o len=>simp only[sA,h id (by simp[yG])]
 |_=>rfl
theorem Ev{G G':Nat->Option aI}:∀(xs:List AV),(∀id∈mC yG xs,G' id=G id)->xs.map (sA G')=xs.map (sA G)
 |[],_=>rfl
 |x::r,h=>by
  simp only[gJ];rw[Eu fun id aB=>h id (by simp only[mC];exact wB _ aB),Ev r fun id aB=>h id (by simp only[mC];exact uE _ aB)]
theorem cg7{G G':Nat->Option aI}{a:AV}(h:∀id∈nD a,G' id=G id):o0 G' a=o0 G a:=by
 cases a with
 |agg xs=>simp only[o0];rw[Ev xs h]
 |fn f xs ys=>simp only[o0];rw[Ev xs fun id aB=>h id (by simp only[nD];exact wB _ aB),Ev ys fun id aB=>h id (by simp only[nD];exact uE _ aB)]
 |own id off len=>exact Eu (a:= .own id off len) fun id aB=>h id aB
 |ptr id i o=>exact Eu (a:= .ptr id i o) fun id aB=>h id aB
 |sub id i o len=>exact Eu (a:= .sub id i o len) fun id aB=>h id aB
 |_=>rfl
theorem Ql{G G':Nat->Option aI}:∀(xs:List AV),(∀id∈mC nD xs,G' id=G id)->xs.map (o0 G')=xs.map (o0 G)
 |[],_=>rfl
 |x::r,h=>by
  simp only[gJ];rw[cg7 fun id aB=>h id (by simp only[mC];exact wB _ aB),Ql r fun id aB=>h id (by simp only[mC];exact uE _ aB)]
end Go.AL
namespace Go.AL
open Go.RowKit
def cR(G:Nat->Option aI):Nat->AV->AV
 |0,a=>a
 |k+1,.own id off len=>match rowsOf G (.own id off len)with
  |some (rows,_)=> .snap (rows.map fun row=>row.map (cR G k))
  |none=> .own id off len
 |k+1,.ptr id i o=>match G id with
  |some (.cells _ _ rows _ _)=> .dD (rows.map fun row=>row.map (cR G k)) i o
  |_=> .ptr id i o
 |k+1,.agg xs=> .agg (xs.map (cR G k))
 |k+1,.aU xs=> .aU (xs.map (cR G k))
 |k+1,.fn f xs ys=> .fn f (xs.map (cR G k)) (ys.map (cR G k))
 |_+1,a=>a
def gZ(G:Nat->Option aI):Nat->AV->List Nat
 |0,_=> []
 |k+1,.own id off len=>id::match rowsOf G (.own id off len)with
  |some (rows,_)=>rows.flatMap fun row=>row.flatMap (gZ G k)
  |none=> []
 |k+1,.ptr id i o=>id::match G id with
  |some (.cells _ _ rows _ _)=>rows.flatMap fun row=>row.flatMap (gZ G k)
  |_=> []
 |k+1,.agg xs=>xs.flatMap (gZ G k)
 |k+1,.aU xs=>xs.flatMap (gZ G k)
 |k+1,.fn f xs ys=>xs.flatMap (gZ G k)++ys.flatMap (gZ G k)
 |_+1,_=> []
theorem az0{G G':Nat->Option aI}{id off len:Nat}(h:G' id=G id):rowsOf G' (.own id off len)=rowsOf G (.own id off len):=by
 simp only[rowsOf,h]
theorem Ew{G G':Nat->Option aI}:∀(k:Nat) (a:AV),(∀id∈gZ G k a,G' id=G id)->cR G' k a=cR G k a
 |0,a,h=>rfl
 |k+1,a,h=>by
  have dB:∀rows:List (List AV),(∀id∈rows.flatMap fun row=>row.flatMap (gZ G k),G' id=G id)->(rows.map fun row=>row.map (cR G' k))=rows.map fun row=>row.map (cR G k):=fun rows h=>by
   refine s7 fun row hr=>s7 fun x hx=>Ew k x fun id aB=>h id ?_
   exact tJ.2 ⟨row,hr,tJ.2 ⟨x,hx,aB⟩⟩
  have hl:∀xs:List AV,(∀id∈xs.flatMap (gZ G k),G' id=G id)->xs.map (cR G' k)=xs.map (cR G k):=fun xs h=>
   s7 fun x hx=>Ew k x fun id aB=>h id (tJ.2 ⟨x,hx,aB⟩)
  cases a with
  |own id off len=>
   simp only[gZ]at h;simp only[cR];rw[az0 (h id (Z7 ..))];cases hr:rowsOf G (.own id off len)with
   |none=>rfl
   |some p=>
    obtain⟨rows,rd⟩:=p;rw[hr]at h;simp only[];rw[dB rows fun aM aB=>h aM (OB _ aB)]
  |ptr id i o=>
   simp only[gZ]at h;simp only[cR];rw[h id (Z7 ..)];cases hr:G id with
   |none=>rfl
   |some b=>
    cases b with
    |cells e s rows w a=>
     rw[hr]at h;simp only[];rw[dB rows fun aM aB=>h aM (OB _ aB)]
    |map es=>rfl
    |cO=>rfl
    |iter=>rfl
  |agg xs=>simp only[cR];rw[hl xs h]
  |aU xs=>simp only[cR];rw[hl xs h]
  |fn f xs ys=>
   simp only[cR];rw[hl xs fun id aB=>h id (wB _ aB),hl ys fun id aB=>h id (uE _ aB)]
  |c x=>rfl
  |snap rows=>rfl
  |dD rows i o=>rfl
  |sub=>rfl
  |omap=>rfl
  |kH=>rfl
theorem Qm{G G':Nat->Option aI}:∀(k:Nat) (a:AV),(∀id∈gZ G k a,G' id=G id)->gZ G' k a=gZ G k a
 |0,a,h=>rfl
 |k+1,a,h=>by
  have hl:∀xs:List AV,(∀id∈xs.flatMap (gZ G k),G' id=G id)->xs.flatMap (gZ G' k)=xs.flatMap (gZ G k):=fun xs h=>by
   simp only[List.flatMap];rw[s7 fun x hx=>Qm k x fun id aB=>h id (tJ.2 ⟨x,hx,aB⟩)]
  have dB:∀rows:List (List AV),(∀id∈rows.flatMap fun row=>row.flatMap (gZ G k),G' id=G id)->(rows.flatMap fun row=>row.flatMap (gZ G' k))=rows.flatMap fun row=>row.flatMap (gZ G k):=fun rows h=>by
   have h1:rows.map (fun row=>row.flatMap (gZ G' k))=rows.map fun row=>row.flatMap (gZ G k):=s7 fun row hr=>hl row fun id aB=>h id (tJ.2 ⟨row,hr,aB⟩)
   unfold List.flatMap at h1⊢;exact congrArg List.flatten h1
  cases a with
  |own id off len=>
   simp only[gZ]at h⊢;rw[az0 (h id (Z7 ..))];cases hr:rowsOf G (.own id off len)with
   |none=>rfl
   |some p=>
    obtain⟨rows,rd⟩:=p;rw[hr]at h;simp only[];rw[dB rows fun aM aB=>h aM (OB _ aB)]
  |ptr id i o=>
   simp only[gZ]at h⊢;rw[h id (Z7 ..)];cases hr:G id with
   |none=>rfl
   |some b=>
    cases b with
    |cells e s rows w a=>
     rw[hr]at h;simp only[];rw[dB rows fun aM aB=>h aM (OB _ aB)]
    |map es=>rfl
    |cO=>rfl
    |iter=>rfl
  |agg xs=>exact hl xs h
  |aU xs=>exact hl xs h
  |fn f xs ys=>
   simp only[gZ];rw[hl xs fun id aB=>h id (wB _ aB),hl ys fun id aB=>h id (uE _ aB)]
  |c x=>rfl
  |snap rows=>rfl
  |dD rows i o=>rfl
  |sub=>rfl
  |omap=>rfl
  |kH=>rfl
theorem NA{E:Env}{W:World}{G:Nat->Option aI}{L:Nat->Nat}(hG:RC E W G)(hL:∀b,E.L b<=L b)(nO:∀id,E.U id->∀(cur:Array Value) (e:TypeId) (f:Nat×Nat),W.heap[E.ι id]? =some (Obj.cells cur e f)->cur.size<=L (E.ι id)):
  ∀(k:Nat) {a:AV} {v:Value},RV E W a v->bK (cR G k a)->RV (fM L) W (cR G k a) v
 |0,a,v,r,h=>r.rE hL h
 |k+1,a,v,r,h=>by
  have hl:∀(xs:List AV) (vs:List Value),(∀(i:Nat) x v,xs[i]? =some x->vs[i]? =some v->RV E W x v)->(∀x∈xs.map (cR G k),bK x)->∀(i:Nat) x v,(xs.map (cR G k))[i]? =some x->vs[i]? =some v->RV (fM L) W x v:=fun xs vs hr hn i x v hx hv=>by
   have hm:=hn x (eS hx);rw[gE]at hx;obtain⟨y,hy,rfl⟩:=map_some hx;exact NA hG hL nO k (hr i y v hy hv) hm
  have bH:∀{rows:List (List AV)} {i j:Nat} {row:List AV} {x:AV},(rows.map fun row=>row.map (cR G k))[i]? =some row->row[j]? =some x->∃jZ x0,rows[i]? =some jZ/\jZ[j]? =some x0/\x=cR G k x0/\row.length=jZ.length:=fun{rows i j row x} h1 h2=>by
   rw[gE]at h1;obtain⟨jZ,h3,rfl⟩:=map_some h1;rw[gE]at h2;obtain⟨x0,h4,rfl⟩:=map_some h2;exact⟨jZ,x0,h3,h4,rfl,by simp⟩
  have hlen:∀{rows:List (List AV)} {s i:Nat} {row:List AV},(∀(i:Nat) row,rows[i]? =some row->row.length=s)->(rows.map fun row=>row.map (cR G k))[i]? =some row->row.length=s:=fun{rows s i row} h0 h1=>by
   rw[gE]at h1;obtain⟨jZ,h3,rfl⟩:=map_some h1;simpa using h0 i jZ h3
  cases a with
  |own id off len=>
   simp only[cR]at h⊢;split at h
   ·rename_i rows rd dB
    have hU:=(wO r).1;rcases(wO r).2 with⟨cap,hv,eC,DY,e0,f0,lF,XR⟩|⟨oZ,a0,hv⟩
    ·subst hv
     simp only[rowsOf]at dB;split at dB
     ·rename_i e s fH w ap bU
      split at dB
      ·rename_i hle
       simp only[bC,cD]at dB;obtain⟨rfl,rfl⟩:=dB;obtain⟨_,kZ,NB,⟨cur,cK,qV,eX⟩,_,_⟩:=hG.ok id _ bU;rw[cK]at lF;injection lF with lF
       injection lF with lF N3 N4
       subst lF;subst N3;subst N4;have HT:=nO id hU cur e (0,0) cK;rw[fC]at h
       have v8:∀(i:Nat) row,((fH.drop off).take len)[i]? =some row->fH[off+i]? =some row:=fun i row hr=>by
        rw[gU]at hr;split at hr
        ·rwa[mF]at hr
        ·cases hr
       have zA:((fH.drop off).take len).length=len:=by simp;omega
       have hmul:(off+len)*s<=fH.length*s:=nN s hle;refine .snap _ (E.ι id) (off*E.sz id) s len cap (fun i j=>cur.getD ((off+i)*s+j) undef) (by rw[l4];exact zA.symm) eC (fun i row hr=>hlen (fun i row hr=>NB _ row (v8 i row hr)) hr) ?_ (fun i j row x h1 h2=> ?_) (fun i j row x h1 h2=> ?_)
       ·rw[l4,zA,kZ,<-oW];simp only[fM];omega
       ·obtain⟨jZ,x0,h5,h6,rfl,_⟩:=bH h1 h2
        obtain⟨u,h3,h4⟩:=eX _ j jZ x0 (v8 i jZ h5) h6;rw[cell_of_row W _ _ cur e (0,0) cK,kZ];have he:off*s+(i*s+j)=(off+i)*s+j:=by rw[oW];omega
        rw[he,h3];simp[h3]
       ·have eY:=h row (eS h1) x (eS h2)
        obtain⟨jZ,x0,h5,h6,rfl,_⟩:=bH h1 h2;obtain⟨u,h3,h4⟩:=eX _ j jZ x0 (v8 i jZ h5) h6;simp only[KI,h3,vZ];exact NA hG hL nO k h4 eY
      ·cases dB
     ·cases dB
    ·subst oZ;subst hv
     have:rows=[]:=by
      simp only[rowsOf]at dB;split at dB
      ·split at dB
       ·simp at dB;exact dB.1
       ·cases dB
      ·cases dB
     subst this;exact .lV _ _
   ·cases h
  |ptr id i o=>
   simp only[cR]at h⊢;split at h
   ·rename_i e s rows w ap bU
    cases r with
    |ptr _ _ _ hU=>
    obtain⟨_,kZ,NB,⟨cur,cK,qV,eX⟩,_,_⟩:=hG.ok id _ bU;have HT:=nO id hU cur e (0,0) cK;cases h with
    |dD _ _ _ h=>
    have:=RV.dD (E:=fM L) (W:=W) (rows.map fun row=>row.map (cR G k)) i o (E.ι id) 0 s (fun i j=>cur.getD (i*s+j) undef) (fun i row hr=>hlen NB hr) (by rw[l4];simp only[fM];omega) (fun i j row x h1 h2=>by
     obtain⟨jZ,x0,h5,h6,rfl,_⟩:=bH h1 h2;obtain⟨u,h3,h4⟩:=eX i j jZ x0 h5 h6;rw[cell_of_row W _ _ cur e (0,0) cK,pJ,h3];simp[h3]) (fun i j row x h1 h2=>by
     have eY:=h row (eS h1) x (eS h2);obtain⟨jZ,x0,h5,h6,rfl,_⟩:=bH h1 h2;obtain⟨u,h3,h4⟩:=eX i j jZ x0 h5 h6;simp only[KI,h3,vZ]
     exact NA hG hL nO k h4 eY)
    rw[kZ];simpa using this
   ·cases h
  |agg xs=>
   simp only[cR]at h⊢;rw[eV]at h;cases r with
   |agg _ vs u4 hr=>
   exact .agg _ vs (by simpa using u4) fun i x v hx hv=>hl xs vs.toList (fun i x v hx hv=>hr i x v hx (by simpa using hv)) h i x v hx (by simpa using hv)
  |aU xs=>
   simp only[cR]at h⊢;rw[fN]at h;cases r with
   |aU _ vs u4 hr=>
   exact .aU _ vs (by simpa using u4) fun i x v hx hv=>hl xs vs.toList (fun i x v hx hv=>hr i x v hx (by simpa using hv)) h i x v hx (by simpa using hv)
  |fn f xs ys=>
   simp only[cR]at h⊢;cases h with
   |fn _ _ _ sI oP=>
   cases r with
   |fn _ _ _ vf vc yU cW hr nC=>
   exact .fn _ _ _ vf vc (by simpa using yU) (by simpa using cW) (fun i x v hx hv=>hl xs vf.toList (fun i x v hx hv=>hr i x v hx (by simpa using hv)) sI i x v hx (by simpa using hv)) (fun i x v hx hv=>hl ys vc.toList (fun i x v hx hv=>nC i x v hx (by simpa using hv)) oP i x v hx (by simpa using hv))
  |c x=>exact r.rE hL h
  |snap rows=>exact r.rE hL h
  |dD rows i o=>exact r.rE hL h
  |sub=>exact r.rE hL h
  |omap=>exact r.rE hL h
  |kH=>exact r.rE hL h
mutual
def kB:AV->Bool
 | .c _=>true
 | .agg xs=>NC xs
 | .aU xs=>NC xs
 | .snap rows=>rows.isEmpty
 | .fn _ xs ys=>NC xs&&NC ys
 |_=>false
def NC:List AV->Bool
 |[]=>true
 |x::r=>kB x&&NC r
end
theorem Y6:∀{xs:List AV},NC xs=true->∀x∈xs,kB x=true
 |[],_,x,hx=>by cases hx
 |y::r,h,x,hx=>by
  simp only[NC,k6]at h;rcases cG.1 hx with h1|h1
  ·rw[h1];exact h.1
  ·exact Y6 h.2 x h1
theorem JX{E E':Env}{W:World}{a:AV}{v:Value}(r:RV E W a v):kB a=true->RV E' W a v:=by
 induction r with
 |c x hx=>intro _;exact .c x hx
 |agg xs vs hl _ ih=>intro h;simp only[kB]at h;exact .agg xs vs hl fun i x v hx hv=>ih i x v hx hv (Y6 h x (eS hx))
 |aU xs vs hl _ ih=>intro h;simp only[kB]at h;exact .aU xs vs hl fun i x v hx hv=>ih i x v hx hv (Y6 h x (eS hx))
 |snap rows b off s n cap vs hn qK hs hL hc hr ih=>
  intro h;simp only[kB,List.isEmpty_iff]at h;subst h;simp only[fJ]at hn;subst hn;exact .lV _ _
 |lV a cap=>intro _;exact .lV a cap
 |fn f first cap vf vc hl cW _ _ HF HG=>
  intro h;simp only[kB,k6]at h;exact .fn f first cap vf vc hl cW (fun i x v hx hv=>HF i x v hx hv (Y6 h.1 x (eS hx))) (fun i x v hx hv=>HG i x v hx hv (Y6 h.2 x (eS hx)))
 |dD=>intro h;simp only[kB]at h;cases h
 |own=>intro h;simp only[kB]at h;cases h
 |mW=>intro h;simp only[kB]at h;cases h
 |sub=>intro h;simp only[kB]at h;cases h
 |ptr=>intro h;simp only[kB]at h;cases h
 |omap=>intro h;simp only[kB]at h;cases h
 |kH=>intro h;simp only[kB]at h;cases h
def fresh(G:Nat->Option aI):Nat->AV->Bool
 |0,a=>kB a
 |k+1,.own id off len=>match rowsOf G (.own id off len)with
  |some (rows,_)=>rows.all fun row=>row.all (fresh G k)
  |none=>false
 |k+1,.ptr id i o=>match G id with
  |some (.cells _ _ rows _ _)=>rows.all fun row=>row.all (fresh G k)
  |_=>false
 |k+1,.agg xs=>xs.all (fresh G k)
 |k+1,.aU xs=>xs.all (fresh G k)
 |k+1,.fn _ xs ys=>xs.all (fresh G k)&&ys.all (fresh G k)
 |_+1,a=>kB a
theorem Ex{E:Env}{W:World}{G:Nat->Option aI}{L:Nat->Nat}(hG:RC E W G):
  ∀(k:Nat) {a:AV} {v:Value},(∀id∈gZ G k a,(G id).isSome=true->E.U id->∀(cur:Array Value) (e:TypeId) (f:Nat×Nat),W.heap[E.ι id]? =some (Obj.cells cur e f)->cur.size<=L (E.ι id))->RV E W a v->fresh G k a=true->RV (fM L) W (cR G k a) v
 |0,a,v,_,r,h=>JX r h
 |k+1,a,v,nO,r,h=>by
  have hl:∀(xs:List AV) (vs:List Value),(∀id∈xs.flatMap (gZ G k),(G id).isSome=true->E.U id->∀(cur:Array Value) (e:TypeId) (f:Nat×Nat),W.heap[E.ι id]? =some (Obj.cells cur e f)->cur.size<=L (E.ι id))->(∀(i:Nat) x v,xs[i]? =some x->vs[i]? =some v->RV E W x v)->(∀x∈xs,fresh G k x=true)->∀(i:Nat) x v,(xs.map (cR G k))[i]? =some x->vs[i]? =some v->RV (fM L) W x v:=fun xs vs ho hr hn i x v hx hv=>by
   rw[gE]at hx;obtain⟨y,hy,rfl⟩:=map_some hx;exact Ex hG k (fun id aB=>ho id (tJ.2 ⟨y,eS hy,aB⟩)) (hr i y v hy hv) (hn y (eS hy))
  have bH:∀{rows:List (List AV)} {i j:Nat} {row:List AV} {x:AV},(rows.map fun row=>row.map (cR G k))[i]? =some row->row[j]? =some x->∃jZ x0,rows[i]? =some jZ/\jZ[j]? =some x0/\x=cR G k x0/\row.length=jZ.length:=fun{rows i j row x} h1 h2=>by
   rw[gE]at h1;obtain⟨jZ,h3,rfl⟩:=map_some h1;rw[gE]at h2;obtain⟨x0,h4,rfl⟩:=map_some h2;exact⟨jZ,x0,h3,h4,rfl,by simp⟩
  have hlen:∀{rows:List (List AV)} {s i:Nat} {row:List AV},(∀(i:Nat) row,rows[i]? =some row->row.length=s)->(rows.map fun row=>row.map (cR G k))[i]? =some row->row.length=s:=fun{rows s i row} h0 h1=>by
   rw[gE]at h1;obtain⟨jZ,h3,rfl⟩:=map_some h1;simpa using h0 i jZ h3
  cases a with
  |own id off len=>
   simp only[cR];simp only[fresh]at h;split at h
   ·rename_i rows rd dB
    have Y7:∀(i j:Nat) row x,rows[i]? =some row->row[j]? =some x->fresh G k x=true:=fun i j row x h1 h2=>gK.1 (gK.1 h row (eS h1)) x (eS h2)
    have Qn:∀(i j:Nat) row x,rows[i]? =some row->row[j]? =some x->∀id∈gZ G k x,(G id).isSome=true->E.U id->∀(cur:Array Value) (e:TypeId) (f:Nat×Nat),W.heap[E.ι id]? =some (Obj.cells cur e f)->cur.size<=L (E.ι id):=fun i j row x h1 h2 aM aB=>nO aM (by
     simp only[gZ,dB]
     exact OB _ (tJ.2 ⟨row,eS h1,tJ.2 ⟨x,eS h2,aB⟩⟩))
    have hU:=(wO r).1;rcases(wO r).2 with⟨cap,hv,eC,DY,e0,f0,lF,XR⟩|⟨oZ,a0,hv⟩
    ·subst hv
     simp only[rowsOf]at dB;split at dB
     ·rename_i e s fH w ap bU
      split at dB
      ·rename_i hle
       simp only[bC,cD]at dB;obtain⟨rfl,rfl⟩:=dB;obtain⟨_,kZ,NB,⟨cur,cK,qV,eX⟩,_,_⟩:=hG.ok id _ bU;rw[cK]at lF;injection lF with lF
       injection lF with lF N3 N4
       subst lF;subst N3;subst N4;have HT:=nO id (by simp only[gZ];exact Z7 ..) (by rw[bU];rfl) hU cur e (0,0) cK
       have v8:∀(i:Nat) row,((fH.drop off).take len)[i]? =some row->fH[off+i]? =some row:=fun i row hr=>by
        rw[gU]at hr;split at hr
        ·rwa[mF]at hr
        ·cases hr
       have zA:((fH.drop off).take len).length=len:=by simp;omega
       have hmul:(off+len)*s<=fH.length*s:=nN s hle;refine .snap _ (E.ι id) (off*E.sz id) s len cap (fun i j=>cur.getD ((off+i)*s+j) undef) (by rw[l4];exact zA.symm) eC (fun i row hr=>hlen (fun i row hr=>NB _ row (v8 i row hr)) hr) ?_ (fun i j row x h1 h2=> ?_) (fun i j row x h1 h2=> ?_)
       ·rw[l4,zA,kZ,<-oW];simp only[fM];omega
       ·obtain⟨jZ,x0,h5,h6,rfl,_⟩:=bH h1 h2
        obtain⟨u,h3,h4⟩:=eX _ j jZ x0 (v8 i jZ h5) h6;rw[cell_of_row W _ _ cur e (0,0) cK,kZ];have he:off*s+(i*s+j)=(off+i)*s+j:=by rw[oW];omega
        rw[he,h3];simp[h3]
       ·obtain⟨jZ,x0,h5,h6,rfl,_⟩:=bH h1 h2
        obtain⟨u,h3,h4⟩:=eX _ j jZ x0 (v8 i jZ h5) h6;simp only[KI,h3,vZ];exact Ex hG k (Qn i j jZ x0 h5 h6) h4 (Y7 i j jZ x0 h5 h6)
      ·cases dB
     ·cases dB
    ·subst oZ;subst hv
     have:rows=[]:=by
      simp only[rowsOf]at dB;split at dB
      ·split at dB
       ·simp at dB;exact dB.1
       ·cases dB
      ·cases dB
     subst this;exact .lV _ _
   ·cases h
  |ptr id i o=>
   simp only[cR];simp only[fresh]at h;split at h
   ·rename_i e s rows w ap bU
    have Y7:∀(i j:Nat) row x,rows[i]? =some row->row[j]? =some x->fresh G k x=true:=fun i j row x h1 h2=>gK.1 (gK.1 h row (eS h1)) x (eS h2)
    have Qn:∀(i j:Nat) row x,rows[i]? =some row->row[j]? =some x->∀id∈gZ G k x,(G id).isSome=true->E.U id->∀(cur:Array Value) (e:TypeId) (f:Nat×Nat),W.heap[E.ι id]? =some (Obj.cells cur e f)->cur.size<=L (E.ι id):=fun i' j row x h1 h2 aM aB=>nO aM (by
     simp only[gZ,bU]
     exact OB _ (tJ.2 ⟨row,eS h1,tJ.2 ⟨x,eS h2,aB⟩⟩))
    cases r with
    |ptr _ _ _ hU=>
    obtain⟨_,kZ,NB,⟨cur,cK,qV,eX⟩,_,_⟩:=hG.ok id _ bU;have HT:=nO id (by simp only[gZ];exact Z7 ..) (by rw[bU];rfl) hU cur e (0,0) cK
    have:=RV.dD (E:=fM L) (W:=W) (rows.map fun row=>row.map (cR G k)) i o (E.ι id) 0 s (fun i j=>cur.getD (i*s+j) undef) (fun i row hr=>hlen NB hr) (by rw[l4];simp only[fM];omega) (fun i j row x h1 h2=>by
     obtain⟨jZ,x0,h5,h6,rfl,_⟩:=bH h1 h2;obtain⟨u,h3,h4⟩:=eX i j jZ x0 h5 h6;rw[cell_of_row W _ _ cur e (0,0) cK,pJ,h3];simp[h3]) (fun i j row x h1 h2=>by
     obtain⟨jZ,x0,h5,h6,rfl,_⟩:=bH h1 h2;obtain⟨u,h3,h4⟩:=eX i j jZ x0 h5 h6;simp only[KI,h3,vZ]
     exact Ex hG k (Qn i j jZ x0 h5 h6) h4 (Y7 i j jZ x0 h5 h6))
    rw[kZ];simpa using this
   ·cases h
  |agg xs=>
   simp only[cR];simp only[fresh,gK]at h;cases r with
   |agg _ vs u4 hr=>
   exact .agg _ vs (by simpa using u4) fun i x v hx hv=>hl xs vs.toList (fun id aB=>nO id (by simp only[gZ];exact aB)) (fun i x v hx hv=>hr i x v hx (by simpa using hv)) h i x v hx (by simpa using hv)
  |aU xs=>
   simp only[cR];simp only[fresh,gK]at h;cases r with
   |aU _ vs u4 hr=>
   exact .aU _ vs (by simpa using u4) fun i x v hx hv=>hl xs vs.toList (fun id aB=>nO id (by simp only[gZ];exact aB)) (fun i x v hx hv=>hr i x v hx (by simpa using hv)) h i x v hx (by simpa using hv)
  |fn f xs ys=>
   simp only[cR];simp only[fresh,k6,gK]at h;cases r with
   |fn _ _ _ vf vc yU cW hr nC=>
   exact .fn _ _ _ vf vc (by simpa using yU) (by simpa using cW) (fun i x v hx hv=>hl xs vf.toList (fun id aB=>nO id (by simp only[gZ];exact wB _ aB)) (fun i x v hx hv=>hr i x v hx (by simpa using hv)) h.1 i x v hx (by simpa using hv)) (fun i x v hx hv=>hl ys vc.toList (fun id aB=>nO id (by simp only[gZ];exact uE _ aB)) (fun i x v hx hv=>nC i x v hx (by simpa using hv)) h.2 i x v hx (by simpa using hv))
  |c x=>exact JX r h
  |snap rows=>exact JX r h
  |dD rows i o=>exact JX r h
  |sub=>exact JX r h
  |omap=>exact JX r h
  |kH=>exact JX r h
def tL(P:Program)(n:FuncId)(args:List AV)(a:AV):Prop:=
 rD P n=true/\∀(L:Nat->Nat) (W:World) (vs:List Value),(∀b,W.heap.size<=b->L b=0)->bX (fM L) W args vs->
  Calls P n vs.toArray W fun e W'=>∃v,e= .returned v/\∃L',Below W.heap.size W W'/\(∀b,b<W.heap.size->L' b=0)/\(∀b,W'.heap.size<=b->L' b=0)/\RV (fM L') W' a v/\bK a
theorem tL.Hb{P:Program}{n:FuncId}{args:List AV}{a:AV}(h:eU P n args (·=a))(hk:kB a=true):tL P n args a:=
 ⟨h.1,fun L W vs hL hr=>(h.2 L W vs hL hr).mono fun e W' ⟨v,he,r,L',h1,h2,h3,h4,h5,h6⟩=>by
   subst h6
   exact⟨v,he,fun _=>0,h1,fun _ _=>rfl,fun _ _=>rfl,JX h4 hk,h5⟩⟩
theorem tL.Vk{P:Program}{n:FuncId}{args:List AV}{a:AV}(h:tL P n args a):eU P n args (·=a):=
 ⟨h.1,fun L W vs hL hr=>(h.2 L W vs hL hr).mono fun e W' ⟨v,he,L',h1,h2,h3,h4,h5⟩=>
   ⟨v,he,a,fun b=>if b<W.heap.size then L b else L' b,h1,fun b hb=>by simp[hb],fun b hb=>by
     have:=h1.size;have:¬b<W.heap.size:=by omega
     simp[this,h3 b hb],(h4.rE (L:=fun b=>if b<W.heap.size then L b else L' b) (fun b=>by
     simp only[fM];by_cases hb:b<W.heap.size
     ·rw[h2 b hb];exact iG _
     ·simp[hb]) h5),h5,rfl⟩⟩
theorem tL.az1{P:Program}{n:FuncId}{cA args:List AV}{a:AV}{G:Nat->Option aI}(k:Nat)(h:tL P n args a)(he:cA.map (cR G k)=args)(ha:∀a∈args,bK a){E:Env}{W:World}{H:Heap}(hH:RH E W H)(hG:RC E W G){vs:List Value}(hr:bX E W cA vs):
  Calls P n vs.toArray W fun e W'=>∃v,e= .returned v/\∃L',bE E W ⟨E.ι,E.sz,E.U,L'⟩ W'/\RH ⟨E.ι,E.sz,E.U,L'⟩ W' H/\RV ⟨E.ι,E.sz,E.U,L'⟩ W' a v:=by
 have dP:∀b,W.heap.size<=b->max (E.L b) (match W.heap[b]? with|some (.cells cur _ _)=>cur.size|_=>0)=0:=fun b hb=>by
  rw[hH.core.lim b hb,O5 hb];rfl
 refine(h.2 (fun b=>max (E.L b) (match W.heap[b]? with|some (.cells cur _ _)=>cur.size|_=>0)) W vs dP ?_).mono fun e W' ⟨v,vV,L',hb,h2,h3,h4,h5⟩=> ?_
 ·subst he
  refine⟨by simpa using hr.1,fun i x v hx hv=> ?_⟩
  have eY:=ha x (eS hx);rw[gE]at hx;obtain⟨y,hy,rfl⟩:=map_some hx;refine NA hG (fun b=>Nat.le_max_left _ _) (fun id hU cur e f hc=> ?_) k (hr.2 i y v hy hv) eY
  simp only[hc];exact Nat.le_max_right _ _
 ·subst vV
  have bG:∀b k,k<E.L b->b<W.heap.size:=fun b k hk=>by
   rcases oA b W.heap.size with h|h
   ·exact h
   ·have:=hH.core.lim b h;omega
  refine⟨v,rfl,fun b=>if b<W.heap.size then E.L b else L' b,?_⟩
  have JB:∀b,b<W.heap.size->(if b<W.heap.size then E.L b else L' b)=E.L b:=fun b hb=>if_pos hb
  have hv:bE E W ⟨E.ι,E.sz,E.U,fun b=>if b<W.heap.size then E.L b else L' b⟩ W':=by
   refine⟨hb.os,hb.tape,hb.output,hb.size,fun _ h=>h,fun _ _=>⟨rfl,rfl⟩,fun b=> ?_,fun b k hk=>hb.cell (p:=⟨b,k,none⟩) (bG b k hk),fun b bY _=>hb.block b bY,fun b cur e f hc=> ?_,fun b bY _=>JB b bY,fun id h h'=>absurd h' h,fun b r h=>⟨r,by rw[hb.block b (jG.1 h).1];exact h,rfl⟩⟩
   ·rcases oA b W.heap.size with h|h
    ·exact Z5 (JB b h).symm
    ·rw[hH.core.lim b h];exact iG _
   ·exact⟨cur,f,by rw[hb.block b (jG.1 hc).1];exact hc,rfl⟩
  refine⟨hv,⟨hH.next,fun b bY=> ?_,fun id hU=>vF (hH.core.eL id hU) hb.size,fun id b hg=> ?_⟩,h4.HO fun b=> ?_⟩
  ·have:=hb.size
   have hn:¬b<W.heap.size:=by omega
   simp only[hn,if_false];exact h3 b bY
  ·obtain⟨hU,dO⟩:=hH.core.ok id b hg
   have rX:=hH.core.eL id hU;exact⟨hU,dO.mono hv hU (hb.block _ rX) (JB _ rX) fun aM b' _ cL vU=>⟨b',cL,vU,rfl,fun h=>h⟩⟩
  ·by_cases bY:b<W.heap.size
   ·rw[h2 b bY];exact iG _
   ·simp[bY]
mutual
def zJ:AV->Bool
 | .c _=>true
 | .agg xs=>JY xs
 | .aU xs=>JY xs
 | .snap rows=>Y8 rows
 | .dD rows _ _=>Y8 rows
 | .fn _ xs ys=>JY xs&&JY ys
 |_=>false
def JY:List AV->Bool
 |[]=>true
 |x::r=>zJ x&&JY r
def Y8:List (List AV)->Bool
 |[]=>true
 |x::r=>JY x&&Y8 r
end
mutual
theorem az2:∀a,zJ a=true->bK a
 | .c x,_=> .c x
 | .agg xs,h=> .agg xs (S6 xs (by simpa only[zJ]using h))
 | .aU xs,h=> .aU xs (S6 xs (by simpa only[zJ]using h))
 | .snap rows,h=> .snap rows (Qo rows (by simpa only[zJ]using h))
 | .dD rows i o,h=> .dD rows i o (Qo rows (by simpa only[zJ]using h))
 | .fn f xs ys,h=>by
   simp only[zJ,k6]at h;exact .fn f xs ys (S6 xs h.1) (S6 ys h.2)
 | .own ..,h=>by simp only[zJ]at h;cases h
 | .sub ..,h=>by simp only[zJ]at h;cases h
 | .ptr ..,h=>by simp only[zJ]at h;cases h
 | .omap ..,h=>by simp only[zJ]at h;cases h
 | .kH ..,h=>by simp only[zJ]at h;cases h
theorem S6:∀xs,JY xs=true->∀x∈xs,bK x
 |[],_,x,hx=>by cases hx
 |y::r,h,x,hx=>by
  simp only[JY,k6]at h;rcases cG.1 hx with h1|h1
  ·rw[h1];exact az2 y h.1
  ·exact S6 r h.2 x h1
theorem Qo:∀rows,Y8 rows=true->∀row∈rows,∀x∈row,bK x
 |[],_,row,hx=>by cases hx
 |y::r,h,row,hx=>by
  simp only[Y8,k6]at h;rcases cG.1 hx with h1|h1
  ·rw[h1];exact S6 y h.1
  ·exact Qo r h.2 row h1
end
end Go.AL
namespace Go.AL
open Go.RowKit
def zU(aF:Nat):AV->AV
 | .own _ o n=> .own aF o n
 |a=>a
def qS(aF:Nat):AV->AV
 | .aU xs=> .aU (xs.map (zU aF))
 |a=>zU aF a
def ND(a:AV):Prop:=(∃o n,a= .own 0 o n)\/bK a
def KN(a:AV):Prop:=ND a\/∃xs,a= .aU xs/\∀x∈xs,ND x
def EO(b0 k:Nat)(L:Nat->Nat):Env:=⟨fun _=>b0,fun _=>k,fun id=>id=0,L⟩
def uF(P:Program)(n:FuncId)(args:List AV)(a:AV)(el:TypeId)(k:Nat)(rows:List (List AV))(ap:Bool):Prop:=
 rD P n=true/\∀(L:Nat->Nat) (W:World) (vs:List Value),(∀b,W.heap.size<=b->L b=0)->bX (fM L) W args vs->
  Calls P n vs.toArray W fun e W'=>∃v,e= .returned v/\KN a/\(∀(i:Nat) row,rows[i]? =some row->row.length=k)/\∃(L':Nat->Nat) (b0:Nat) (cur:Array Value),Below W.heap.size W W'/\(∀b,b<W.heap.size->L' b=0)/\(∀b,W'.heap.size<=b->L' b=0)/\W.heap.size<=b0/\L' b0=0/\
   W'.heap[b0]? =some (Obj.cells cur el (0,0))/\rows.length*k<=cur.size/\(∀(i j:Nat) row x,rows[i]? =some row->row[j]? =some x->∃u,cur[i*k+j]? =some u/\RV (fM L') W' x u)/\RV (EO b0 k L') W' a v
theorem NF{b0 k aF:Nat}{L':Nat->Nat}{E':Env}{W':World}(cY:E'.ι aF=b0)(hs:E'.sz aF=k)(hU:E'.U aF)(hL:∀b,L' b<=E'.L b){a:AV}{v:Value}(h:ND a)(r:RV (EO b0 k L') W' a v):RV E' W' (zU aF a) v:=by
 rcases h with⟨o,n,rfl⟩|h
 ·cases r with
  |own _ _ _ cap aB eC dP=>
   have:=RV.own (E:=E') (W:=W') aF o n cap hU eC (by rw[cY,hs];exact dP)
   rw[cY,hs]at this;exact this
  |mW _ _ a aB=>exact .mW _ _ _ hU
 ·have h1:RV (fM L') W' a v:=r.rE (fun _=>cE _) h
  have h2:zU aF a=a:=by cases h<;>rfl
  rw[h2];exact h1.HO hL
theorem cg8{b0 k aF:Nat}{L':Nat->Nat}{E':Env}{W':World}(cY:E'.ι aF=b0)(hs:E'.sz aF=k)(hU:E'.U aF)(hL:∀b,L' b<=E'.L b){a:AV}{v:Value}(h:KN a)(r:RV (EO b0 k L') W' a v):RV E' W' (qS aF a) v:=by
 have HU:∀xs,a= .aU xs->(∀x∈xs,ND x)->RV E' W' (qS aF a) v:=fun xs he hx=>by
  subst he;cases r with
  |aU _ vs hl hr=>
  refine .aU _ vs (by simpa using hl) fun i x v kY hv=> ?_
  rw[gE]at kY
  obtain⟨y,hy,rfl⟩:∃y,xs[i]? =some y/\zU aF y=x:=by
   cases hq:xs[i]? with
   |none=>rw[hq]at kY;cases kY
   |some y=>rw[hq]at kY;exact⟨y,rfl,by simpa using kY⟩
  exact NF cY hs hU hL (hx y (eS hy)) (hr i y v hy hv)
 rcases h with h|⟨xs,rfl,hx⟩
 ·have h0:=h
  rcases h with⟨o,n,rfl⟩|h
  ·exact NF cY hs hU hL h0 r
  ·cases h with
   |aU xs h=>exact HU xs rfl fun x hx=> .inr (h x hx)
   |c x=>exact NF cY hs hU hL h0 r
   |agg xs h=>exact NF cY hs hU hL h0 r
   |snap rows h=>exact NF cY hs hU hL h0 r
   |dD rows i o h=>exact NF cY hs hU hL h0 r
   |fn f x y h h2=>exact NF cY hs hU hL h0 r
 ·exact HU xs rfl hx
theorem uF.run{P:Program}{n:FuncId}{cA args:List AV}{a:AV}{el:TypeId}{k:Nat}{rows:List (List AV)}{ap:Bool}{G:Nat->Option aI}(kk:Nat)(h:uF P n args a el k rows ap)(he:cA.map (cR G kk)=args)(ha:∀a∈args,bK a){E:Env}{W:World}{H:Heap}{aF:Nat}(gR:¬E.U aF)(hH:RH E W H)(hG:RC E W G){vs:List Value}(hr:bX E W cA vs):
  Calls P n vs.toArray W fun e W'=>∃v,e= .returned v/\∃E',bE E W E' W'/\RC E' W' (aX H.get [(aF,some (.cells el k rows true ap))])/\RV E' W' (qS aF a) v/\∀id,E'.U id->E.U id\/id=aF:=by
 obtain⟨_,h⟩:=h
 have dP:∀b,W.heap.size<=b->max (E.L b) (match W.heap[b]? with|some (.cells cur _ _)=>cur.size|_=>0)=0:=fun b hb=>by
  rw[hH.core.lim b hb,O5 hb];rfl
 refine(h (fun b=>max (E.L b) (match W.heap[b]? with|some (.cells cur _ _)=>cur.size|_=>0)) W vs dP ?_).mono fun e W' ⟨v,vV,dO,hlen,L',b0,cur,hb,h2,h3,tP,hLb,cK,hle,eX,h4⟩=> ?_
 ·subst he
  refine⟨by simpa using hr.1,fun i x v hx hv=> ?_⟩
  have eY:=ha x (eS hx);rw[gE]at hx;obtain⟨y,hy,rfl⟩:=map_some hx;refine NA hG (fun b=>Nat.le_max_left _ _) (fun id hU cur e f hc=> ?_) kk (hr.2 i y v hy hv) eY
  simp only[hc];exact Nat.le_max_right _ _
 ·subst vV
  have bG:∀b k,k<E.L b->b<W.heap.size:=fun b k hk=>by
   rcases oA b W.heap.size with h|h
   ·exact h
   ·have:=hH.core.lim b h;omega
  have ch0:b0<W'.heap.size:=(jG.1 cK).1
  let E':Env:=⟨fun id=>if id=aF then b0 else E.ι id,fun id=>if id=aF then k else E.sz id,fun id=>E.U id\/id=aF,fun b=>if b<W.heap.size then E.L b else L' b⟩
  have cY:∀id,E.U id->E'.ι id=E.ι id:=fun id aB=>by
   show(if id=aF then _ else _)=_
   rw[if_neg];rintro rfl;exact gR aB
  have hs:∀id,E.U id->E'.sz id=E.sz id:=fun id aB=>by
   show(if id=aF then _ else _)=_
   rw[if_neg];rintro rfl;exact gR aB
  have gL:E'.ι aF=b0:=by show(if aF=aF then _ else _)=_;rw[if_pos rfl]
  have jS:E'.sz aF=k:=by show(if aF=aF then _ else _)=_;rw[if_pos rfl]
  have JB:∀b,b<W.heap.size->E'.L b=E.L b:=fun b hb=>if_pos hb
  have Qp:∀b,W.heap.size<=b->E'.L b=L' b:=fun b hb=>if_neg (by omega)
  have az3:∀b,L' b<=E'.L b:=fun b=>by
   rcases oA b W.heap.size with h|h
   ·rw[h2 b h];exact iG _
   ·exact Z5 (Qp b h).symm
  have mS:E'.L b0=0:=by rw[Qp b0 tP];exact hLb
  have xY:bE E W E' W':=by
   refine⟨hb.os,hb.tape,hb.output,hb.size,fun _ h=> .inl h,fun id aB=>⟨cY id aB,hs id aB⟩,fun b=> ?_,fun b k hk=>hb.cell (p:=⟨b,k,none⟩) (bG b k hk),fun b bY _=>hb.block b bY,fun b cur e f hc=> ?_,fun b bY _=>JB b bY,fun id h1 h2=> ?_,fun b r h=>⟨r,by rw[hb.block b (jG.1 h).1];exact h,rfl⟩⟩
   ·rcases oA b W.heap.size with h|h
    ·exact Z5 (JB b h).symm
    ·rw[hH.core.lim b h];exact iG _
   ·exact⟨cur,f,by rw[hb.block b (jG.1 hc).1];exact hc,rfl⟩
   ·rcases h2 with h2|h2
    ·exact absurd h2 h1
    ·subst h2;rw[gL];exact .inl tP
  have yT:∀id,E.U id->E'.ι id≠b0:=fun id aB heq=>by
   rw[cY id aB]at heq;have:=hH.core.eL id aB;omega
  refine⟨v,rfl,E',xY,⟨fun b bY=> ?_,fun id aB=> ?_,fun id b hg=> ?_⟩,cg8 gL jS (.inr rfl) az3 dO h4,fun id h=>h⟩
  ·have:=hb.size
   rw[Qp b (by omega)]
   exact h3 b bY
  ·rcases aB with aB|aB
   ·rw[cY id aB];exact vF (hH.core.eL id aB) hb.size
   ·subst aB;rw[gL];exact ch0
  ·simp only[aX]at hg
   by_cases aB:id=aF
   ·subst aB
    rw[if_pos rfl]at hg;injection hg with hg
    subst hg;refine⟨.inr rfl,jS,hlen,⟨cur,by rw[gL];exact cK,hle,fun i' j row x h1 h2=> ?_⟩,fun _=>⟨by rw[gL];exact mS,fun aM b' aJ cL heq=> ?_⟩,fun _=>⟨by rw[gL,mS];exact iG _,fun aM b' aJ cL heq=> ?_⟩⟩
    ·obtain⟨u,h3,h4⟩:=eX i' j row x h1 h2
     exact⟨u,h3,h4.HO az3⟩
    ·rw[gL]at heq
     simp only[aX,if_neg aJ]at cL;exact yT aM (hH.core.ok aM b' cL).1 heq
    ·rw[gL]at heq
     simp only[aX,if_neg aJ]at cL;exact absurd heq (yT aM (hH.core.ok aM b' cL).1)
   ·rw[if_neg aB]at hg
    obtain⟨hU,dO⟩:=hH.core.ok id b hg;have rX:=hH.core.eL id hU;refine⟨.inl hU,dO.mono xY hU (hb.block _ rX) (JB _ rX) fun aM b' aJ cL heq=> ?_⟩
    simp only[aX]at cL;by_cases uR:aM=aF
    ·subst uR
     rw[gL]at heq;omega
    ·rw[if_neg uR]at cL
     exact⟨b',cL,by rw[<-heq,cY aM (hH.core.ok aM b' cL).1],rfl,fun h=>h⟩
def FT(G:Nat->Option aI)(kk j:Nat)(x:AV):Option AV:=
 if fresh G kk x&&zJ (cR G kk x)&& !(gZ G kk x).contains j then some (cR G kk x)else none
def JZ(G:Nat->Option aI)(kk j:Nat):AV->Option AV
 | .own i o n=>cond (Nat.beq i j) (some (.own 0 o n)) (FT G kk j (.own i o n))
 |x=>FT G kk j x
def Y9(G:Nat->Option aI)(kk j:Nat):List AV->Option (List AV)
 |[]=>some []
 |x::r=>match JZ G kk j x,Y9 G kk j r with
  |some a,some l=>some (a::l)
  |_,_=>none
def Ey(G:Nat->Option aI)(kk j:Nat):AV->Option AV
 | .aU xs=>match Y9 G kk j xs with
   |some l=>some (.aU l)
   |none=>none
 |a=>JZ G kk j a
def az4:List AV->Option Nat
 |[]=>none
 | .own j _ _::_=>some j
 |_::r=>az4 r
def az5:AV->Option Nat
 | .own j _ _=>some j
 | .aU xs=>az4 xs
 |_=>none
def K0(G:Nat->Option aI)(kk j:Nat):List AV->Option (List AV)
 |[]=>some []
 |x::r=>match FT G kk j x,K0 G kk j r with
  |some a,some l=>some (a::l)
  |_,_=>none
def NG(G:Nat->Option aI)(kk j:Nat):List (List AV)->Option (List (List AV))
 |[]=>some []
 |x::r=>match K0 G kk j x,NG G kk j r with
  |some a,some l=>some (a::l)
  |_,_=>none
structure FO where
 a:AV
 el:TypeId
 k:Nat
 rows:List (List AV)
 ap:Bool
def Qq(G:Nat->Option aI)(kk j:Nat)(r:AV):Option aI->Option FO
 |some (.cells el k lG true ap)=>match NG G kk j lG,Ey G kk j r with
  |some rows,some a=>some ⟨a,el,k,rows,ap⟩
  |_,_=>none
 |_=>none
def Qr(G:Nat->Option aI)(kk:Nat)(r:AV):Option FO:=
 match az5 r with
 |some j=>Qq G kk j r (G j)
 |none=>none
section
variable {G : Nat -> Option aI} {kk j : Nat}
theorem az6{x y:AV}(h:FT G kk j x=some y):y=cR G kk x/\fresh G kk x=true/\bK y/\j∉gZ G kk x:=by
 unfold FT at h;split at h
 ·rename_i hc
  simp only[k6,aG4]at hc;injection h with h
  subst h;exact⟨rfl,hc.1.1,az2 _ hc.1.2,by simpa using hc.2⟩
 ·cases h
theorem Qs:∀{xs ys:List AV},K0 G kk j xs=some ys->ys.length=xs.length/\∀(i:Nat) y,ys[i]? =some y->∃x,xs[i]? =some x/\FT G kk j x=some y
 |[],ys,h=>by simp only[K0,bC]at h;subst h;exact⟨rfl,fun i y h=>by simp at h⟩
 |x::r,ys,h=>by
  simp only[K0]at h;split at h
  ·rename_i a l ha hl
   injection h with h
   subst h;obtain⟨h1,h2⟩:=Qs hl;refine⟨by simp[h1],fun i y hy=> ?_⟩
   cases i with
   |zero=>simp at hy;subst hy;exact⟨x,rfl,ha⟩
   |succ i=>obtain⟨x',h3,h4⟩:=h2 i y (by simpa using hy);exact⟨x',by simpa using h3,h4⟩
  ·cases h
theorem Ez:∀{xs ys:List (List AV)},NG G kk j xs=some ys->ys.length=xs.length/\∀(i:Nat) y,ys[i]? =some y->∃x,xs[i]? =some x/\K0 G kk j x=some y
 |[],ys,h=>by simp only[NG,bC]at h;subst h;exact⟨rfl,fun i y h=>by simp at h⟩
 |x::r,ys,h=>by
  simp only[NG]at h;split at h
  ·rename_i a l ha hl
   injection h with h
   subst h;obtain⟨h1,h2⟩:=Ez hl;refine⟨by simp[h1],fun i y hy=> ?_⟩
   cases i with
   |zero=>simp at hy;subst hy;exact⟨x,rfl,ha⟩
   |succ i=>obtain⟨x',h3,h4⟩:=h2 i y (by simpa using hy);exact⟨x',by simpa using h3,h4⟩
  ·cases h
theorem Fa:∀{xs ys:List AV},Y9 G kk j xs=some ys->ys.length=xs.length/\∀(i:Nat) y,ys[i]? =some y->∃x,xs[i]? =some x/\JZ G kk j x=some y
 |[],ys,h=>by simp only[Y9,bC]at h;subst h;exact⟨rfl,fun i y h=>by simp at h⟩
 |x::r,ys,h=>by
  simp only[Y9]at h;split at h
  ·rename_i a l ha hl
   injection h with h
   subst h;obtain⟨h1,h2⟩:=Fa hl;refine⟨by simp[h1],fun i y hy=> ?_⟩
   cases i with
   |zero=>simp at hy;subst hy;exact⟨x,rfl,ha⟩
   |succ i=>obtain⟨x',h3,h4⟩:=h2 i y (by simpa using hy);exact⟨x',by simpa using h3,h4⟩
  ·cases h
theorem az7{x y:AV}(h:JZ G kk j x=some y):(∃o n,x= .own j o n/\y= .own 0 o n)\/FT G kk j x=some y:=by
 unfold JZ at h;split at h
 ·rename_i i o n
  cases hb:Nat.beq i j with
  |true=>
   rw[hb]at h;have:=Nat.eq_of_beq_eq_true hb;subst this;simp only[cond]at h;injection h with h
   exact .inl ⟨o,n,rfl,h.symm⟩
  |false=>rw[hb]at h;exact .inr h
 ·exact .inr h
theorem az8{x y:AV}(h:JZ G kk j x=some y):ND y:=by
 rcases az7 h with⟨o,n,_,rfl⟩|h
 ·exact .inl ⟨o,n,rfl⟩
 ·exact .inr (az6 h).2.2.1
end
theorem ch1(kk:Nat){P:Program}{n:FuncId}{fn:Func}{c:Code}{args:List AV}{f:FO}(hf:P.funcs[n]? =some fn)(hb:fn.body=some c)(fI:(fn.name== "runtime.NumGoroutine")=false)(hlen:args.length<=fn.ntmps)
  (hA:fU P n args ⟨0,cV []⟩ fun r H'=>Qr H'.get kk r=some f):uF P n args f.a f.el f.k f.rows f.ap:=by
 refine⟨hA.1,fun L W vs hL hr=> ?_⟩
 have mA:RH (fM L) W ⟨0,cV []⟩:=⟨fun id h=>h.elim,hL,fun id h=>h.elim,fun id b h=>by cases h⟩
 refine(hA.2 (fM L) W vs mA hr).mono fun e W' ⟨v,he,E',r,H',hv,hH,iF,h⟩=> ?_
 simp only[]at h;unfold Qr at h;split at h
 case h_2=>cases h
 rename_i j hj;unfold Qq at h;split at h
 case h_2=>cases h
 rename_i el k lG ap hg;split at h
 case h_2=>cases h
 rename_i rows a dB ha;injection h with h
 subst h;obtain⟨hU,kZ,XE,⟨cur,cK,hle,eX⟩,hw,_⟩:=hH.core.ok j _ hg;obtain⟨mS,ch2⟩:=hw rfl
 have nP:∀id,E'.U id->W.heap.size<=E'.ι id:=fun id aB=>by
  rcases hv.fresh id (fun h=>h) aB with h1|⟨tH,h1,_⟩
  ·exact h1
  ·exact h1.elim
 let L':Nat->Nat:=fun b=>if b<W.heap.size then 0 else if b=E'.ι j then 0 else(match W'.heap[b]? with|some (.cells cur _ _)=>cur.size|_=>0)
 have hLj:L' (E'.ι j)=0:=by
  show(if _ then 0 else if _ then 0 else _)=0
  rw[if_pos rfl];split<;>rfl
 have az9:∀{x y u},FT H'.get kk j x=some y->RV E' W' x u->RV (fM L') W' y u:=fun{x y u} hd hx=>by
  obtain⟨rfl,Y7,_,hnj⟩:=az6 hd;refine Ex hH.core kk (fun id aB hs DI HM e2 f2 sS=> ?_) hx Y7
  have aJ:id≠j:=fun h=>hnj (h▸aB)
  obtain⟨b',bY⟩:=Gh.1 hs;have h1:=ch2 id b' aJ bY;have h2:¬E'.ι id<W.heap.size:=by have:=nP id DI;omega
  show _<=(if _ then 0 else if _ then 0 else _)
  rw[if_neg h2,if_neg h1,sS];exact cE _
 have aA0:∀{x y u},JZ H'.get kk j x=some y->RV E' W' x u->RV (EO (E'.ι j) k L') W' y u:=fun{x y u} hd hx=>by
  rcases az7 hd with⟨o,n,rfl,rfl⟩|hd
  ·rcases(wO hx).2 with⟨cap,rfl,eC,HM,e2,f2,h4,h5⟩|⟨oZ,a,rfl⟩
   ·have:=RV.own (E:=EO (E'.ι j) k L') (W:=W') 0 o n cap rfl eC ⟨HM,e2,f2,h4,by rw[kZ]at h5;exact h5⟩
    rw[kZ];exact this
   ·subst oZ;exact .mW _ _ _ rfl
  ·exact(az9 hd hx).HO fun _=>cE _
 have dO:KN a/\(∀(i:Nat) row,rows[i]? =some row->row.length=k):=by
  refine⟨?_,fun i row hi=> ?_⟩
  ·unfold Ey at ha
   split at ha
   ·rename_i xs
    split at ha
    ·rename_i l hl
     injection ha with ha
     subst ha;refine .inr ⟨l,rfl,fun x hx=> ?_⟩
     obtain⟨i,hi⟩:=FY.1 hx;obtain⟨y,_,h2⟩:=(Fa hl).2 i x hi;exact az8 h2
    ·cases ha
   ·exact .inl (az8 ha)
  ·obtain⟨jZ,h1,h2⟩:=(Ez dB).2 i row hi
   rw[(Qs h2).1];exact XE i jZ h1
 refine⟨v,he,dO.1,dO.2,L',E'.ι j,cur,⟨hv.os,hv.tape,hv.output,hv.size,fun k hk=>hv.tZ k hk fun id h=>h.elim⟩,fun b bY=>if_pos bY,fun b bY=> ?_,nP j hU,hLj,cK,by rw[(Ez dB).1];exact hle,fun i j' row x h1 h2=> ?_,?_⟩
 ·have:=hv.size
  show(if _ then 0 else if _ then 0 else _)=0
  rw[if_neg (by omega),O5 bY]
  split<;>rfl
 ·obtain⟨jZ,h3,h4⟩:=(Ez dB).2 i row h1
  obtain⟨x0,h5,h6⟩:=(Qs h4).2 j' x h2;obtain⟨u,h7,h8⟩:=eX i j' jZ x0 h3 h5;exact⟨u,h7,az9 h6 h8⟩
 ·simp only[]
  unfold Ey at ha;split at ha
  ·rename_i xs
   split at ha
   ·rename_i l hl
    injection ha with ha
    subst ha;cases iF with
    |aU _ vs' u4 cZ=>
    refine .aU _ vs' (by rw[(Fa hl).1];exact u4) fun i y u hy hu=> ?_
    obtain⟨x,h1,h2⟩:=(Fa hl).2 i y hy;exact aA0 h2 (cZ i x u h1 hu)
   ·cases ha
  ·exact aA0 ha iF
def K1:Option aI->Bool
 |some (.cells _ _ _ w _)=>w
 |_=>false
theorem ch6{b:Option aI}(h:K1 b=false):qN b=b:=by
 unfold K1 at h;split at h
 ·subst h;rfl
 ·rename_i hn
  unfold qN;split
  ·rename_i e s rows w a;exact absurd rfl (hn _ _ _ _ _)
  ·rfl
theorem Qt(F:Nat->Option aI):∀(ids:List Nat) (G:Nat->Option aI) (k:Nat),aX G (ids.map fun id=>(id,F id)) k=if k∈ids then F k else G k
 |[],G,k=>by simp[aX]
 |i::r,G,k=>by
  simp only[gJ,aX];rw[Qt F r];by_cases h:k∈r
  ·simp[h]
  ·by_cases hi:k=i
   ·subst hi;simp[h]
   ·simp[h,hi]
theorem ch7(ids:List Nat)(G:Nat->Option aI):u9 G ids=aX G ((ids.filter fun id=>K1 (G id)).map fun id=>(id,qN (G id))):=by
 rw[Et]
 funext k
 rw[Qt (fun id=>qN (G id)),Qt (fun id=>qN (G id))]
 by_cases h:k∈ids
 ·by_cases hu:K1 (G k)=true
  ·simp[h,hu]
  ·have YA:K1 (G k)=false:=by simpa using hu
   simp[h,YA,ch6 YA]
 ·simp[h]
end Go.AL
namespace Go.AL
open Go.RowKit
def D3(P:Program)(n:FuncId)(args:List AV)(a:AV)(e:TypeId)(k:Nat)(rows:List (List AV)):Prop:=
 rD P n=true/\∀(E:Env) (W:World) (G:Nat->Option aI) (aF:Nat) (vs:List Value),RC E W G->¬E.U aF->bX E W args vs->
  Calls P n vs.toArray W fun x W'=>∃v,x= .returned v/\∃E',bE E W E' W'/\RC E' W' (aX G [(aF,some (.cells e k rows true true))])/\RV E' W' (qS aF a) v/\∀id,E'.U id->E.U id\/id=aF
theorem NH{E1 E':Env}{W':World}{i aF:Nat}(cY:E'.ι aF=E1.ι i)(hs:E'.sz aF=E1.sz i)(hU:E'.U aF)(eY:∀{x u},RV E1 W' x u->bK x->RV E' W' x u){a:AV}{v:Value}(h:ND a)(r:RV E1 W' (zU i a) v):RV E' W' (zU aF a) v:=by
 rcases h with⟨o,n,rfl⟩|h
 ·cases r with
  |own _ _ _ cap aB eC dP=>
   have:=RV.own (E:=E') (W:=W') aF o n cap hU eC (by rw[cY,hs];exact dP)
   rw[cY,hs]at this;exact this
  |mW _ _ a aB=>exact .mW _ _ _ hU
 ·have h1:zU i a=a:=by cases h<;>rfl
  have h2:zU aF a=a:=by cases h<;>rfl
  rw[h1]at r;rw[h2];exact eY r h
theorem ch8{E1 E':Env}{W':World}{i aF:Nat}(cY:E'.ι aF=E1.ι i)(hs:E'.sz aF=E1.sz i)(hU:E'.U aF)(eY:∀{x u},RV E1 W' x u->bK x->RV E' W' x u){a:AV}{v:Value}(h:KN a)(r:RV E1 W' (qS i a) v):RV E' W' (qS aF a) v:=by
 have HU:∀xs,a= .aU xs->(∀x∈xs,ND x)->RV E' W' (qS aF a) v:=fun xs he hx=>by
  subst he;cases r with
  |aU _ vs hl hr=>
  refine .aU _ vs (by simpa using hl) fun j x v kY hv=> ?_
  rw[gE]at kY
  obtain⟨y,hy,rfl⟩:∃y,xs[j]? =some y/\zU aF y=x:=by
   cases hq:xs[j]? with
   |none=>rw[hq]at kY;cases kY
   |some y=>rw[hq]at kY;exact⟨y,rfl,by simpa using kY⟩
  exact NH cY hs hU eY (hx y (eS hy)) (hr j (zU i y) v (by rw[gE,hy];rfl) hv)
 rcases h with h|⟨xs,rfl,hx⟩
 ·have h0:=h
  rcases h with⟨o,n,rfl⟩|h
  ·exact NH cY hs hU eY h0 r
  ·cases h with
   |aU xs h=>exact HU xs rfl fun x hx=> .inr (h x hx)
   |c x=>exact NH cY hs hU eY h0 r
   |agg xs h=>exact NH cY hs hU eY h0 r
   |snap rows h=>exact NH cY hs hU eY h0 r
   |dD rows i o h=>exact NH cY hs hU eY h0 r
   |fn f x y h h2=>exact NH cY hs hU eY h0 r
 ·exact HU xs rfl hx
theorem D3.run{P:Program}{n:FuncId}{args:List AV}{a:AV}{e:TypeId}{k:Nat}{rows:List (List AV)}(h:D3 P n args a e k rows){H:Heap}:
  fU P n args H fun r H'=>r=qS H.next a/\H'=⟨H.next+1,aX H.get [(H.next,some (.cells e k rows true true))]⟩:=
 ⟨h.1,fun E W vs hH hr=>(h.2 E W H.get H.next vs hH.core (fun hU=>KE _ (hH.next _ hU)) hr).mono fun x W' ⟨v,he,E',h1,h2,h3,h4⟩=>
   ⟨v,he,E',_,_,h1,⟨fun id aB=>by
     rcases h4 id aB with h5|h5
     ·exact TM (hH.next id h5)
     ·subst h5;exact G3 _,h2⟩,h3,rfl,rfl⟩⟩
end Go.AL
namespace Go.AL
open Go.RowKit
structure Entry where
 c:Bool
 a:AV
 wr:List (Nat×Option aI)
 rd:List Nat
def mZ(ops:List Oper)(o:Oper)(σ:AS)(c:Bool):Prop:=
 match o.guard with
 |none=>c=true
 |some (j,want)=>qL (pT ops j σ.env) want=some c
def AB(P:Program)(n:FuncId)(args:List AV)(id:Nat)(qO:TypeId)(k0:Nat)(lG:List (List AV))(el:TypeId)(k:Nat)(rows:List (List AV)):Prop:=
 rD P n=true/\∀(E:Env) (W:World) (G:Nat->Option aI) (aF:Nat) (vs:List Value),RC E W G->G id=some (.cells qO k0 lG true true)->¬E.U aF->bX E W args vs->
  Calls P n vs.toArray W fun e W'=>∃v,e= .returned v/\∃E',bE E W E' W'/\RC E' W' (aX G [(id,none),(aF,some (.cells el k rows true true))])/\RV E' W' (.own aF 0 rows.length) v/\∀aM,E'.U aM->E.U aM\/aM=aF
theorem ch9(G:Nat->Option aI)(a b:List (Nat×Option aI)):aX G (a++b)=aX (aX G a) b:=by
 induction a generalizing G with
 |nil=>rfl
 |cons x a ih=>exact ih _
inductive E9 (P:Program) (ops:List Oper) (o:Oper) (σ:AS) (aF:Nat) (e:Entry):Prop
 |call (f:Operand) (as:Array Operand) (ts:Array TypeId) (n:FuncId) (args:List AV) (aO:o.op= .call ⟨.value f,as,ts⟩) (hg:mZ ops o σ e.c) (hc:fZ (σ.get e.c f) (dZ (σ.get e.c) as.toList)=some (n,args))
   (hp:e.c=true->(∀a∈args,bK a)/\eU P n args (·=e.a)) (hw:e.wr=[])
 |pick (x0 x y:Operand) (b p q:Bool) (aO:o.op= .pick x0 x y) (hg:mZ ops o σ e.c) (hb:kU (σ.get e.c x0)=some b) (pR:B5 (kU (σ.get (e.c&&b) x)) (kU (σ.get (e.c&& !b) y))=some (p,q)) (ha:e.a= .c (.bool (cond b p q))) (hw:e.wr=[])
 |RQ (f:Operand) (as:Array Operand) (ts:Array TypeId) (n:FuncId) (args:List AV) (el:TypeId) (k:Nat) (rows:List (List AV)) (aO:o.op= .call ⟨.value f,as,ts⟩) (hg:mZ ops o σ e.c) (dH:e.c=true) (hc:fZ (σ.get true f) (dZ (σ.get true) as.toList)=some (n,args))
   (hp:sC P n args el k rows) (ha:e.a= .own aF 0 rows.length) (hw:e.wr=[(aF,some (.cells el k rows true true))])
 |Fb (f:Operand) (as:Array Operand) (ts:Array TypeId) (n:FuncId) (args:List AV) (id:Nat) (qO:TypeId) (k0:Nat) (lG:List (List AV)) (el:TypeId) (k:Nat) (rows:List (List AV)) (aO:o.op= .call ⟨.value f,as,ts⟩) (hg:mZ ops o σ e.c) (dH:e.c=true) (hc:fZ (σ.get true f) (dZ (σ.get true) as.toList)=some (n,args))
   (k8:σ.H.get id=some (.cells qO k0 lG true true)) (hp:AB P n args id qO k0 lG el k rows) (ha:e.a= .own aF 0 rows.length) (hw:e.wr=[(id,none),(aF,some (.cells el k rows true true))]) (dS:id∈e.rd)
 |Fc (f:Operand) (as:Array Operand) (ts:Array TypeId) (n:FuncId) (args:List AV) (a:AV) (el:TypeId) (k:Nat) (rows:List (List AV)) (aO:o.op= .call ⟨.value f,as,ts⟩) (hg:mZ ops o σ e.c) (dH:e.c=true) (hc:fZ (σ.get true f) (dZ (σ.get true) as.toList)=some (n,args))
   (hp:D3 P n args a el k rows) (ha:e.a=qS aF a) (hw:e.wr=[(aF,some (.cells el k rows true true))])
 |Ep (f:Operand) (as:Array Operand) (ts:Array TypeId) (n:FuncId) (cA args:List AV) (aO:o.op= .call ⟨.value f,as,ts⟩) (hg:mZ ops o σ e.c) (dH:e.c=true) (hc:fZ (σ.get true f) (dZ (σ.get true) as.toList)=some (n,cA))
   (he:cA.map (o0 σ.H.get)=args) (eY:∀a∈args,bK a) (hp:eU P n args (·=e.a)) (hw:e.wr=((mC nD cA).map fun id=>(id,qN (σ.H.get id)))\/e.wr=((mC nD cA).filter fun id=>K1 (σ.H.get id)).map fun id=>(id,qN (σ.H.get id))) (dS:∀id∈mC nD cA,id∈e.rd)
 |Fe (f:Operand) (as:Array Operand) (ts:Array TypeId) (n:FuncId) (cA args:List AV) (el:TypeId) (k:Nat) (rows:List (List AV)) (aO:o.op= .call ⟨.value f,as,ts⟩) (hg:mZ ops o σ e.c) (dH:e.c=true) (hc:fZ (σ.get true f) (dZ (σ.get true) as.toList)=some (n,cA))
   (he:cA.map (o0 σ.H.get)=args) (hp:sC P n args el k rows) (ha:e.a= .own aF 0 rows.length) (hw:e.wr=((mC nD cA).map fun id=>(id,qN (σ.H.get id)))++[(aF,some (.cells el k rows true true))]) (dS:∀id∈mC nD cA,id∈e.rd)
 |S7 (f:Operand) (as:Array Operand) (ts:Array TypeId) (n:FuncId) (cA args:List AV) (k:Nat) (aO:o.op= .call ⟨.value f,as,ts⟩) (hg:mZ ops o σ e.c) (dH:e.c=true) (hc:fZ (σ.get true f) (dZ (σ.get true) as.toList)=some (n,cA))
   (he:cA.map (cR σ.H.get k)=args) (eY:∀a∈args,bK a) (hp:tL P n args e.a) (hw:e.wr=[]) (dS:∀x∈cA,∀id∈gZ σ.H.get k x,id∈e.rd)
 |Ff (f:Operand) (as:Array Operand) (ts:Array TypeId) (n:FuncId) (cA args:List AV) (kk:Nat) (a:AV) (el:TypeId) (k:Nat) (rows:List (List AV)) (ap:Bool) (aO:o.op= .call ⟨.value f,as,ts⟩) (hg:mZ ops o σ e.c) (dH:e.c=true) (hc:fZ (σ.get true f) (dZ (σ.get true) as.toList)=some (n,cA))
   (he:cA.map (cR σ.H.get kk)=args) (eY:∀a∈args,bK a) (hp:uF P n args a el k rows ap) (ha:e.a=qS aF a) (hw:e.wr=[(aF,some (.cells el k rows true ap))]) (dS:∀x∈cA,∀id∈gZ σ.H.get kk x,id∈e.rd)
 |skip (hg:mZ ops o σ e.c) (hc:e.c=false) (hw:e.wr=[])
 |res (hg:mZ ops o σ e.c) (hr:res P (σ.get e.c) σ.H.get aF o=some (e.a,e.wr,e.rd)) (hw:e.wr=[]\/e.c=true)
def AS.app(σ:AS)(dst:Option Tmp)(e:Entry):AS:=({σ with H:=⟨σ.H.next,aX σ.H.get e.wr⟩}:AS).put dst e.c e.a
section
variable {P : Program} {ops : Array Oper} {o : Oper} {σ aK : AS} {aF : Nat} {e : Entry}
theorem get_congr{c:Bool}{x:Operand}(h:∀t,x= .tmp t->lk aK.env t=lk σ.env t):aK.get c x=σ.get c x:=by
 cases x with
 |tmp t=>simp only[AS.get,h t rfl]
 |_=>rfl
theorem EA{c:Bool}(h:mZ ops.toList o σ c)(ha:∀t∈o.looksAt ops,lk aK.env t=lk σ.env t):mZ ops.toList o aK c:=by
 unfold mZ at h⊢;split at h
 ·exact h
 ·rename_i j want hg
  rw[<-h];congr 1;unfold pT;cases hj:ops.toList[j]? with
  |none=>rfl
  |some o'=>
   cases hd:o'.dst with
   |none=>simp only[hd]
   |some t=>
    simp only[hd];refine ha t ?_;unfold Oper.looksAt;rw[hg];refine uE _ ?_;rw[vD]at hj;simp[hj,hd]
theorem E9.congr(h:E9 P ops.toList o σ aF e)(ha:∀t∈o.looksAt ops,lk aK.env t=lk σ.env t)(hr:∀id∈e.rd,aK.H.get id=σ.H.get id):E9 P ops.toList o aK aF e:=by
 have bU:∀c,∀x∈o.op.operands,aK.get c x=σ.get c x:=fun c x hx=>get_congr fun t ht=>by
  subst ht;refine ha t ?_;unfold Oper.looksAt;exact wB _ (List.mem_filterMap.2 ⟨.tmp t,by simpa using hx,rfl⟩)
 cases h with
 |call f as ts n args aO hg hc hp hw=>
  refine .call f as ts n args aO (EA hg ha) ?_ hp hw;rw[bU e.c f (by rw[aO];simp[Op.operands,Call.operands]),E8 as.toList fun x hx=>bU e.c x (by rw[aO];simp[Op.operands,Call.operands];exact .inr (by simpa using hx))]
  exact hc
 |pick x0 x y b p q aO hg hb pR he hw=>
  refine .pick x0 x y b p q aO (EA hg ha) ?_ ?_ he hw
  ·rw[bU e.c x0 (by rw[aO];simp[Op.operands])];exact hb
  ·rw[bU _ x (by rw[aO];simp[Op.operands]),bU _ y (by rw[aO];simp[Op.operands])];exact pR
 |Ep f as ts n cA args aO hg dH hc he eY hp hw dS=>
  refine .Ep f as ts n cA args aO (EA hg ha) dH ?_ ?_ eY hp ?_ dS
  ·rw[bU true f (by rw[aO];simp[Op.operands,Call.operands]),E8 as.toList fun x hx=>bU true x (by rw[aO];simp[Op.operands,Call.operands];exact .inr (by simpa using hx))]
   exact hc
  ·rw[Ql cA fun id aB=>hr id (dS id aB)];exact he
  ·rcases hw with hw|hw
   ·exact .inl (by rw[hw];exact s7 fun id aB=>by rw[hr id (dS id aB)])
   ·refine .inr ?_
    have h1:(mC nD cA).filter (fun id=>K1 (aK.H.get id))=(mC nD cA).filter fun id=>K1 (σ.H.get id):=List.filter_congr fun id aB=>by rw[hr id (dS id aB)]
    rw[hw,h1];exact s7 fun id aB=>by rw[hr id (dS id (pC.1 aB).1)]
 |Fe f as ts n cA args el k rows aO hg dH hc he hp uA hw dS=>
  refine .Fe f as ts n cA args el k rows aO (EA hg ha) dH ?_ ?_ hp uA ?_ dS
  ·rw[bU true f (by rw[aO];simp[Op.operands,Call.operands]),E8 as.toList fun x hx=>bU true x (by rw[aO];simp[Op.operands,Call.operands];exact .inr (by simpa using hx))]
   exact hc
  ·rw[Ql cA fun id aB=>hr id (dS id aB)];exact he
  ·rw[hw]
   congr 1;exact s7 fun id aB=>by rw[hr id (dS id aB)]
 |RQ f as ts n args el k rows aO hg dH hc hp uA hw=>
  refine .RQ f as ts n args el k rows aO (EA hg ha) dH ?_ hp uA hw;rw[bU true f (by rw[aO];simp[Op.operands,Call.operands]),E8 as.toList fun x hx=>bU true x (by rw[aO];simp[Op.operands,Call.operands];exact .inr (by simpa using hx))]
  exact hc
 |Fb f as ts n args id qO k0 lG el k rows aO hg dH hc k8 hp uA hw dS=>
  refine .Fb f as ts n args id qO k0 lG el k rows aO (EA hg ha) dH ?_ (by rw[hr id dS];exact k8) hp uA hw dS
  rw[bU true f (by rw[aO];simp[Op.operands,Call.operands]),E8 as.toList fun x hx=>bU true x (by rw[aO];simp[Op.operands,Call.operands];exact .inr (by simpa using hx))]
  exact hc
 |Fc f as ts n args a el k rows aO hg dH hc hp uA hw=>
  refine .Fc f as ts n args a el k rows aO (EA hg ha) dH ?_ hp uA hw;rw[bU true f (by rw[aO];simp[Op.operands,Call.operands]),E8 as.toList fun x hx=>bU true x (by rw[aO];simp[Op.operands,Call.operands];exact .inr (by simpa using hx))]
  exact hc
 |S7 f as ts n cA args k aO hg dH hc he eY hp hw dS=>
  refine .S7 f as ts n cA args k aO (EA hg ha) dH ?_ ?_ eY hp hw fun x hx id aB=> ?_
  ·rw[bU true f (by rw[aO];simp[Op.operands,Call.operands]),E8 as.toList fun x hx=>bU true x (by rw[aO];simp[Op.operands,Call.operands];exact .inr (by simpa using hx))]
   exact hc
  ·rw[<-he]
   exact s7 fun x hx=>Ew k x fun id aB=>hr id (dS x hx id aB)
  ·rw[Qm k x fun id aB=>hr id (dS x hx id aB)]at aB
   exact dS x hx id aB
 |Ff f as ts n cA args kk a el k rows ap aO hg dH hc he eY hp uA hw dS=>
  refine .Ff f as ts n cA args kk a el k rows ap aO (EA hg ha) dH ?_ ?_ eY hp uA hw fun x hx id aB=> ?_
  ·rw[bU true f (by rw[aO];simp[Op.operands,Call.operands]),E8 as.toList fun x hx=>bU true x (by rw[aO];simp[Op.operands,Call.operands];exact .inr (by simpa using hx))]
   exact hc
  ·rw[<-he]
   exact s7 fun x hx=>Ew kk x fun id aB=>hr id (dS x hx id aB)
  ·rw[Qm kk x fun id aB=>hr id (dS x hx id aB)]at aB
   exact dS x hx id aB
 |skip hg hc hw=>exact .skip (EA hg ha) hc hw
 |res hg mP hw=>exact .res (EA hg ha) (cg3 mP (bU e.c) hr) hw
theorem EB{E:Env}{W:World}{act:Act}(hr:Rel E W σ act){c:Bool}(h:mZ ops.toList o σ c):Region.wanted o (yielded ops act.tmps)=c:=by
 unfold mZ at h;split at h
 ·rename_i hg;simp only[Region.wanted,hg];exact h.symm
 ·rename_i j want hg
  obtain⟨c',b,hb,rfl⟩:=au9 h
  obtain⟨t,ht,yQ⟩:∃t,(ops[j]?).bind (·.dst)=some t/\lk σ.env t=some (c',.c (.bool b)):=by
   unfold pT at hb;split at hb
   ·rename_i o' yF
    rw[vD]at yF;split at hb
    ·rename_i t ht;exact⟨t,by rw[yF];exact ht,hb⟩
    ·cases hb
   ·cases hb
  obtain⟨v,h1,h2,h3⟩:=hr.env t _ _ yQ
  have hy:yielded ops act.tmps j=if c'=true then some b else none:=by
   unfold yielded;rw[ht];simp only[Z1,h1];cases c'
   ·rw[h3 rfl];rfl
   ·have h4:=h2 rfl
    cases h4;rfl
  simp only[Region.wanted,hg,hy];cases c'<;>cases b<;>cases want<;>rfl
theorem E9.run(h:E9 P ops.toList o σ aF e)(hd:fY σ.nt o=true){E:Env}{W:World}{act:Act}(hr:Rel E W σ act)(gR:¬E.U aF)(bG:aF<σ.H.next){next:Act->World->Prop}{Q:Exit->Act->World->Prop}{ro:Option Nat}
  (hn:∀E' W' cF,eE E W act E' W' cF->Rel E' W' (σ.app o.dst e) cF->(∀id,E'.U id->E.U id\/id=aF)->next cF W'):
  if Region.wanted o (yielded ops act.tmps)=true then o.wpIn (kK ro) 3 P act W next Q else next (act.put o.dst undef) W:=by
 have Fg:e.wr=[]->σ.app o.dst e=σ.put o.dst e.c e.a:=fun hw=>by unfold AS.app;rw[hw];rfl
 have skip:e.c≠true->e.wr=[]->next (act.put o.dst undef) W:=fun hc hw=>
  hn E W _ (eE.of (bE.refl E W) (Act.put_defers _ _ _)) (by rw[Fg hw];exact hr.put (pU hd) (fun h=>absurd h hc) (fun _=>rfl)) fun _ h=> .inl h
 cases h with
 |call f as ts n args aO hg hc hp hw=>
  rw[EB hr hg];by_cases dH:e.c=true
  ·rw[if_pos dH]
   obtain⟨eY,hp⟩:=hp dH;obtain⟨first,cap,oL,hf,has,rfl⟩:=B4 hc
   have h1:=hr.get dH hf;have h2:=xA (E:=E) (W:=W) (ρ:=act.eval) (fun x b hb=>hr.get dH hb) _ _ has
   generalize pB:act.eval f=fv at h1;cases h1 with
   |fn _ _ _ vf vc hl cW h3 h4=>
   have mY:bX E W (first++oL++cap) (vf.toList++as.toList.map act.eval++vc.toList):=by
    refine(bX.append ?_ h2).append ?_
    ·exact⟨by simpa using hl,fun i x v hx hv=>h3 i x v hx (by simpa using hv)⟩
    ·exact⟨by simpa using cW,fun i x v hx hv=>h4 i x v hx (by simpa using hv)⟩
   have dA:(execOp act.eval o).run P W= .ok (.enter n (vf.toList++as.toList.map act.eval++vc.toList).toArray) W:=by
    simp only[execOp,aO,resolve,pB,Deferred.ofValue,Sem.run_bind,Sem.run_pure,Result.andThen_ok,invoke];rw[B6 hp.1];congr 2;apply CR;simp
   refine⟨fun _ _=>trivial,?_⟩
   rw[Oper.semAt_eq _ _ _ (fun c h=>by rw[aO]at h;cases h),dA]
   refine⟨AZ,CH ((hp.run eY hr.heap mY).mono fun e' W' ⟨v,he,r,L',hv,hH,iF,ar0,hq⟩=> ?_)⟩
   subst he;subst hq;refine hn _ W' _ (eE.of hv (Act.put_defers _ _ _)) ?_ fun _ h=> .inl h
   rw[Fg hw];exact(hr.mono hv hH).put (dst:=o.dst) (pU hd) (c:=e.c) (fun _=>iF) (fun h=>by rw[dH]at h;cases h)
  ·rw[if_neg dH];exact skip dH hw
 |pick x0 x y b p q aO hg hb pR he hw=>
  rw[EB hr hg];by_cases dH:e.c=true
  ·rw[if_pos dH]
   obtain⟨hp,hq⟩:=Pq pR;have hp:=CI hp;have hq:=CI hq;refine XI dH aO (CI hb) (a:=e.a) (fun z8=>⟨e.c&&b,by simp[dH,z8],?_⟩) (fun JU=>⟨e.c&& !b,by simp[dH,JU],?_⟩) hd hr fun v cC=>hn E W _ (eE.of (bE.refl E W) (Act.put_defers _ _ _)) (by rw[Fg hw];exact cC) fun _ h=> .inl h
   ·rw[hp,he,z8];rfl
   ·rw[hq,he,JU];rfl
  ·rw[if_neg dH];exact skip dH hw
 |Ep f as ts n cA args aO hg dH hc he eY hp hw dS=>
  rw[EB hr hg,if_pos dH];obtain⟨first,cap,oL,hf,has,rfl⟩:=B4 hc
  have h1:=hr.get rfl hf;have h2:=xA (E:=E) (W:=W) (ρ:=act.eval) (fun x b hb=>hr.get rfl hb) _ _ has
  generalize pB:act.eval f=fv at h1;cases h1 with
  |fn _ _ _ vf vc hl cW h3 h4=>
  have mY:bX E W (first++oL++cap) (vf.toList++as.toList.map act.eval++vc.toList):=by
   refine(bX.append ?_ h2).append ?_
   ·exact⟨by simpa using hl,fun i x v hx hv=>h3 i x v hx (by simpa using hv)⟩
   ·exact⟨by simpa using cW,fun i x v hx hv=>h4 i x v hx (by simpa using hv)⟩
  have dA:(execOp act.eval o).run P W= .ok (.enter n (vf.toList++as.toList.map act.eval++vc.toList).toArray) W:=by
   simp only[execOp,aO,resolve,pB,Deferred.ofValue,Sem.run_bind,Sem.run_pure,Result.andThen_ok,invoke];rw[B6 hp.1];congr 2;apply CR;simp
  refine⟨fun _ _=>trivial,?_⟩
  rw[Oper.semAt_eq _ _ _ (fun c h=>by rw[aO]at h;cases h),dA]
  generalize first++oL++cap=cA at mY he hw dS
  obtain⟨L1,g1,g2,g3⟩:=N9 (W:=W) (mC nD cA) hr.heap
  have Y5:bX ⟨E.ι,E.sz,E.U,L1⟩ W args (vf.toList++as.toList.map act.eval++vc.toList):=by
   subst he;refine⟨by simpa using mY.1,fun i x v hx hv=> ?_⟩
   rw[gE]at hx;obtain⟨y,hy,rfl⟩:=map_some hx;exact Y4 hr.heap.core g1 (mY.2 i y v hy hv) fun id aB=>g3 id (N8 (eS hy) aB)
  refine⟨AZ,CH ((hp.run eY g2 Y5).mono fun e' W' ⟨v,vV,r,L',h5,h6,h7,h8,h9⟩=> ?_)⟩
  subst vV;subst h9
  have mA:RH ⟨E.ι,E.sz,E.U,L'⟩ W' ⟨σ.H.next,aX σ.H.get e.wr⟩:=by
   rcases hw with hw|hw
   ·rw[hw,<-Et];exact h6
   ·rw[hw,<-ch7];exact h6
  have cC:=(hr.mono (g1.trans h5) mA).put (dst:=o.dst) (pU hd) (c:=e.c) (a:=e.a) (fun _=>h7) (fun h=>by rw[dH]at h;cases h)
  exact hn _ W' _ (eE.of (g1.trans h5) (Act.put_defers _ _ _)) cC fun _ h=> .inl h
 |Fe f as ts n cA args el k rows aO hg dH hc he hp uA hw dS=>
  rw[EB hr hg,if_pos dH];obtain⟨first,cap,oL,hf,has,rfl⟩:=B4 hc
  have h1:=hr.get rfl hf;have h2:=xA (E:=E) (W:=W) (ρ:=act.eval) (fun x b hb=>hr.get rfl hb) _ _ has
  generalize pB:act.eval f=fv at h1;cases h1 with
  |fn _ _ _ vf vc hl cW h3 h4=>
  have mY:bX E W (first++oL++cap) (vf.toList++as.toList.map act.eval++vc.toList):=by
   refine(bX.append ?_ h2).append ?_
   ·exact⟨by simpa using hl,fun i x v hx hv=>h3 i x v hx (by simpa using hv)⟩
   ·exact⟨by simpa using cW,fun i x v hx hv=>h4 i x v hx (by simpa using hv)⟩
  have dA:(execOp act.eval o).run P W= .ok (.enter n (vf.toList++as.toList.map act.eval++vc.toList).toArray) W:=by
   simp only[execOp,aO,resolve,pB,Deferred.ofValue,Sem.run_bind,Sem.run_pure,Result.andThen_ok,invoke];rw[B6 hp.1];congr 2;apply CR;simp
  refine⟨fun _ _=>trivial,?_⟩
  rw[Oper.semAt_eq _ _ _ (fun c h=>by rw[aO]at h;cases h),dA]
  generalize first++oL++cap=cA at mY he hw dS
  obtain⟨L1,g1,g2,g3⟩:=N9 (W:=W) (mC nD cA) hr.heap
  have Y5:bX ⟨E.ι,E.sz,E.U,L1⟩ W args (vf.toList++as.toList.map act.eval++vc.toList):=by
   subst he;refine⟨by simpa using mY.1,fun i x v hx hv=> ?_⟩
   rw[gE]at hx;obtain⟨y,hy,rfl⟩:=map_some hx;exact Y4 hr.heap.core g1 (mY.2 i y v hy hv) fun id aB=>g3 id (N8 (eS hy) aB)
  refine⟨AZ,CH ((hp.2 ⟨E.ι,E.sz,E.U,L1⟩ W _ aF _ g2.core gR Y5).mono fun e' W' ⟨v,vV,E',hv,hG,iF,hU⟩=> ?_)⟩
  subst vV
  have mA:RH E' W' ⟨σ.H.next,aX σ.H.get e.wr⟩:=⟨fun id aB=>by
   rcases hU id aB with h5|h5
   ·exact hr.heap.next id h5
   ·subst h5;exact bG,by rw[hw,ch9,<-Et];exact hG⟩
  have cC:=(hr.mono (g1.trans hv) mA).put (dst:=o.dst) (pU hd) (c:=e.c) (a:=e.a) (fun _=>by rw[uA];exact iF) (fun h=>by rw[dH]at h;cases h)
  exact hn E' W' _ (eE.of (g1.trans hv) (Act.put_defers _ _ _)) cC hU
 |RQ f as ts n args el k rows aO hg dH hc hp uA hw=>
  rw[EB hr hg,if_pos dH];obtain⟨first,cap,oL,hf,has,rfl⟩:=B4 hc
  have h1:=hr.get rfl hf;have h2:=xA (E:=E) (W:=W) (ρ:=act.eval) (fun x b hb=>hr.get rfl hb) _ _ has
  generalize pB:act.eval f=fv at h1;cases h1 with
  |fn _ _ _ vf vc hl cW h3 h4=>
  have mY:bX E W (first++oL++cap) (vf.toList++as.toList.map act.eval++vc.toList):=by
   refine(bX.append ?_ h2).append ?_
   ·exact⟨by simpa using hl,fun i x v hx hv=>h3 i x v hx (by simpa using hv)⟩
   ·exact⟨by simpa using cW,fun i x v hx hv=>h4 i x v hx (by simpa using hv)⟩
  have dA:(execOp act.eval o).run P W= .ok (.enter n (vf.toList++as.toList.map act.eval++vc.toList).toArray) W:=by
   simp only[execOp,aO,resolve,pB,Deferred.ofValue,Sem.run_bind,Sem.run_pure,Result.andThen_ok,invoke];rw[B6 hp.1];congr 2;apply CR;simp
  refine⟨fun _ _=>trivial,?_⟩
  rw[Oper.semAt_eq _ _ _ (fun c h=>by rw[aO]at h;cases h),dA]
  refine⟨AZ,CH ((hp.2 E W σ.H.get aF _ hr.heap.core gR mY).mono fun e' W' ⟨v,he,E',hv,hG,iF,hU⟩=> ?_)⟩
  subst he
  have mA:RH E' W' ⟨σ.H.next,aX σ.H.get e.wr⟩:=⟨fun id aB=>by
   rcases hU id aB with h5|h5
   ·exact hr.heap.next id h5
   ·subst h5;exact bG,by rw[hw];exact hG⟩
  have cC:=(hr.mono hv mA).put (dst:=o.dst) (pU hd) (c:=e.c) (a:=e.a) (fun _=>by rw[uA];exact iF) (fun h=>by rw[dH]at h;cases h)
  exact hn E' W' _ (eE.of hv (Act.put_defers _ _ _)) cC hU
 |Fb f as ts n args id qO k0 lG el k rows aO hg dH hc k8 hp uA hw dS=>
  rw[EB hr hg,if_pos dH];obtain⟨first,cap,oL,hf,has,rfl⟩:=B4 hc
  have h1:=hr.get rfl hf;have h2:=xA (E:=E) (W:=W) (ρ:=act.eval) (fun x b hb=>hr.get rfl hb) _ _ has
  generalize pB:act.eval f=fv at h1;cases h1 with
  |fn _ _ _ vf vc hl cW h3 h4=>
  have mY:bX E W (first++oL++cap) (vf.toList++as.toList.map act.eval++vc.toList):=by
   refine(bX.append ?_ h2).append ?_
   ·exact⟨by simpa using hl,fun i x v hx hv=>h3 i x v hx (by simpa using hv)⟩
   ·exact⟨by simpa using cW,fun i x v hx hv=>h4 i x v hx (by simpa using hv)⟩
  have dA:(execOp act.eval o).run P W= .ok (.enter n (vf.toList++as.toList.map act.eval++vc.toList).toArray) W:=by
   simp only[execOp,aO,resolve,pB,Deferred.ofValue,Sem.run_bind,Sem.run_pure,Result.andThen_ok,invoke];rw[B6 hp.1];congr 2;apply CR;simp
  refine⟨fun _ _=>trivial,?_⟩
  rw[Oper.semAt_eq _ _ _ (fun c h=>by rw[aO]at h;cases h),dA]
  refine⟨AZ,CH ((hp.2 E W σ.H.get aF _ hr.heap.core k8 gR mY).mono fun e' W' ⟨v,he,E',hv,hG,iF,hU⟩=> ?_)⟩
  subst he
  have mA:RH E' W' ⟨σ.H.next,aX σ.H.get e.wr⟩:=⟨fun id aB=>by
   rcases hU id aB with h5|h5
   ·exact hr.heap.next id h5
   ·subst h5;exact bG,by rw[hw];exact hG⟩
  have cC:=(hr.mono hv mA).put (dst:=o.dst) (pU hd) (c:=e.c) (a:=e.a) (fun _=>by rw[uA];exact iF) (fun h=>by rw[dH]at h;cases h)
  exact hn E' W' _ (eE.of hv (Act.put_defers _ _ _)) cC hU
 |Fc f as ts n args a el k rows aO hg dH hc hp uA hw=>
  rw[EB hr hg,if_pos dH];obtain⟨first,cap,oL,hf,has,rfl⟩:=B4 hc
  have h1:=hr.get rfl hf;have h2:=xA (E:=E) (W:=W) (ρ:=act.eval) (fun x b hb=>hr.get rfl hb) _ _ has
  generalize pB:act.eval f=fv at h1;cases h1 with
  |fn _ _ _ vf vc hl cW h3 h4=>
  have mY:bX E W (first++oL++cap) (vf.toList++as.toList.map act.eval++vc.toList):=by
   refine(bX.append ?_ h2).append ?_
   ·exact⟨by simpa using hl,fun i x v hx hv=>h3 i x v hx (by simpa using hv)⟩
   ·exact⟨by simpa using cW,fun i x v hx hv=>h4 i x v hx (by simpa using hv)⟩
  have dA:(execOp act.eval o).run P W= .ok (.enter n (vf.toList++as.toList.map act.eval++vc.toList).toArray) W:=by
   simp only[execOp,aO,resolve,pB,Deferred.ofValue,Sem.run_bind,Sem.run_pure,Result.andThen_ok,invoke];rw[B6 hp.1];congr 2;apply CR;simp
  refine⟨fun _ _=>trivial,?_⟩
  rw[Oper.semAt_eq _ _ _ (fun c h=>by rw[aO]at h;cases h),dA]
  refine⟨AZ,CH ((hp.2 E W σ.H.get aF _ hr.heap.core gR mY).mono fun e' W' ⟨v,he,E',hv,hG,iF,hU⟩=> ?_)⟩
  subst he
  have mA:RH E' W' ⟨σ.H.next,aX σ.H.get e.wr⟩:=⟨fun id aB=>by
   rcases hU id aB with h5|h5
   ·exact hr.heap.next id h5
   ·subst h5;exact bG,by rw[hw];exact hG⟩
  have cC:=(hr.mono hv mA).put (dst:=o.dst) (pU hd) (c:=e.c) (a:=e.a) (fun _=>by rw[uA];exact iF) (fun h=>by rw[dH]at h;cases h)
  exact hn E' W' _ (eE.of hv (Act.put_defers _ _ _)) cC hU
 |S7 f as ts n cA args k aO hg dH hc he eY hp hw dS=>
  rw[EB hr hg,if_pos dH];obtain⟨first,cap,oL,hf,has,rfl⟩:=B4 hc
  have h1:=hr.get rfl hf;have h2:=xA (E:=E) (W:=W) (ρ:=act.eval) (fun x b hb=>hr.get rfl hb) _ _ has
  generalize pB:act.eval f=fv at h1;cases h1 with
  |fn _ _ _ vf vc hl cW h3 h4=>
  have mY:bX E W (first++oL++cap) (vf.toList++as.toList.map act.eval++vc.toList):=by
   refine(bX.append ?_ h2).append ?_
   ·exact⟨by simpa using hl,fun i x v hx hv=>h3 i x v hx (by simpa using hv)⟩
   ·exact⟨by simpa using cW,fun i x v hx hv=>h4 i x v hx (by simpa using hv)⟩
  have dA:(execOp act.eval o).run P W= .ok (.enter n (vf.toList++as.toList.map act.eval++vc.toList).toArray) W:=by
   simp only[execOp,aO,resolve,pB,Deferred.ofValue,Sem.run_bind,Sem.run_pure,Result.andThen_ok,invoke];rw[B6 hp.1];congr 2;apply CR;simp
  refine⟨fun _ _=>trivial,?_⟩
  rw[Oper.semAt_eq _ _ _ (fun c h=>by rw[aO]at h;cases h),dA]
  refine⟨AZ,CH ((hp.az1 k he eY hr.heap hr.heap.core mY).mono fun e' W' ⟨v,vV,L',hv,hH,iF⟩=> ?_)⟩
  subst vV;refine hn _ W' _ (eE.of hv (Act.put_defers _ _ _)) ?_ fun _ h=> .inl h
  rw[Fg hw];exact(hr.mono hv hH).put (dst:=o.dst) (pU hd) (c:=e.c) (fun _=>iF) (fun h=>by rw[dH]at h;cases h)
 |Ff f as ts n cA args kk a el k rows ap aO hg dH hc he eY hp uA hw dS=>
  rw[EB hr hg,if_pos dH];obtain⟨first,cap,oL,hf,has,rfl⟩:=B4 hc
  have h1:=hr.get rfl hf;have h2:=xA (E:=E) (W:=W) (ρ:=act.eval) (fun x b hb=>hr.get rfl hb) _ _ has
  generalize pB:act.eval f=fv at h1;cases h1 with
  |fn _ _ _ vf vc hl cW h3 h4=>
  have mY:bX E W (first++oL++cap) (vf.toList++as.toList.map act.eval++vc.toList):=by
   refine(bX.append ?_ h2).append ?_
   ·exact⟨by simpa using hl,fun i x v hx hv=>h3 i x v hx (by simpa using hv)⟩
   ·exact⟨by simpa using cW,fun i x v hx hv=>h4 i x v hx (by simpa using hv)⟩
  have dA:(execOp act.eval o).run P W= .ok (.enter n (vf.toList++as.toList.map act.eval++vc.toList).toArray) W:=by
   simp only[execOp,aO,resolve,pB,Deferred.ofValue,Sem.run_bind,Sem.run_pure,Result.andThen_ok,invoke];rw[B6 hp.1];congr 2;apply CR;simp
  refine⟨fun _ _=>trivial,?_⟩
  rw[Oper.semAt_eq _ _ _ (fun c h=>by rw[aO]at h;cases h),dA]
  refine⟨AZ,CH ((hp.run kk he eY gR hr.heap hr.heap.core mY).mono fun e' W' ⟨v,vV,E',hv,hG,iF,hU⟩=> ?_)⟩
  subst vV
  have mA:RH E' W' ⟨σ.H.next,aX σ.H.get e.wr⟩:=⟨fun id aB=>by
   rcases hU id aB with h5|h5
   ·exact hr.heap.next id h5
   ·subst h5;exact bG,by rw[hw];exact hG⟩
  have cC:=(hr.mono hv mA).put (dst:=o.dst) (pU hd) (c:=e.c) (a:=e.a) (fun _=>by rw[uA];exact iF) (fun h=>by rw[dH]at h;cases h)
  exact hn E' W' _ (eE.of hv (Act.put_defers _ _ _)) cC hU
 |skip hg hc hw=>
  rw[EB hr hg,if_neg (by rw[hc];decide)]
  exact skip (by rw[hc];decide) hw
 |res hg mP hw=>
  rw[EB hr hg];by_cases dH:e.c=true
  ·rw[if_pos dH]
   obtain⟨W',v,E',dA,hv,hG,iF,hU⟩:=au6 mP E W act.eval hr.heap.core gR (fun x b hb=>hr.get dH hb)
   have yE:∀id,E'.U id->E.U id\/id=aF:=fun id h=>(hU id h).imp (fun h=>h) (fun h=>h.1)
   have mA:RH E' W' ⟨σ.H.next,aX σ.H.get e.wr⟩:=⟨fun id aB=>by
    rcases yE id aB with h1|h1
    ·exact hr.heap.next id h1
    ·subst h1;exact bG,hG⟩
   have cC:=(hr.mono hv mA).put (dst:=o.dst) (pU hd) (c:=e.c) (fun _=>iF) (fun h=>by rw[dH]at h;cases h)
   have JS:=hn E' W' _ (eE.of hv (Act.put_defers _ _ _)) cC yE;refine⟨fun _ _=>trivial,?_⟩
   rw[Oper.semAt_eq _ _ _ (av3 mP)];rcases dA with h1|⟨h1,h2⟩
   ·rw[h1];exact JS
   ·rw[h1];subst h2;exact JS
  ·rw[if_neg dH]
   exact skip dH (hw.resolve_right dH)
end
def top(p:Nat->Bool):Nat->Option Nat
 |0=>none
 |n+1=>if p n then some n else top p n
theorem NI{p q:Nat->Bool}:∀{n:Nat},(∀i,i<n->p i=q i)->top p n=top q n
 |0,_=>rfl
 |n+1,h=>by simp only[top,h n (G3 n),NI fun i hi=>h i (TM hi)]
theorem Qu{p:Nat->Bool}{j:Nat}:∀{n:Nat},j<n->p j=true->(∀i,i<n->p i=true->i<=j)->top p n=some j
 |0,h,_,_=>by omega
 |n+1,h,hp,hm=>by
  simp only[top];by_cases hn:p n=true
  ·have:=hm n (G3 n) hn
   have:n=j:=by omega
   subst this;simp[hn]
  ·have aJ:j≠n:=fun e=>by subst e;exact hn hp
   simp only[hn,if_false,mG];exact Qu (by omega) hp fun i hi=>hm i (by omega)
theorem Qv{p:Nat->Bool}{j:Nat}:∀{n:Nat},j<=n->(∀i,i<n->p i=true->i<j)->top p n=top p j
 |0,h,_=>by
  have hj:j=0:=by omega
  subst hj;rfl
 |n+1,h,hm=>by
  by_cases hj:j=n+1
  ·subst hj;rfl
  ·simp only[top]
   have hn:¬p n=true:=fun hp=>by have:=hm n (G3 n) hp;omega
   simp only[hn,if_false,mG];exact Qv (by omega) fun i hi=>hm i (by omega)
def B9:List (Nat×Option aI)->Nat->Option (Option aI)
 |[],_=>none
 |(i,b)::r,k=>match B9 r k with
  |some x=>some x
  |none=>if k=i then some b else none
theorem Qw:∀(wr:List (Nat×Option aI)) (G:Nat->Option aI) (k:Nat),aX G wr k=(B9 wr k).getD (G k)
 |[],G,k=>rfl
 |(i,b)::r,G,k=>by
  simp only[aX,B9];rw[Qw r];cases B9 r k with
  |some x=>rfl
  |none=>by_cases h:k=i<;>simp[h]
def nM(ops:Array Oper)(es:List Entry)(σ0:AS)(D:Nat->Bool):Nat->AS
 |0=>σ0
 |k+1=>if D k then(match ops[k]?,es[k]? with
  |some o,some e=>(nM ops es σ0 D k).app o.dst e
  |_,_=>nM ops es σ0 D k)else nM ops es σ0 D k
def wt(ops:Array Oper)(es:List Entry)(t:Nat)(i:Nat):Bool:=
 match ops[i]?,es[i]? with
 |some o,some _=>o.dst==some t
 |_,_=>false
def Qy(es:List Entry)(i:Nat):Option (Bool×AV):=(es[i]?).map fun e=>(e.c,e.a)
def wk(ops:Array Oper)(es:List Entry)(k:Nat)(i:Nat):Bool:=
 match ops[i]?,es[i]? with
 |some _,some e=>(B9 e.wr k).isSome
 |_,_=>false
def Qz(es:List Entry)(k i:Nat):Option aI:=((es[i]?).bind fun e=>B9 e.wr k).getD none
section
variable {ops : Array Oper} {es : List Entry} {σ0 : AS}
theorem aA1(σ:AS)(dst:Option Tmp)(e:Entry):(σ.app dst e).nt=σ.nt:=by unfold AS.app;rw[AS.u6]
theorem aA2(σ:AS)(dst:Option Tmp)(e:Entry):(σ.app dst e).H.next=σ.H.next:=by unfold AS.app AS.put;split<;>rfl
theorem aA3(σ:AS)(dst:Option Tmp)(e:Entry):(σ.app dst e).H.get=aX σ.H.get e.wr:=by unfold AS.app AS.put;split<;>rfl
theorem aA4(σ:AS)(dst:Option Tmp)(e:Entry)(t:Nat):lk (σ.app dst e).env t=if dst=some t then some (e.c,e.a)else lk σ.env t:=by
 unfold AS.app AS.put;cases dst with
 |none=>simp
 |some d=>
  simp only[lk,bC];by_cases h:t=d
  ·subst h;simp
  ·simp[h,mQ h]
theorem K2(D:Nat->Bool):∀k,(nM ops es σ0 D k).nt=σ0.nt
 |0=>rfl
 |k+1=>by
  simp only[nM];split
  ·split
   ·rw[aA1];exact K2 D k
   ·exact K2 D k
  ·exact K2 D k
theorem S8(D:Nat->Bool):∀k,(nM ops es σ0 D k).H.next=σ0.H.next
 |0=>rfl
 |k+1=>by
  simp only[nM];split
  ·split
   ·rw[aA2];exact S8 D k
   ·exact S8 D k
  ·exact S8 D k
theorem YB(D:Nat->Bool)(t:Nat):∀k,lk (nM ops es σ0 D k).env t=match top (fun i=>D i&&wt ops es t i) k with
  |some i=>Qy es i
  |none=>lk σ0.env t
 |0=>rfl
 |k+1=>by
  have ih:=YB D t k;simp only[nM,top];by_cases hD:D k=true
  case neg=>
   have xB:D k=false:=by simpa using hD
   simp only[xB,mG,if_false,O3];exact ih
  case pos=>
   simp only[hD,if_true,TO];cases ho:ops[k]? with
   |none=>simp only[wt,ho,mG,if_false];exact ih
   |some o=>
    cases he:es[k]? with
    |none=>simp only[wt,ho,he,mG,if_false];exact ih
    |some e=>
     simp only[wt,ho,he,aA4,beq_iff_eq];by_cases hd:o.dst=some t
     ·simp[hd,Qy,he]
     ·simp only[hd,if_false];exact ih
theorem YC(D:Nat->Bool)(q:Nat):∀k,(nM ops es σ0 D k).H.get q=match top (fun i=>D i&&wk ops es q i) k with
  |some i=>Qz es q i
  |none=>σ0.H.get q
 |0=>rfl
 |k+1=>by
  have ih:=YC D q k;simp only[nM,top];by_cases hD:D k=true
  case neg=>
   have xB:D k=false:=by simpa using hD
   simp only[xB,mG,if_false,O3];exact ih
  case pos=>
   simp only[hD,if_true,TO];cases ho:ops[k]? with
   |none=>simp only[wk,ho,mG,if_false];exact ih
   |some o=>
    cases he:es[k]? with
    |none=>simp only[wk,ho,he,mG,if_false];exact ih
    |some e=>
     simp only[wk,ho,he,aA3,Qw];cases hw:B9 e.wr q with
     |none=>simp only[aH4,mG,if_false,aH3];exact ih
     |some b=>simp[Qz,he,hw]
end
theorem Rel.ext{E:Env}{W:World}{σ aK:AS}{act:Act}(h:Rel E W σ act)(hl:∀t,lk aK.env t=lk σ.env t)(hg:∀id,aK.H.get id=σ.H.get id)(hn:aK.H.next=σ.H.next)(ht:aK.nt=σ.nt):Rel E W aK act:=by
 have hG:aK.H.get=σ.H.get:=funext hg
 exact⟨h.defers,by rw[ht];exact h.size,fun t c a ha=>h.env t c a (by rw[<-hl];exact ha),⟨by rw[hn];exact h.heap.next,by rw[hG];exact h.heap.core⟩⟩
end Go.AL
namespace Go.AL
open Go.RowKit
def vC(o:Oper):List Nat:=(o.after.toList.filter (fun e=>Region.binds .any e)).map (·.on)
inductive Reach (ops:List Oper):Nat->Nat->Prop
 |step {i j:Nat} {o:Oper} (h:ops[j]? =some o) (hi:i∈vC o):Reach ops i j
 |trans {i k j:Nat} {o:Oper} (h:ops[j]? =some o) (hk:k∈vC o) (hr:Reach ops i k):Reach ops i j
def YD(ops:List Oper)(D:Nat->Bool):Prop:=∀(j:Nat) o,ops[j]? =some o->D j=true->∀k∈vC o,D k=true
theorem Reach.closed{ops:List Oper}{D:Nat->Bool}(hc:YD ops D){i j:Nat}(h:Reach ops i j):D j=true->D i=true:=by
 induction h with
 |step h hi=>exact fun hj=>hc _ _ h hj _ hi
 |trans h hk _ ih=>exact fun hj=>ih (hc _ _ h hj _ hk)
def aA5(o:Oper)(acc:List Nat):Nat:=(vC o).foldl (fun s k=>s|||2 ^ k|||acc.getD k 0) 0
def Ra:List Oper->List Nat->List Nat
 |[],acc=>acc
 |o::r,acc=>Ra r (acc++[aA5 o acc])
def tab(ops:List Oper):List Nat:=Ra ops []
theorem aA6{acc:List Nat}{i:Nat}:∀(l:List Nat) (s:Nat),(l.foldl (fun s k=>s|||2 ^ k|||acc.getD k 0) s).testBit i=true->s.testBit i=true\/∃k∈l,i=k\/(acc.getD k 0).testBit i=true
 |[],s,h=> .inl h
 |k::l,s,h=>by
  simp only[CL]at h;rcases aA6 l _ h with h|⟨k',h1,h2⟩
  ·simp only[Nat.testBit_or,KA]at h
   rcases h with(h|h)|h
   ·exact .inl h
   ·rw[Nat.testBit_two_pow]at h
    have h':k=i:=of_decide_eq_true h;exact .inr ⟨k,by simp,.inl h'.symm⟩
   ·exact .inr ⟨k,by simp,.inr h⟩
  ·exact .inr ⟨k',by simp[h1],h2⟩
theorem aA7{ops:List Oper}:∀(r:List Oper) (acc:List Nat),ops.drop acc.length=r->(∀(j m i:Nat),acc[j]? =some m->m.testBit i=true->Reach ops i j)->∀(j m i:Nat),(Ra r acc)[j]? =some m->m.testBit i=true->Reach ops i j
 |[],acc,_,h=>h
 |o::r,acc,hd,h=>by
  have bG:acc.length<ops.length:=by
   rcases oA acc.length ops.length with h|h
   ·exact h
   ·rw[I5 h]at hd;cases hd
  have ho:ops[acc.length]? =some o:=by
   have:=mF (xs:=ops) (i:=acc.length) (j:=0);rw[hd]at this;simpa using this.symm
  refine aA7 r (acc++[aA5 o acc]) ?_ ?_
  ·rw[bP,List.length_singleton,<-O7,hd];rfl
  ·intro j m i hj hb
   by_cases tA:j<acc.length
   ·rw[kG tA]at hj;exact h j m i hj hb
   ·rw[k7 (by omega)]at hj
    have hj0:j-acc.length=0:=by
     rcases Tx (j-acc.length)with h0|h0
     ·exact h0
     ·rw[zL (by simp;omega)]at hj;cases hj
    have hje:j=acc.length:=by omega
    subst hje;simp at hj;subst hj;rcases aA6 _ _ hb with h0|⟨k,hk,iH⟩
    ·simp at h0
    ·rcases iH with rfl|iH
     ·exact .step ho hk
     ·cases MO:acc[k]? with
      |none=>simp[List.getD,MO]at iH
      |some m'=>
       simp[List.getD,MO]at iH;exact .trans ho hk (h k m' i MO iH)
theorem Fh{ops:List Oper}{i j:Nat}(h:((tab ops).getD j 0).testBit i=true):Reach ops i j:=by
 cases hm:(tab ops)[j]? with
 |none=>simp[List.getD,hm]at h
 |some m=>
  simp[List.getD,hm]at h;exact aA7 ops [] rfl (fun j m i hj=>by simp at hj) j m i hm h
def YE(ops:Array Oper)(o:Oper):List Tmp:=o.dst.toList++o.looksAt ops
def FU(ops:Array Oper)(x y:Oper):Bool:=(match x.dst with|some d=>(YE ops y).contains d|none=>false)||(match y.dst with|some d=>(YE ops x).contains d|none=>false)
def aA8(ops:Array Oper)(tb:List Nat):Bool:=
 ((List.range ops.size).all fun j=>match ops[j]? with
   |some o=>(vC o).all (·<j)
   |none=>true)&&
 (List.range ops.size).all fun j=>(List.range j).all fun i=>match ops[i]?,ops[j]? with
   |some x,some y=> !(FU ops x y)||(tb.getD j 0).testBit i
   |_,_=>true
def CJ(ops:Array Oper):Bool:=aA8 ops (tab ops.toList)
def K3(e:Entry)(k:Nat):Bool:=e.rd.contains k||e.wr.any fun p=>p.1==k
def CK(a b:Entry):Bool:=(a.wr.any fun p=>K3 b p.1)||(b.wr.any fun p=>K3 a p.1)
def zK(tb:List Nat):Nat->List (Nat×Entry)->List Entry->Bool
 |_,_,[]=>true
 |j,prev,e::r=>prev.all (fun p=> !(CK p.2 e)||(tb.getD j 0).testBit p.1)&&zK tb (j+1) ((j,e)::prev) r
theorem Rb{tb:List Nat}:∀(r:List Entry) (j:Nat) (prev:List (Nat×Entry)),zK tb j prev r=true->
  (∀p∈prev,∀(k:Nat) e,r[k]? =some e->CK p.2 e=true->(tb.getD (j+k) 0).testBit p.1=true)/\(∀(i k:Nat) a b,i<k->r[i]? =some a->r[k]? =some b->CK a b=true->(tb.getD (j+k) 0).testBit (j+i)=true)
 |[],j,prev,_=>⟨fun p _ k e h=>by simp at h,fun i k a b _ h=>by simp at h⟩
 |e::r,j,prev,h=>by
  simp only[zK,k6,gK]at h;obtain⟨h1,h2⟩:=h;obtain⟨h3,h4⟩:=Rb r (j+1) ((j,e)::prev) h2;refine⟨fun p hp k e' he hc=> ?_,fun i k a b iH ha hb hc=> ?_⟩
  ·cases k with
   |zero=>
    simp at he;subst he;have:=h1 p hp;simp[hc]at this;simpa using this
   |succ k=>
    have:=h3 p (by simp[hp]) k e' (by simpa using he) hc
    rw[show j+(k+1)=j+1+k by omega];exact this
  ·cases k with
   |zero=>omega
   |succ k=>
    cases i with
    |zero=>
     simp at ha;subst ha;have:=h3 (j,e) (by simp) k b (by simpa using hb) hc
     rw[show j+(k+1)=j+1+k by omega];exact this
    |succ i=>
     have:=h4 i k a b (by omega) (by simpa using ha) (by simpa using hb) hc
     rw[show j+(k+1)=j+1+k by omega,show j+(i+1)=j+1+i by omega];exact this
inductive gP (P:Program) (ops:List Oper) (N0:Nat):Nat->List Oper->AS->List Entry->AS->Prop
 |nil (i:Nat) (σ:AS):gP P ops N0 i [] σ [] σ
 |cons (i:Nat) (o:Oper) (r:List Oper) (σ:AS) (e:Entry) (es:List Entry) (aK:AS) (h:E9 P ops o σ (N0+i) e) (hr:gP P ops N0 (i+1) r (σ.app o.dst e) es aK):gP P ops N0 i (o::r) σ (e::es) aK
section
variable {P : Program} {ops : Array Oper} {es : List Entry} {σ0 : AS} {N0 : Nat}
def cB(l:Array Bool)(i:Nat):Bool:=l.getD i false
end
theorem aA9{ops:Array Oper}(h:CJ ops=true):(∀(j:Nat) o,ops[j]? =some o->∀k∈vC o,k<j)/\
  ∀(i j:Nat) x y,i<j->ops[i]? =some x->ops[j]? =some y->FU ops x y=true->Reach ops.toList i j:=by
 unfold CJ aA8 at h;simp only[k6,gK,EG]at h;refine⟨fun j o ho k hk=> ?_,fun i j x y mL hx hy hc=> ?_⟩
 ·have h1:=h.1 j (jG.1 ho).1
  rw[ho]at h1;simpa using gK.1 h1 k hk
 ·have h1:=h.2 j (jG.1 hy).1 i mL
  rw[hx,hy]at h1;simp only[hc,TI,Tt]at h1;exact Fh h1
end Go.AL
namespace Go.AL
open Go.RowKit
def Rc:Option kJ->Option Entry
 |some (a,wr,rd)=>some ⟨true,a,wr,rd⟩
 |none=>none
def Re(c:Bool):Option kJ->Option Entry
 |some (a,[],rd)=>some ⟨c,a,[],rd⟩
 |_=>none
def Rf(c b:Bool):Option (Bool×Bool)->Option Entry
 |some (p,q)=>some ⟨c,.c (.bool (cond b p q)),[],[]⟩
 |none=>none
def YF(σ:AS)(c:Bool)(x y:Operand):Option Bool->Option Entry
 |some b=>Rf c b (B5 (kU (σ.get (c&&b) x)) (kU (σ.get (c&& !b) y)))
 |none=>none
def Rh(P:Program)(o:Oper)(σ:AS)(aF:Nat):Option Bool->Option Entry
 |some true=>match o.op with
  | .pick b x y=>YF σ true x y (kU (σ.get true b))
  |_=>Re true (res P (σ.get true) σ.H.get aF o)
 |some false=>some ⟨false,.c (.bool false),[],[]⟩
 |none=>none
def Fi(P:Program)(ops:List Oper)(o:Oper)(σ:AS)(aF:Nat):Option Entry:=
 match o.op with
 | .call ⟨.value _,_,_⟩=>none
 |_=>match o.guard with
  |none=>match o.op with
   | .pick b x y=>YF σ true x y (kU (σ.get true b))
   |_=>Rc (res P (σ.get true) σ.H.get aF o)
  |some (j,want)=>Rh P o σ aF (qL (pT ops j σ.env) want)
theorem aB0{σ:AS}{c:Bool}{x y:Operand}{b:Option Bool}{e:Entry}(h:YF σ c x y b=some e):∃b0 p q,b=some b0/\B5 (kU (σ.get (c&&b0) x)) (kU (σ.get (c&& !b0) y))=some (p,q)/\e=⟨c,.c (.bool (cond b0 p q)),[],[]⟩:=by
 unfold YF at h;split at h
 ·rename_i b0
  unfold Rf at h;split at h
  ·rename_i p q pR
   injection h with h
   exact⟨b0,p,q,rfl,pR,h.symm⟩
  ·cases h
 ·cases h
theorem ci2{P:Program}{ops:List Oper}{o:Oper}{σ:AS}{aF:Nat}{e:Entry}(h:Fi P ops o σ aF=some e):E9 P ops o σ aF e:=by
 unfold Fi at h;split at h
 ·cases h
 ·rename_i sI
  split at h
  ·rename_i hg
   split at h
   ·rename_i b x y aO
    obtain⟨b0,p,q,h1,h2,rfl⟩:=aB0 h;exact .pick b x y b0 p q aO (by unfold mZ;rw[hg]) h1 h2 rfl rfl
   ·unfold Rc at h
    split at h
    ·rename_i a wr rd mP
     injection h with h
     subst h;exact .res (by unfold mZ;rw[hg]) mP (.inr rfl)
    ·cases h
  ·rename_i j want hg
   unfold Rh at h;split at h
   ·rename_i hc
    split at h
    ·rename_i b x y aO
     obtain⟨b0,p,q,h1,h2,rfl⟩:=aB0 h;exact .pick b x y b0 p q aO (by unfold mZ;rw[hg];exact hc) h1 h2 rfl rfl
    ·unfold Re at h
     split at h
     ·rename_i a rd mP
      injection h with h
      subst h;exact .res (by unfold mZ;rw[hg];exact hc) mP (.inl rfl)
     ·cases h
   ·rename_i hc
    injection h with h
    subst h;exact .skip (by unfold mZ;rw[hg];exact hc) rfl rfl
   ·cases h
def aB1(e:Entry)(p:List Entry×AS×Nat×List Oper):List Entry×AS×Nat×List Oper:=(e::p.1,p.2)
def K4(P:Program)(ops:List Oper)(N0:Nat):Nat->List Oper->AS->List Entry×AS×Nat×List Oper
 |i,[],σ=>([],σ,i,[])
 |i,o::r,σ=>Ri (K4 P ops N0 (i+1) r) i o r σ (Fi P ops o σ (N0+i))
where
 Ri (f:AS->List Entry×AS×Nat×List Oper) (i:Nat) (o:Oper) (r:List Oper) (σ:AS):Option Entry->List Entry×AS×Nat×List Oper
  |some e=>aB1 e (f (σ.app o.dst e))
  |none=>([],σ,i,o::r)
theorem aB2{P:Program}{ops:List Oper}{N0:Nat}{es2:List Entry}{eA:AS}:∀{l:List Oper} {i:Nat} {σ:AS} {p:List Entry×AS×Nat×List Oper},K4 P ops N0 i l σ=p->gP P ops N0 p.2.2.1 p.2.2.2 p.2.1 es2 eA->gP P ops N0 i l σ (p.1++es2) eA
 |[],i,σ,p,hr,h=>by simp only[K4]at hr;subst hr;exact h
 |o::r,i,σ,p,hr,h=>by
  simp only[K4]at hr;unfold K4.Ri at hr;split at hr
  ·rename_i e he
   subst hr;exact .cons i o r σ e _ eA (ci2 he) (aB2 rfl h)
  ·subst hr;exact h
theorem NJ{P:Program}{ops:List Oper}{N0 i:Nat}{σ:AS}:gP P ops N0 i [] σ [] σ:= .nil i σ
theorem ci3{P:Program}{ops:List Oper}{N0 i:Nat}{o:Oper}{r:List Oper}{σ eA:AS}{es:List Entry}{f:Operand}{as:Array Operand}{ts:Array TypeId}{n:FuncId}{args:List AV}{a:AV}(aO:o.op= .call ⟨.value f,as,ts⟩)(hg:o.guard=none)
  (hp:eU P n args (·=a)) (hc:fZ (σ.get true f) (dZ (σ.get true) as.toList)=some (n,args)) (hn:∀a∈args,bK a) (h:gP P ops N0 (i+1) r (σ.app o.dst ⟨true,a,[],[]⟩) es eA):gP P ops N0 i (o::r) σ (⟨true,a,[],[]⟩::es) eA:=
 .cons i o r σ _ es eA (.call f as ts n args aO (by unfold mZ;rw[hg]) hc (fun _=>⟨hn,hp⟩) rfl) h
theorem ci4{P:Program}{ops:List Oper}{N0 i:Nat}{o:Oper}{r:List Oper}{σ eA:AS}{es:List Entry}{f:Operand}{as:Array Operand}{ts:Array TypeId}{n:FuncId}{args:List AV}{a:AV}{j:Nat}{want c:Bool}(aO:o.op= .call ⟨.value f,as,ts⟩)(hg:o.guard=some (j,want))
  (hw:qL (pT ops j σ.env) want=some c) (hp:eU P n args (·=a)) (hc:fZ (σ.get c f) (dZ (σ.get c) as.toList)=some (n,args)) (hn:∀a∈args,bK a) (h:gP P ops N0 (i+1) r (σ.app o.dst ⟨c,a,[],[]⟩) es eA):gP P ops N0 i (o::r) σ (⟨c,a,[],[]⟩::es) eA:=
 .cons i o r σ _ es eA (.call f as ts n args aO (by unfold mZ;rw[hg];exact hw) hc (fun _=>⟨hn,hp⟩) rfl) h
structure Holds(σ:AS)(env:List (Nat×Bool×AV))(H:Heap):Prop where
 env:∀t a,lk env t=some a->lk σ.env t=some a
 next:σ.H.next<=H.next
 get:∀id b,H.get id=some b->σ.H.get id=some b
theorem BG{P:Program}{σ:AS}{Q:Exit->AS->Prop}{c:Code}{env:List (Nat×Bool×AV)}{H:Heap}(hh:Holds σ env H)(h:AW P c ⟨env,H,σ.nt⟩ Q):AW P c σ Q:=fun ro E W act eN hr=>
 h ro E W act eN ⟨hr.defers,hr.size,fun t c a ha=>hr.env t c a (hh.env t _ ha),⟨fun id aB=>vF (hr.heap.next id aB) hh.next,hr.heap.core.QQ fun id b hb=>⟨b,hh.get id b hb,aI.le_refl b⟩⟩⟩
theorem UR{P:Program}{σ:AS}{Q:Exit->AS->Prop}{c:Code}(S:Nat->List (Nat×Bool×AV)->Heap->Prop)(n:Nat)(h0:∃env H,S n env H/\Holds σ env H)
  (round:∀n env H,S n env H->AW P c ⟨env,H,σ.nt⟩ (dR (fun aK=>∃m,m<n/\∃env H,S m env H/\Holds aK env H) Q)):AW P (.loop c) σ Q:=by
 have key:AW P (.loop c) σ (fun e aK=>aK.nt=σ.nt->Q e aK):=by
  refine bX3 (fun n aK=>aK.nt=σ.nt/\∃env H,S n env H/\Holds aK env H) n ⟨rfl,h0⟩ ?_
  rintro n aK ⟨cM,env,H,hS,hh⟩;have hr:=round n env H hS;rw[<-cM]at hr;intro ro E W act eN cC;refine wpIn_mono (BG hh hr ro E W act eN cC) fun e a w ⟨E',eA,h1,h2,h3,h4⟩=>⟨E',eA,h1,h2,h3,?_⟩
  cases e with
  |normal=>
   obtain⟨m,hm,h5⟩:=h4;exact⟨m,hm,h3.trans cM,h5⟩
  |_=>exact fun _=>h4
 intro ro E W act eN cC;exact wpIn_mono (key ro E W act eN cC) fun e a w ⟨E',aK,h1,h2,h3,h4⟩=>⟨E',aK,h1,h2,h3,h4 h3⟩
theorem holds_nil{σ:AS}{H:Heap}(hn:σ.H.next<=H.next)(hg:∀id b,H.get id=some b->σ.H.get id=some b):Holds σ [] H:=⟨fun t a h=>by simp[lk]at h,hn,hg⟩
theorem uG{σ:AS}{env:List (Nat×Bool×AV)}{H:Heap}{t:Nat}{a:Bool×AV}(h:lk σ.env t=some a)(hr:Holds σ env H):Holds σ ((t,a)::env) H:=
 ⟨fun t' a' h'=>by
   simp only[lk]at h';split at h'
   ·rename_i ht;subst ht;rw[<-h'];exact h
   ·exact hr.env t' a' h',hr.next,hr.get⟩
attribute [go_sem] Rc Re Rf YF Rh Fi aB1 K4 K4.Ri AS.app TL List.contains_cons List.contains_nil Ts List.any_nil K3 CK zK
end Go.AL
namespace Go.AL
open Go.RowKit
theorem Rj{ops:Array Oper}{es:List Entry}{σ0:AS}{D D':Nat->Bool}:∀{k:Nat},(∀i,i<k->D i=D' i)->nM ops es σ0 D k=nM ops es σ0 D' k
 |0,_=>rfl
 |k+1,h=>by
  have h1:=Rj (ops:=ops) (es:=es) (σ0:=σ0) (k:=k) fun i hi=>h i (by omega)
  simp only[nM,h k (by omega),h1]
section
variable {P : Program} {ops : Array Oper} {es : List Entry} {σ0 : AS} {N0 : Nat}
theorem aB4{E0:Env}{W0:World}{A0:Act}{ro:Option Nat}{Q:Exit->Act->World->Prop}{k0:Nat}(rS:k0<=ops.size)(hlen:es.length=k0)(NK:∀j,k0<=j->j<ops.size->∀i,i<j->Reach ops.toList i j)(IF:∀(j:Nat) o e,ops[j]? =some o->es[j]? =some e->E9 P ops.toList o (nM ops es σ0 (fun _=>true) j) (N0+j) e)
  (HV:∀(j:Nat) o,ops[j]? =some o->∀k∈vC o,k<j)
  (aB5:∀(i j:Nat) x y,i<j->ops[i]? =some x->ops[j]? =some y->FU ops x y=true->Reach ops.toList i j)
  (aB6:∀(i j:Nat) a b,i<j->es[i]? =some a->es[j]? =some b->CK a b=true->Reach ops.toList i j)
  (hd:ops.toList.all (fY σ0.nt)=true) (cK2:N0+k0<=σ0.H.next)
  (hQ:∀(fuel:Nat) (l:Array Bool) (E:Env) (W:World) (act:Act),l.size=ops.size->(List.range ops.size).countP (fun i=> !cB l i)<=fuel->(∀i,cB l i=decide (i<k0))->eE E0 W0 A0 E W act->Rel E W (nM ops es σ0 (fun _=>true) k0) act->wpAnyIn (kK ro) 3 P .any ops Q fuel l act W):
  ∀(fuel:Nat) (l:Array Bool) (E:Env) (W:World) (act:Act),l.size=ops.size->(List.range ops.size).countP (fun i=> !cB l i)<=fuel->YD ops.toList (cB l)->(∀i,k0<=i->cB l i=false)->eE E0 W0 A0 E W act->Rel E W (nM ops es σ0 (cB l) k0) act->
   (∀id,E.U id->id<N0\/∃i,cB l i=true/\id=N0+i)->wpAnyIn (kK ro) 3 P .any ops Q fuel l act W:=by
 --some of J8 first are not listed:one of cK4 is ready
 have S9:∀(l:Array Bool),l.size=ops.size->YD ops.toList (cB l)->∀i,i<k0->cB l i=false->∃j,j<k0/\j∈Region.ready .any ops l:=by
  intro l hl hc i
  induction i using Nat.strongRecOn with
  |_ i ih=>
   intro hi SA;by_cases eR:∀k∈vC (ops[i]'(by omega)),cB l k=true
   ·refine⟨i,hi,?_⟩
    rw[mem_ready]
    have bU:l.getD i true=false:=by
     have:i<l.size:=by omega
     simp[cB,this]at SA;simp[this,SA]
    refine⟨bU,ops[i]'(by omega),G5 (by omega),fun e he hb=> ?_⟩
    exact eR e.on (kV.2 ⟨e,pC.2 ⟨by simpa using he,hb⟩,rfl⟩)
   ·have ⟨k,hk⟩:∃k,¬(k∈vC (ops[i]'(by omega))->cB l k=true):=by
     by_cases h:∃k,¬(k∈vC (ops[i]'(by omega))->cB l k=true)
     ·exact h
     ·exact absurd (fun k hk=>aG9 fun hn=>h ⟨k,fun h2=>hn (h2 hk)⟩) eR
    have BZ:k∈vC (ops[i]'(by omega)):=aG9 fun h=>hk fun h2=>absurd h2 h
    have iX:cB l k=false:=by
     cases h:cB l k
     ·rfl
     ·exact absurd (fun _=>h) hk
    have bG:=HV i _ (G5 (by omega)) k BZ
    exact ih k bG (by omega) iX
 intro fuel
 induction fuel with
 |zero=>
  intro l E W act hl FV hc Fj hv hr hU;by_cases eR:∀i,i<k0->cB l i=true
  ·have hex:∀i,cB l i=decide (i<k0):=fun i=>by
    by_cases hi:i<k0
    ·simp[hi,eR i hi]
    ·simp[hi,Fj i (by omega)]
   refine hQ 0 l E W act hl FV hex hv ?_;rw[show nM ops es σ0 (fun _=>true) k0=nM ops es σ0 (cB l) k0 from Rj fun i hi=>(eR i hi).symm]
   exact hr
  ·exfalso
   have ⟨i,hi,SA⟩:∃i,i<k0/\cB l i=false:=by
    by_cases h:∃i,i<k0/\cB l i=false
    ·exact h
    ·exact absurd (fun i hi=>by cases h2:cB l i with|false=>exact absurd ⟨i,hi,h2⟩ h|true=>rfl) eR
   have h2:0<(List.range ops.size).countP (fun i=> !cB l i):=aH5.2 ⟨i,by simp;omega,by simp[SA]⟩
   omega
 |succ fuel ih=>
  intro l E W act hl FV hc Fj hv hr hU;by_cases eR:∀i,i<k0->cB l i=true
  ·have hex:∀i,cB l i=decide (i<k0):=fun i=>by
    by_cases hi:i<k0
    ·simp[hi,eR i hi]
    ·simp[hi,Fj i (by omega)]
   refine hQ _ l E W act hl FV hex hv ?_;rw[show nM ops es σ0 (fun _=>true) k0=nM ops es σ0 (cB l) k0 from Rj fun i hi=>(eR i hi).symm]
   exact hr
  have ⟨i0,L8,aB7⟩:∃i,i<k0/\cB l i=false:=by
   by_cases h:∃i,i<k0/\cB l i=false
   ·exact h
   ·exact absurd (fun i hi=>by cases h2:cB l i with|false=>exact absurd ⟨i,hi,h2⟩ h|true=>rfl) eR
  obtain⟨j0,hj0,aB8⟩:=S9 l hl hc i0 L8 aB7;refine⟨(fun dS=>by rw[dS]at aB8;cases aB8),fun j hj=> ?_⟩
  obtain⟨h0,o,ho,YG⟩:=mem_ready.1 hj;have DZ:j<ops.size:=(jG.1 ho).1
  have tA:cB l j=false:=by
   have:j<l.size:=by omega
   simp[this]at h0;simp[cB,this,h0]
  have rP:ops.toList[j]? =some o:=by simpa using ho
  have HX:∀k∈vC o,cB l k=true:=fun k hk=>by
   obtain⟨e,he,rfl⟩:=kV.1 hk;obtain⟨lC,mX⟩:=pC.1 he;exact YG e (by simpa using lC) mX
  have SB:∀i,Reach ops.toList i j->cB l i=true:=fun i h=>by
   cases h with
   |step h hi=>rw[rP]at h;injection h with h;subst h;exact HX _ hi
   |trans h hk hr=>rw[rP]at h;injection h with h;subst h;exact hr.closed hc (HX _ hk)
  have ci5:∀i,Reach ops.toList j i->cB l i=false:=fun i h=>by
   cases SA:cB l i
   ·rfl
   ·have:=h.closed hc SA;rw[tA]at this;cases this
  have LN:j<k0:=by
   rcases oA j k0 with h|h
   ·exact h
   ·have:=SB i0 (NK j h DZ i0 (by omega))
    rw[aB7]at this;cases this
  obtain⟨e,he⟩:∃e,es[j]? =some e:=⟨es[j]'(by omega),eQ (by omega)⟩
  --of two cK5 cK6 one cK7,cK8 is done
  have aB9:∀i,i<ops.size->(∀x y,ops[i]? =some x->ops[j]? =some y->(i<j->Reach ops.toList i j)/\(j<i->Reach ops.toList j i))->i≠j->cB l i=decide (i<j):=by
   intro i hi ci6 aJ;obtain⟨x,hx⟩:∃x,ops[i]? =some x:=⟨ops[i],G5 hi⟩;obtain⟨h1,h2⟩:=ci6 x o hx ho;rcases Nat.lt_or_gt_of_ne aJ with h|h
   ·simp[h,SB i (h1 h)]
   ·have:¬i<j:=by omega
    simp[this,ci5 i (h2 h)]
  have ci7:∀i x,i<ops.size->ops[i]? =some x->i≠j->(FU ops x o=true\/FU ops o x=true)->cB l i=decide (i<j):=fun i x hi hx aJ wT=>
   aB9 i hi (fun x' y' kY YH=>by
    rw[hx]at kY;injection kY with kY;subst kY
    rw[ho]at YH;injection YH with YH;subst YH
    have YI:∀a b:Oper,FU ops a b=FU ops b a:=fun a b=>by unfold FU;rw[Bool.or_comm]
    have hb:FU ops x o=true:=wT.elim id fun h=>by rw[YI];exact h
    exact⟨fun h=>aB5 i j x o h hx ho hb,fun h=>aB5 j i o x h ho hx (by rw[YI];exact hb)⟩) aJ
  have ci8:∀i a,i<ops.size->es[i]? =some a->i≠j->(CK a e=true\/CK e a=true)->cB l i=decide (i<j):=fun i a hi ha aJ wT=>
   aB9 i hi (fun x' y' kY YH=>by
    have YI:∀a b:Entry,CK a b=CK b a:=fun a b=>by unfold CK;rw[Bool.or_comm]
    have hb:CK a e=true:=wT.elim id fun h=>by rw[YI];exact h
    exact⟨fun h=>aB6 i j a e h ha he hb,fun h=>aB6 j i e a h he ha (by rw[YI];exact hb)⟩) aJ
  have aC0:∀i t,wt ops es t i=true->∃x,ops[i]? =some x/\x.dst=some t:=fun i t h=>by
   unfold wt at h;split at h
   ·rename_i x e' hx vU;exact⟨x,hx,by simpa using h⟩
   ·cases h
  have ci9:∀i q,wk ops es q i=true->∃a,es[i]? =some a/\(B9 a.wr q).isSome=true:=fun i q h=>by
   unfold wk at h;split at h
   ·rename_i x e' hx vU;exact⟨e',vU,h⟩
   ·cases h
  have aC1:∀(wr:List (Nat×Option aI)) q,(B9 wr q).isSome=true->∃p∈wr,p.1=q:=by
   intro wr q
   induction wr with
   |nil=>intro h;simp[B9]at h
   |cons p r ih=>
    intro h;obtain⟨pi,pb⟩:=p;simp only[B9]at h;cases hw:B9 r q with
    |some x=>
     obtain⟨p',h1,h2⟩:=ih (by rw[hw];rfl)
     exact⟨p',by simp[h1],h2⟩
    |none=>
     simp only[hw]at h;by_cases hqp:q=pi
     ·exact⟨(pi,pb),by simp,hqp.symm⟩
     ·simp[hqp]at h
  --Rk
  have Rk:∀t∈YE ops o,∀i,i<ops.size->i≠j->wt ops es t i=true->cB l i=decide (i<j):=fun t ht i hi aJ hw=>by
   obtain⟨x,hx,Rl⟩:=aC0 i t hw;refine ci7 i x hi hx aJ (.inl ?_);unfold FU;rw[Rl];simp[ht]
  have aC3:∀q,K3 e q=true->∀i,i<ops.size->i≠j->wk ops es q i=true->cB l i=decide (i<j):=fun q hq i hi aJ hw=>by
   obtain⟨a,ha,hs⟩:=ci9 i q hw;obtain⟨p,hp,rfl⟩:=aC1 _ _ hs;refine ci8 i a hi ha aJ (.inl ?_);unfold CK;have:(a.wr.any fun p=>K3 e p.1)=true:=vX.2 ⟨p,hp,hq⟩
   simp[this]
  have hE:=IF j o e ho he
  have hE':E9 P ops.toList o (nM ops es σ0 (cB l) k0) (N0+j) e:=by
   refine hE.congr (fun t ht=> ?_) fun q hq=> ?_
   ·rw[YB,YB]
    have Rm:top (fun i=>cB l i&&wt ops es t i) k0=top (fun i=>decide (i<j)&&wt ops es t i) k0:=NI fun i hi=>by
     cases hw:wt ops es t i
     ·simp
     ·by_cases aJ:i=j
      ·subst aJ;simp[tA]
      ·rw[Rk t (by unfold YE;exact uE _ ht) i (by omega) aJ hw]
    rw[Rm,Qv (p:=fun i=>decide (i<j)&&wt ops es t i) (j:=j) (Nat.le_of_lt LN) (fun i _ h=>by simp at h;exact h.1)]
    rw[NI (n:=j) (q:=fun i=>(fun _=>true) i&&wt ops es t i) fun i hi=>by simp[hi]]
   ·rw[YC,YC]
    have Rm:top (fun i=>cB l i&&wk ops es q i) k0=top (fun i=>decide (i<j)&&wk ops es q i) k0:=NI fun i hi=>by
     cases hw:wk ops es q i
     ·simp
     ·by_cases aJ:i=j
      ·subst aJ;simp[tA]
      ·rw[aC3 q (by unfold K3;simp[hq]) i (by omega) aJ hw]
    rw[Rm,Qv (p:=fun i=>decide (i<j)&&wk ops es q i) (j:=j) (Nat.le_of_lt LN) (fun i _ h=>by simp at h;exact h.1)]
    rw[NI (n:=j) (q:=fun i=>(fun _=>true) i&&wk ops es q i) fun i hi=>by simp[hi]]
  have F8:fY σ0.nt o=true:=gK.1 hd o (by rw[I8];exact I9 ho)
  have gR:¬E.U (N0+j):=fun h=>by
   rcases hU _ h with h1|⟨i,h1,h2⟩
   ·omega
   ·have:i=j:=by omega
    subst this;rw[tA]at h1;cases h1
  have u4:(l.setIfInBounds j true).size=ops.size:=by simpa using hl
  have mJ:∀i,cB (l.setIfInBounds j true) i=(cB l i||decide (i=j)):=fun i=>by
   unfold cB;by_cases mL:i=j
   ·subst mL
    have:i<l.size:=by omega
    simp[this]
   ·simp[Gi (mQ mL),mL]
  have dA:=E9.run (Q:=Q) (ro:=ro) hE' (by rw[K2];exact F8) hr gR (by rw[S8];omega) (next:=wpAnyIn (kK ro) 3 P .any ops Q fuel (l.setIfInBounds j true)) (fun E' W' cF lR cZ yE=>by
   refine ih (l.setIfInBounds j true) E' W' cF u4 ?_ ?_ (fun i hi=>by rw[mJ,Fj i hi];simp;omega) (hv.trans lR) ?_ ?_
   ·have bG:(List.range ops.size).countP (fun i=> !cB (l.setIfInBounds j true) i)<(List.range ops.size).countP (fun i=> !cB l i):=by
     have key:∀n,j<n->(List.range n).countP (fun i=> !cB (l.setIfInBounds j true) i)<(List.range n).countP (fun i=> !cB l i):=by
      intro n
      induction n with
      |zero=>intro h;omega
      |succ n YJ=>
       intro aC4;rw[yK,Z8,Z8];by_cases aJ:j=n
       ·subst aJ
        have hle:(List.range j).countP (fun i=> !cB (l.setIfInBounds j true) i)<=(List.range j).countP (fun i=> !cB l i):=aH6 fun i _ h=>by
         rw[mJ]at h;simp at h;simp[h.1]
        have YK:cB (l.setIfInBounds j true) j=true:=by rw[mJ];simp
        simp only[Z9,ZA,YK,tA,TI,Fw,mG,if_true,if_false];omega
       ·have:=YJ (by omega)
        have hn:cB (l.setIfInBounds j true) n=cB l n:=by rw[mJ];simp[mQ aJ]
        simp only[Z9,ZA,hn];omega
     exact key _ DZ
    omega
   ·intro i x hx hi k hk
    rw[mJ]at hi⊢;simp only[KA,decide_eq_true_eq]at hi⊢;rcases hi with hi|hi
    ·exact .inl (hc i x hx hi k hk)
    ·subst hi
     rw[rP]at hx;injection hx with hx
     subst hx;exact .inl (HX k hk)
   ·refine cZ.ext (fun t=> ?_) (fun q=> ?_) (by rw[aA2,S8,S8]) (by rw[aA1,K2,K2])
    ·rw[aA4,YB,YB]
     by_cases FW:o.dst=some t
     ·rw[if_pos FW]
      have NL:wt ops es t j=true:=by unfold wt;simp[ho,he,FW]
      rw[Qu (j:=j) LN (by simp[mJ,NL]) fun i hi h=> ?_]
      ·simp[Qy,he]
      ·simp only[k6]at h
       by_cases aJ:i=j
       ·omega
       ·have h1:=Rk t (by unfold YE;rw[FW];simp) i (by omega) aJ h.2
        have h2:=h.1;rw[mJ,h1]at h2;simp[aJ]at h2;omega
     ·rw[if_neg FW]
      have NL:wt ops es t j=false:=by
       cases hw:wt ops es t j
       ·rfl
       ·obtain⟨x,hx,Rl⟩:=aC0 j t hw
        rw[ho]at hx;injection hx with hx;subst hx
        exact absurd Rl FW
      rw[NI fun i hi=> ?_]
      by_cases aJ:i=j
      ·subst aJ;simp[NL]
      ·simp[mJ,aJ]
    ·rw[aA3,Qw,YC,YC]
     cases hw:B9 e.wr q with
     |some b=>
      have NL:wk ops es q j=true:=by unfold wk;simp[ho,he,hw]
      rw[Qu (j:=j) LN (by simp[mJ,NL]) fun i hi h=> ?_]
      ·simp[Qz,he,hw]
      ·simp only[k6]at h
       by_cases aJ:i=j
       ·omega
       ·obtain⟨p,hp,pR⟩:=aC1 e.wr q (by rw[hw];rfl)
        have hk:K3 e q=true:=by
         unfold K3;have:(e.wr.any fun p=>p.1==q)=true:=vX.2 ⟨p,hp,by simp[pR]⟩
         simp[this]
        have h1:=aC3 q hk i (by omega) aJ h.2
        have h2:=h.1;rw[mJ,h1]at h2;simp[aJ]at h2;omega
     |none=>
      have NL:wk ops es q j=false:=by unfold wk;simp[ho,he,hw]
      simp only[aH3];rw[NI fun i hi=> ?_]
      by_cases aJ:i=j
      ·subst aJ;simp[NL]
      ·simp[mJ,aJ]
   ·intro id aB
    rcases yE id aB with h1|h1
    ·rcases hU id h1 with h2|⟨i,h2,h3⟩
     ·exact .inl h2
     ·exact .inr ⟨i,by rw[mJ];simp[h2],h3⟩
    ·exact .inr ⟨j,by rw[mJ];simp,h1⟩)
  unfold wpOpIn;simp only[ho];by_cases hw:Region.wanted o (yielded ops act.tmps)=true
  ·simp only[hw,if_true]at dA⊢
   exact dA
  ·simp only[hw]at dA⊢
   exact⟨fun _ _=>trivial,dA⟩
end
theorem gP.Gq{P:Program}{ops:Array Oper}{N0 k0:Nat}{σ0:AS}(hk:k0<=ops.size){i:Nat}{r:List Oper}{σ aK:AS}{es:List Entry}(h:gP P ops.toList N0 i r σ es aK):
  ∀pre:List Entry,pre.length=i->(ops.toList.take k0).drop i=r->i<=k0->σ=nM ops (pre++es) σ0 (fun _=>true) i->
   (pre++es).length=k0/\aK=nM ops (pre++es) σ0 (fun _=>true) k0/\
   ∀(j:Nat) o e,i<=j->ops[j]? =some o->(pre++es)[j]? =some e->E9 P ops.toList o (nM ops (pre++es) σ0 (fun _=>true) j) (N0+j) e:=by
 induction h with
 |nil i σ=>
  intro pre hp hd hi Fk
  have hlen:k0=i:=by
   have:=congrArg List.length hd;simp at this;omega
  refine⟨by simp;omega,by rw[hlen];exact Fk,fun j o e hj ho he=> ?_⟩
  have:=(dV.1 he).1;simp at this;omega
 |cons i o r σ e es aK he _ ih=>
  intro pre hp hd hi Fk
  have EJ:(ops.toList.take k0)[i]? =some o:=by
   have:=mF (xs:=ops.toList.take k0) (i:=i) (j:=0);rw[hd]at this;simpa using this.symm
  have iH:i<k0:=by
   have:=(dV.1 EJ).1;simp at this;omega
  have ho:ops[i]? =some o:=by
   rw[gU,if_pos iH]at EJ;simpa using EJ
  have bG:i<ops.size:=(jG.1 ho).1;have H7:pre++e::es=(pre++[e])++es:=by simp
  have sZ:(pre++e::es)[i]? =some e:=by rw[k7 (by omega)];simp[hp]
  have eG:σ.app o.dst e=nM ops ((pre++[e])++es) σ0 (fun _=>true) (i+1):=by
   simp only[nM,if_true];rw[<-H7];simp only[ho,sZ];rw[<-Fk]
  obtain⟨h1,h2,h3⟩:=ih (pre++[e]) (by simp[hp]) (by rw[<-O7,hd];rfl) (by omega) eG
  refine⟨by rw[H7];exact h1,by rw[H7];exact h2,fun j o' e' hj yF vU=> ?_⟩
  by_cases hji:j=i
  ·subst hji
   rw[ho]at yF;injection yF with yF
   subst yF;rw[sZ]at vU;injection vU with vU
   subst vU;rw[<-Fk];exact he
  ·rw[H7]at vU⊢
   exact h3 j o' e' (by omega) yF vU
section
variable {P : Program} {ops : Array Oper} {N0 : Nat}
theorem aC5{Q:Exit->Act->World->Prop}{K:AS->Prop}{nt k0:Nat}(HV:∀(j:Nat) o,ops[j]? =some o->∀k∈vC o,k<j)(NK:∀j,k0<=j->j<ops.size->∀i,i<j->Reach ops.toList i j)
  (hd:ops.toList.all (fY nt)=true) {E0:Env} {W0:World} {A0:Act} {ro:Option Nat} (hQ:∀E W act σ,eE E0 W0 A0 E W act->Rel E W σ act->σ.nt=nt->K σ->Q .normal act W):
  ∀(d m:Nat),ops.size-m=d->m<=ops.size->k0<=m->∀(fuel:Nat) (l:Array Bool) (E:Env) (W:World) (act:Act) (σ:AS),l.size=ops.size->(List.range ops.size).countP (fun i=> !cB l i)<=fuel->(∀i,cB l i=decide (i<m))->
   eE E0 W0 A0 E W act->Rel E W σ act->σ.nt=nt->b9 P true ops (ops.toList.drop m) σ K->wpAnyIn (kK ro) 3 P .any ops Q fuel l act W
 |0,m,hm,hle,hk,fuel,l,E,W,act,σ,hl,FV,hex,hv,hr,cM,h=>by
  have sG:m=ops.size:=by omega
  have dS:Region.ready .any ops l=[]:=by
   cases cj2:Region.ready .any ops l with
   |nil=>rfl
   |cons i rest=>
    exfalso;have nQ:i∈Region.ready .any ops l:=by rw[cj2];simp
    obtain⟨h0,o,ho,_⟩:=mem_ready.1 nQ;have hi:i<ops.size:=(jG.1 ho).1;have h1:cB l i=true:=by rw[hex];simp;omega
    have:i<l.size:=by omega
    simp[this]at h0;simp[cB,this,h0]at h1
  rw[sG,I5 (by simp)]at h
  have hq:=hQ E W act σ hv hr cM h;cases fuel with
  |zero=>exact⟨dS,hq⟩
  |succ fuel=>exact⟨fun _=>hq,fun j hj=>by rw[dS]at hj;cases hj⟩
 |d+1,m,hm,hle,hk,fuel,l,E,W,act,σ,hl,FV,hex,hv,hr,cM,h=>by
  have sG:m<ops.size:=by omega
  have iE:YD ops.toList (cB l):=fun j o ho hj k hk=>by
   rw[hex]at hj⊢;simp at hj⊢;have:=HV j o (by simpa using ho) k hk
   omega
  have YL:m∈Region.ready .any ops l:=by
   rw[mem_ready];have h1:cB l m=false:=by rw[hex];simp
   have bU:l.getD m true=false:=by
    have:m<l.size:=by omega
    simp[cB,this]at h1;simp[this,h1]
   refine⟨bU,ops[m],G5 sG,fun e he hb=> ?_⟩
   have hk:e.on∈vC ops[m]:=kV.2 ⟨e,pC.2 ⟨by simpa using he,hb⟩,rfl⟩
   have:=HV m _ (G5 sG) e.on hk
   show cB l e.on=true
   rw[hex];simpa using this
  have h2:0<(List.range ops.size).countP (fun i=> !cB l i):=aH5.2 ⟨m,by simpa using sG,by rw[hex];simp⟩
  obtain⟨fuel,rfl⟩:∃f,fuel=f+1:=⟨fuel-1,by omega⟩
  refine⟨(fun dS=>by rw[dS]at YL;cases YL),fun j hj=> ?_⟩
  obtain⟨h0,o,ho,YG⟩:=mem_ready.1 hj;have DZ:j<ops.size:=(jG.1 ho).1
  have tA:cB l j=false:=by
   have:j<l.size:=by omega
   simp[this]at h0;simp[cB,this,h0]
  have rP:ops.toList[j]? =some o:=by simpa using ho
  have HX:∀k∈vC o,cB l k=true:=fun k hk=>by
   obtain⟨e,he,rfl⟩:=kV.1 hk;obtain⟨lC,mX⟩:=pC.1 he;exact YG e (by simpa using lC) mX
  have SB:∀i,Reach ops.toList i j->cB l i=true:=fun i h=>by
   cases h with
   |step h hi=>rw[rP]at h;injection h with h;subst h;exact HX _ hi
   |trans h hk hr=>rw[rP]at h;injection h with h;subst h;exact hr.closed iE (HX _ hk)
  have Ro:j=m:=by
   have h3:m<=j:=by rw[hex]at tA;simpa using tA
   rcases oA m j with h4|h4
   ·have:=SB m (NK j (by omega) DZ m h4)
    rw[hex]at this;simp at this
   ·omega
  subst Ro;rw[Fu (by simpa using sG)]at h
  have Rp:ops.toList[j]'(by simpa using sG)=o:=by
   rw[eQ (by simpa using sG)]at rP
   exact KG rP
  rw[Rp]at h
  have mJ:∀i,cB (l.setIfInBounds j true) i=(cB l i||decide (i=j)):=fun i=>by
   unfold cB;by_cases mL:i=j
   ·subst mL
    have:i<l.size:=by omega
    simp[this]
   ·simp[Gi (mQ mL),mL]
  have F8:fY σ.nt o=true:=by rw[cM];exact gK.1 hd o (by rw[I8];exact I9 ho)
  have dA:=XM (ro:=ro) (next:=wpAnyIn (kK ro) 3 P .any ops Q fuel (l.setIfInBounds j true)) (Q:=Q) h F8 hr (fun E' W' aK cF lR cZ YM hK=>by
   refine aC5 HV NK hd hQ d (j+1) (by omega) (by omega) (by omega) fuel _ E' W' cF aK (by simpa using hl) ?_ (fun i=> ?_) (hv.trans lR) cZ (YM.trans cM) hK
   ·have key:∀n,j<n->(List.range n).countP (fun i=> !cB (l.setIfInBounds j true) i)<(List.range n).countP (fun i=> !cB l i):=by
     intro n
     induction n with
     |zero=>intro h;omega
     |succ n YJ=>
      intro aC4;rw[yK,Z8,Z8];by_cases aJ:j=n
      ·subst aJ
       have hle:(List.range j).countP (fun i=> !cB (l.setIfInBounds j true) i)<=(List.range j).countP (fun i=> !cB l i):=aH6 fun i _ h=>by
        rw[mJ]at h;simp at h;simp[h.1]
       have YK:cB (l.setIfInBounds j true) j=true:=by rw[mJ];simp
       simp only[Z9,ZA,YK,tA,TI,Fw,mG,if_true,if_false];omega
      ·have:=YJ (by omega)
       have hn:cB (l.setIfInBounds j true) n=cB l n:=by rw[mJ];simp[mQ aJ]
       simp only[Z9,ZA,hn];omega
    have:=key _ sG;omega
   ·rw[mJ,hex]
    by_cases h5:i<j
    ·simp[h5];omega
    ·by_cases h6:i=j
     ·simp[h6]
     ·simp[h5,h6];omega)
  unfold wpOpIn;simp only[ho];by_cases hw:Region.wanted o (yielded ops act.tmps)=true
  ·simp only[hw,if_true]at dA⊢
   exact dA
  ·simp only[hw]at dA⊢
   exact⟨fun _ _=>trivial,dA⟩
end
def NM(ops:List Oper)(k:Nat):Bool:=decide (k<=ops.length)&&(List.range ops.length).all fun j=>decide (j<k)||(List.range j).all fun i=>((tab ops).getD j 0).testBit i
theorem aC6{ops:Array Oper}{k:Nat}(h:NM ops.toList k=true):k<=ops.size/\∀j,k<=j->j<ops.size->∀i,i<j->Reach ops.toList i j:=by
 unfold NM at h;simp only[k6,decide_eq_true_eq,gK,EG,KA]at h;refine⟨by simpa using h.1,fun j hj bG i hi=> ?_⟩
 rcases h.2 j (by simpa using bG)with h2|h2
 ·omega
 ·exact Fh (h2 i hi)
theorem aC7{P:Program}{σ aK:AS}{Q:Exit->AS->Prop}{id:Nat}{ops:Array Oper}{es:List Entry}(k0:Nat)(hm:P.follows .mixedOrders=true)(hs:CJ ops=true)(ht:NM ops.toList k0=true)(hd:ops.toList.all (fY σ.nt)=true)
  (hr:gP P ops.toList σ.H.next 0 (ops.toList.take k0) {σ with H:=⟨σ.H.next+ops.size,σ.H.get⟩} es aK) (uB:zK (tab ops.toList) 0 [] es=true) (h:b9 P true ops (ops.toList.drop k0) aK (Q .normal)):AW P (.region id ops true) σ Q:=fun ro E W act eN cC=>by
 obtain⟨h1,h2⟩:=aA9 hs;obtain⟨hk,F7⟩:=aC6 ht;obtain⟨h3,h4,h5⟩:=hr.Gq hk (σ0:={σ with H:=⟨σ.H.next+ops.size,σ.H.get⟩}) [] rfl rfl (iG _) rfl
 simp only[pW]at h3 h4 h5;have YN:=(Rb es 0 [] uB).2;simp only[pJ]at YN
 have NN:∀i,cB (Array.replicate ops.size false) i=false:=fun i=>by
  unfold cB;by_cases kN:i<ops.size<;>simp[kN]
 refine wpIn_region_any hm ?_
 refine aB4 (N0:=σ.H.next) (σ0:={σ with H:=⟨σ.H.next+ops.size,σ.H.get⟩}) (es:=es) (E0:=E) (W0:=W) (A0:=act) hk h3 F7 (fun j o e ho he=>h5 j o e (iG _) ho he) h1 h2 (fun i j a b mL ha hb hc=>Fh (YN i j a b mL ha hb hc)) hd (by simp only[];omega)
  (fun fuel l E' W' cF hl FV hex hv cZ=>aC5 (K:=Q .normal) (nt:=σ.nt) h1 F7 hd (E0:=E) (W0:=W) (fun E2 W2 aC8 HY fB nC HR hK=>⟨E2,HY,fB,nC,HR,hK⟩) (ops.size-k0) k0 rfl hk (cE _) fuel l E' W' cF aK hl FV hex hv (by rw[h4];exact cZ) (by rw[h4,K2]) h)
  ops.size (Array.replicate ops.size false) E W.drew act (by simp) ?_ ?_ (fun i _=>NN i) (eE.of (bE.drew E W) rfl) ?_ ?_
 ·have:=List.countP_le_length (p:=fun i=> !cB (Array.replicate ops.size false) i) (l:=List.range ops.size)
  simpa using this
 ·intro j o _ hj
  rw[NN]at hj;cases hj
 ·have heq:∀k,nM ops es {σ with H:=⟨σ.H.next+ops.size,σ.H.get⟩} (cB (Array.replicate ops.size false)) k={σ with H:=⟨σ.H.next+ops.size,σ.H.get⟩}:=by
   intro k
   induction k with
   |zero=>rfl
   |succ k ih=>simp only[nM,NN,mG,if_false];exact ih
  rw[heq];exact⟨cC.defers.mono (bE.drew E W),cC.size,fun t c a ha=>let ⟨v,h1,h2,h3⟩:=cC.env t c a ha;⟨v,h1,fun hc=>(h2 hc).mono (bE.drew E W),h3⟩,⟨fun id aB=>vF (cC.heap.next id aB) (Nat.le_add_right _ _),cC.heap.core.drew⟩⟩
 ·exact fun id aB=> .inl (cC.heap.next id aB)
theorem YO{P:Program}{σ aK:AS}{Q:Exit->AS->Prop}{id:Nat}{ops:Array Oper}{es:List Entry}(hm:P.follows .mixedOrders=true)(hs:CJ ops=true)(hd:ops.toList.all (fY σ.nt)=true)
  (hr:gP P ops.toList σ.H.next 0 ops.toList {σ with H:=⟨σ.H.next+ops.size,σ.H.get⟩} es aK) (uB:zK (tab ops.toList) 0 [] es=true) (h:Q .normal aK):AW P (.region id ops true) σ Q:=
 aC7 ops.size hm hs (by simp+contextual [NM]) hd (by rw[eD (by simp)];exact hr) uB (by rw[I5 (by simp)];exact h)
end Go.AL
