/- Staging. No condition. -/
import Derived.Test.YtioafciifiggaaaGreatDoorL0
import Derived.Test.YtioafciifiggaaaGreatDoorLb
import Derived.OrdersIn
set_option linter.all false
namespace Go.AL
open Go.RowKit
def plainO(σ:AS)(dst:Option Tmp):Option jG->Option AS
 |some (a,wr,_)=>some (({σ with H:=σ.H.app wr}:AS).put dst true a)
 |none=>none
def Gm(σ:AS)(dst:Option Tmp)(c:Bool):Option AV->Option AS
 |some a=>some (σ.put dst c a)
 |none=>none
def SY(σ:AS)(c b:Bool)(dst:Option Tmp):Option (Bool×Bool)->Option AS
 |some (p,q)=>some (σ.put dst c (.c (.bool (cond b p q))))
 |none=>none
def Gn(σ:AS)(x y:Operand)(dst:Option Tmp):Option Bool->Option AS
 |some b=>SY σ true b dst (yJ (jM (σ.get b x)) (jM (σ.get (!b) y)))
 |none=>none
def Gp(σ:AS)(c:Bool)(x y:Operand)(dst:Option Tmp):Option Bool->Option AS
 |some b=>SY σ c b dst (yJ (jM (σ.get (c&&b) x)) (jM (σ.get (c&& !b) y)))
 |none=>none
def stepG(P:Program)(o:Oper)(σ:AS):Option Bool->Option AS
 |some c=>match o.op with
  | .pick b x y=>Gp σ c x y o.dst (jM (σ.get c b))
  |_=>Gm σ o.dst c (if parts o.op=true then none else JS (res P (σ.get c) σ.H.get σ.H.next o))
 |none=>none
def NQ(P:Program)(ops:List Oper)(o:Oper)(σ:AS):Option AS:=
 match o.op with
 | .call ⟨.value _,_,_⟩=>none
 |_=>match o.guard with
  |none=>match o.op with
   | .pick b x y=>Gn σ x y o.dst (jM (σ.get true b))
   |_=>plainO σ o.dst (res P (σ.get true) σ.H.get σ.H.next o)
  |some (j,want)=>stepG P o σ (oH (nW ops j σ.env) want)
theorem bh2{P:Program}{ops:Array Oper}{o:Oper}{σ aL:AS}{K:AS->Prop}(h:NQ P ops.toList o σ=some aL)(hk:K aL):mQ P true ops o σ K:=by
 unfold NQ at h;unfold mQ;split at h
 ·cases h
 ·rename_i mY
  split at h
  ·rename_i hg
   simp only[hg];unfold oZ;split at h
   ·rename_i b x y aP
    simp only[aP];unfold Gn at h;split at h
    ·rename_i b' hb
     unfold SY at h;split at h
     ·rename_i p q u4
      injection h with h
      subst h;rw[hb,vL];simp only[hold]at*;rw[u4];exact hk
     ·cases h
    ·cases h
   ·rename_i lG
    unfold plainO at h;split at h
    ·rename_i a wr rd kZ
     injection h with h
     subst h;split
     ·rename_i f as ts aP;exact absurd aP (mY _ _ _)
     ·rename_i b x y aP;exact absurd aP (lG _ _ _)
     ·rename_i x aP;rw[Ue aP]at kZ;cases kZ
     ·rw[kZ];exact hk
    ·cases h
  ·rename_i j want hg
   simp only[hg];unfold stepG at h;split at h
   ·rename_i c hc
    rw[hc,vL];simp only[hold];refine .inr ?_;unfold N9;split at h
    ·rename_i b x y aP
     simp only[aP];unfold Gp at h;split at h
     ·rename_i b' hb
      unfold SY at h;split at h
      ·rename_i p q u4
       injection h with h
       subst h;rw[hb];simp only[hold,wU]at*;rw[u4];exact hk
      ·cases h
     ·cases h
    ·rename_i lG
     unfold Gm at h;split at h
     ·rename_i a kZ
      simp only[bB]at h;subst h;split
      ·rename_i f as ts aP;exact absurd aP (mY _ _ _)
      ·rename_i b x y aP;exact absurd aP (lG _ _ _)
      ·simp only[hold,kZ,wU];exact hk
     ·cases h
   ·cases h
def run(P:Program)(ops:List Oper):List Oper->AS->AS×List Oper
 |[],σ=>(σ,[])
 |o::r,σ=>runK (run P ops r) (NQ P ops o σ) (σ,o::r)
where
 runK (f:AS->AS×List Oper):Option AS->AS×List Oper->AS×List Oper
  |some aL,_=>f aL
  |none,p=>p
theorem nQ{P:Program}{ops:Array Oper}{K:AS->Prop}:∀(l:List Oper) (σ:AS) {p:AS×List Oper},run P ops.toList l σ=p->aX P true ops p.2 p.1 K->aX P true ops l σ K
 |[],σ,p,h,hk=>by simp only[run]at h;subst h;exact hk
 |o::r,σ,p,h,hk=>by
  simp only[run]at h;unfold run.runK at h;split at h
  ·rename_i aL hs
   exact bh2 hs (nQ r aL h hk)
  ·subst h;exact hk
section
variable {P : Program} {σ : AS} {Q : Exit -> AS -> Prop}
theorem Vn{id:Nat}{ops:Array Oper}{p:AS×List Oper}(hd:ops.toList.all (fT σ.nt)=true)(hr:run P ops.toList ops.toList σ=p)(h:aX P true ops p.2 p.1 (Q .normal)):AW P (.region id ops false) σ Q:=
 bb4 (nQ _ _ hr h) hd
theorem bh3{c:Operand}{x y:Code}{b:Bool}(hc:jM (σ.get true c)=some b)(ht:b=true->AW P x σ Q)(hf:b=false->AW P y σ Q):AW P (.cond c x y) σ Q:=Gc (zR hc) ht hf
theorem rE{ops:Array Oper}{K:AS->Prop}(h:K σ):aX P true ops [] σ K:=h
theorem gE{next:AS->Prop}(h:next σ):cZ next Q .normal σ:=h
theorem NR{next:AS->Prop}(h:Q .ret σ):cZ next Q .ret σ:=h
theorem NS{next:AS->Prop}{id:Nat}(h:Q (.exit id) σ):cZ next Q (.exit id) σ:=h
theorem NT{id:Nat}(h:Q .normal σ):dK id Q .normal σ:=h
theorem NU{id:Nat}(h:Q .ret σ):dK id Q .ret σ:=h
theorem NV{id:Nat}(h:Q .normal σ):dK id Q (.exit id) σ:=by simp only[dK,if_true];exact h
theorem NW{id aK:Nat}(aM:aK≠id)(h:Q (.exit aK) σ):dK id Q (.exit aK) σ:=by simp only[dK,aM,if_false];exact h
theorem bh4{rs:List ResultVar}{Q:AV->Heap->Prop}{a:AV}(ho:iZ P σ rs=some a)(h:Q a σ.H):cB P rs Q .ret σ:=by show nO (iZ P σ rs) _;rw[ho];exact h
theorem bh5{rs:List ResultVar}{Q:AV->Heap->Prop}{a:AV}(ho:iZ P σ rs=some a)(h:Q a σ.H):cB P rs Q .normal σ:=by show nO (iZ P σ rs) _;rw[ho];exact h
theorem K3{α:Type}{f:α->Prop}{t:Tag f}{x:α}(h:f x):hold f t x:=h
theorem bN{α β:Type}{f:α->β->Prop}{t:Tag f}{x:α}{y:β}(h:f x y):hold f t x y:=h
theorem bh6{ops:Array Oper}{o:Oper}{rest:List Oper}{K:AS->Prop}{f:Operand}{as:Array Operand}{ts:Array TypeId}{n:FuncId}{args:List AV}{r:AV}{p:AS×List Oper}(aP:o.op= .call ⟨.value f,as,ts⟩)(hg:o.guard=none)
  (hp:fD P n args (·=r)) (hc:fL (σ.get true f) (dO (σ.get true) as.toList)=some (n,args)) (hn:∀a∈args,bJ a) (hr:run P ops.toList rest (σ.put o.dst true r)=p) (h:aX P true ops p.2 p.1 K):aX P true ops (o::rest) σ K:=by
 show mQ P true ops o σ _
 unfold mQ;simp only[hg];unfold oZ;simp only[aP];refine .inl ?_;rw[hc,vL];exact gX.pure hp hn fun r' _ he=>by subst he;exact nQ _ _ hr h
theorem bh7{ops:Array Oper}{o:Oper}{rest:List Oper}{K:AS->Prop}{f:Operand}{as:Array Operand}{ts:Array TypeId}{n:FuncId}{args:List AV}{r:AV}{p:AS×List Oper}{j:Nat}{want c:Bool}(aP:o.op= .call ⟨.value f,as,ts⟩)(hg:o.guard=some (j,want))
  (hw:oH (nW ops.toList j σ.env) want=some c) (hp:fD P n args (·=r)) (hc:fL (σ.get c f) (dO (σ.get c) as.toList)=some (n,args)) (hn:∀a∈args,bJ a) (hr:run P ops.toList rest (σ.put o.dst c r)=p) (h:aX P true ops p.2 p.1 K):aX P true ops (o::rest) σ K:=by
 show mQ P true ops o σ _
 unfold mQ;simp only[hg];rw[hw,vL];simp only[hold];refine .inr ?_;unfold N9;simp only[aP];rw[hc];exact⟨r,fun _=>⟨hn,hp⟩,nQ _ _ hr h⟩
end
theorem bh8(a:Bool):yG a a=true:=by cases a<;>rfl
theorem bh9(a:Bool):yG a true=true:=by cases a<;>rfl
theorem bi0(a:Bool):yG true a=a:=by cases a<;>rfl
theorem bi1(a:Bool):yG false a=true:=by cases a<;>rfl
theorem bi2(a b c:Bool):yG (a&&b) c=(yG a c||yG b c):=by cases a<;>cases b<;>cases c<;>rfl
theorem bi3(a b c:Bool):yG a (b&&c)=(yG a b&&yG a c):=by cases a<;>cases b<;>cases c<;>rfl
theorem bi4(b x:Bool):cond b x false=(b&&x):=by cases b<;>rfl
theorem bi5(b x:Bool):cond b true x=(b||x):=by cases b<;>rfl
attribute [go_sem] NQ plainO Gm SY Gn Gp stepG run run.runK
attribute [go_sem] bi4 bi5 bh8 bh9 bi0 bi1 bi2 bi3 XR jM fL yJ JS oH parts Bool.true_or Bool.or_true Yn Bool.or_false TW It cond_true cond_false Bool.not_not
attribute [go_sem] nW AS.get AS.put lk res Ew Ey Ez Fa MT XO Fb Fc Fe Ff Fg Fh MU MV MW Fi MX MY UY Ex S8 CR Option.isNone_some Option.isNone_none N4 SB N5 N6 Fj XP dO zM EC chunk deref rowsOf S4 qY JD X9 JB X8 zL AV.cells AV.one tW aL6 aL7 Jv xB GC Heap.app lK hO XZ JX iZ EJ oN Y0 m7 zO fT Value.oneCell' pP L2 UC Option.bind_none jW sM eI gL mK qS List.getElem?_nil D5 wY KR tH KV List.all_nil List.isEmpty_cons List.isEmpty_nil x8 YX rO YU Ip if_true if_false true_and and_true and_self decide_true decide_false Iu Z5 PA YZ Bool.and_self eU e8 eN eF ne_eq not_false_eq_true not_true_eq_false kV fB mR or_false forall_eq_or_imp forall_eq KS List.replicate_zero UD List.flatten_nil Z1 true_imp_iff forall_const
end Go.AL
namespace Go.AL
open Go.RowKit
theorem bi6{G G':Nat->Option aI}{a:AV}{row:List AV}{o:Nat}{rd:List Nat}(h:deref G a=some (row,o,rd))(hG:∀id∈rd,G' id=G id):deref G' a=some (row,o,rd):=by
 unfold deref at h⊢;split at h
 ·rename_i id i o'
  split at h
  ·rename_i e s rows w ap bX
   split at h
   ·rename_i fG bH
    simp only[bB,bY]at h;obtain⟨rfl,rfl,rfl⟩:=h;rw[hG id (by simp),bX]
    simp only[bH]
   ·cases h
  ·cases h
 ·exact h
 ·cases h
theorem NY{G G':Nat->Option aI}{a:AV}{rows:List (List AV)}{rd:List Nat}(h:rowsOf G a=some (rows,rd))(hG:∀id∈rd,G' id=G id):rowsOf G' a=some (rows,rd):=by
 unfold rowsOf at h⊢;split at h
 ·exact h
 ·exact h
 ·rename_i id off len
  split at h
  ·rename_i e s dZ w ap bX
   split at h
   ·rename_i hle
    simp only[bB,bY]at h;obtain⟨rfl,rfl⟩:=h;rw[hG id (by simp),bX]
    simp only[hle,if_true]
   ·cases h
  ·cases h
 ·rename_i id i o len
  split at h
  ·rename_i e s dZ w ap bX
   split at h
   ·rename_i row bH
    split at h
    ·rename_i hle
     simp only[bB,bY]at h;obtain⟨rfl,rfl⟩:=h;rw[hG id (by simp),bX]
     simp only[bH,hle,if_true]
    ·cases h
   ·cases h
  ·cases h
 ·cases h
theorem BH{g g':Operand->Option AV}:∀(xs:List Operand),(∀x∈xs,g' x=g x)->dO g' xs=dO g xs
 |[],_=>rfl
 |x::r,h=>by simp only[dO,h x (by simp),BH r fun y hy=>h y (by simp[hy])]
theorem Gq{g g':Operand->Option AV}:∀(ps:List (Nat×Operand)),(∀p∈ps,g' p.2=g p.2)->zM g' ps=zM g ps
 |[],_=>rfl
 |(i,x)::r,h=>by simp only[zM,h (i,x) (by simp),Gq r fun y hy=>h y (by simp[hy])]
theorem SZ{g g':Operand->Option AV}{d:Int}{o:Option Operand}(h:∀x,o=some x->g' x=g x):hO g' d o=hO g d o:=by
 cases o with
 |none=>rfl
 |some x=>simp only[hO,h x rfl]
section
variable {P : Program} {G G' : Nat -> Option aI} {aG : Nat} {a : AV} {wr : List (Nat × Option aI)} {rd : List Nat}
theorem bi7{t:TypeId}{x:Option AV}(h:MU P G t x=some (a,wr,rd))(hG:∀id∈rd,G' id=G id):MU P G' t x=some (a,wr,rd):=by
 unfold MU at h⊢;split at h
 ·split at h
  ·rename_i row o yF hd
   obtain⟨d,h1,h2⟩:=map_some h;simp only[bY]at h2;obtain⟨rfl,rfl,rfl⟩:=h2;rw[bi6 hd hG];simp only[h1,pP]
  ·cases h
 ·cases h
theorem bi8{t:TypeId}{x y:Option AV}(h:MV P G t x y=some (a,wr,rd))(hG:∀id∈rd,G' id=G id):MV P G' t x y=some (a,wr,rd):=by
 unfold MV at h⊢;split at h
 ·rename_i id i o a'
  split at h
  ·rename_i e s rows ap hg
   split at h
   ·rename_i row k hr hk
    split at h
    ·rename_i hc
     simp only[bB,bY]at h;obtain⟨rfl,rfl,rfl⟩:=h;rw[hG id (by simp),hg]
     simp only[hr,hk,hc,and_self,if_true]
    ·cases h
   ·cases h
  ·cases h
 ·cases h
theorem bi9{t:TypeId}{x y:Option AV}(h:MW P G t x y=some (a,wr,rd))(hG:∀id∈rd,G' id=G id):MW P G' t x y=some (a,wr,rd):=by
 unfold MW at h⊢;split at h
 ·rename_i id off len ik i
  split at h
  ·rename_i e k e' k' rows w ap ht hg
   split at h
   ·rename_i hc
    simp only[bB,bY]at h;obtain⟨rfl,rfl,rfl⟩:=h;rw[hG id (by simp),hg,ht]
    simp only[hc,and_self,if_true]
   ·cases h
  ·cases h
 ·exact h
 ·exact h
 ·exact h
 ·cases h
theorem bj0{t:TypeId}{l l' h0 EG:Nat->Option Int}{x:Option AV}(hl:l'=l)(hh:EG=h0)(h:MX P G t l h0 x=some (a,wr,rd))(hG:∀id∈rd,G' id=G id):MX P G' t l' EG x=some (a,wr,rd):=by
 subst hl;subst hh;unfold MX at h⊢;split at h
 ·exact h
 ·exact h
 ·rename_i id off len
  split at h
  ·rename_i e k e' k' rows w ap l hh ht hg hl rJ
   split at h
   ·rename_i hc
    simp only[bB,bY]at h;obtain⟨rfl,rfl,rfl⟩:=h;rw[hG id (by simp),hg,ht,hl,rJ]
    simp only[hc,and_self,if_true]
   ·cases h
  ·cases h
 ·rename_i id i o
  split at h
  ·rename_i n e e' k' rows w ap ht hg
   split at h
   ·rename_i row l hh bH hl rJ
    split at h
    ·rename_i hc
     simp only[bB,bY]at h;obtain⟨rfl,rfl,rfl⟩:=h;rw[hG id (by simp),hg,ht]
     simp only[bH,hl,rJ];rw[if_pos hc]
    ·cases h
   ·cases h
  ·cases h
 ·exact h
 ·cases h
theorem bj1{t:TypeId}{l l' h0 EG m m':Nat->Option Int}{x:Option AV}(hl:l'=l)(hh:EG=h0)(hm:m'=m)(h:MY P G t l h0 m x=some (a,wr,rd))(hG:∀id∈rd,G' id=G id):MY P G' t l' EG m' x=some (a,wr,rd):=by
 subst hl;subst hh;subst hm;unfold MY at h⊢;split at h
 ·exact h
 ·rename_i id off len
  split at h
  ·rename_i e k e' k' rows w ap l hh m ht hg hl rJ hm
   split at h
   ·rename_i hc
    simp only[bB,bY]at h;obtain⟨rfl,rfl,rfl⟩:=h;rw[hG id (by simp),hg,ht,hl,rJ,hm]
    simp only[];rw[if_pos hc]
   ·cases h
  ·cases h
 ·cases h
theorem bj2{t:TypeId}{x y:Option AV}(h:N6 P G t x y=some (a,wr,rd))(hG:∀id∈rd,G' id=G id):N6 P G' t x y=some (a,wr,rd):=by
 unfold N6 at h⊢;split at h
 ·rename_i id off len b
  split at h
  ·rename_i e k rows ap aZ yF e' k' hg hb ht
   split at h
   ·rename_i hc
    simp only[bB,bY]at h;obtain⟨rfl,rfl,rfl⟩:=h;rw[hG id (by simp),hg,NY hb (fun q hq=>hG q (by simp[hq])),ht]
    simp only[];rw[if_pos hc]
   ·cases h
  ·cases h
 ·rename_i id i o len b
  split at h
  ·rename_i e s rows ap aZ yF e' hg hb ht
   split at h
   ·rename_i row bH
    split at h
    ·rename_i hc
     simp only[bB,bY]at h;obtain⟨rfl,rfl,rfl⟩:=h;rw[hG id (by simp),hg,NY hb (fun q hq=>hG q (by simp[hq])),ht]
     simp only[bH];rw[if_pos hc]
    ·cases h
   ·cases h
  ·cases h
 ·cases h
theorem bj3{t:TypeId}{x y:Option AV}(h:N5 P G aG t x y=some (a,wr,rd))(hG:∀id∈rd,G' id=G id):N5 P G' aG t x y=some (a,wr,rd):=by
 unfold N5 at h⊢;split at h
 ·rename_i id n b
  split at h
  ·rename_i e k rows w aZ yF e' k' hg hb ht
   split at h
   ·rename_i zs m6 hz oW
    split at h
    ·rename_i hc
     simp only[bB,bY]at h;obtain⟨rfl,rfl,rfl⟩:=h;rw[hG id (by simp),hg,NY hb (fun q hq=>hG q (by simp[hq])),ht]
     simp only[hz,oW];rw[if_pos hc]
    ·cases h
   ·cases h
  ·cases h
 ·rename_i b
  split at h
  ·rename_i aZ yF e k hb ht
   split at h
   ·rename_i JQ
    simp only[bB,bY]at h;obtain⟨rfl,rfl,rfl⟩:=h;rw[NY hb hG,ht];simp only[JQ,if_true]
   ·rename_i JQ
    split at h
    ·rename_i zs m6 hz oW
     split at h
     ·rename_i hc
      simp only[bB,bY]at h;obtain⟨rfl,rfl,rfl⟩:=h;rw[NY hb hG,ht];simp only[JQ,hz,oW];rw[if_neg (by simp),if_pos hc]
     ·cases h
    ·cases h
  ·cases h
 ·cases h
theorem bj4{aG:Nat}{t:TypeId}{x:Option AV}(h:N2 P G aG t x=some (a,wr,rd))(hG:∀id∈rd,G' id=G id):N2 P G' aG t x=some (a,wr,rd):=by
 unfold N2 at h⊢;split at h
 ·rename_i id
  cases hg:G id with
  |none=>simp[hg]at h
  |some b=>
   have hr:rd=[id]:=by
    cases b with
    |map es=>
     simp only[hg]at h;split at h
     ·simp only[bB,bY]at h;exact h.2.2.symm
     ·cases h
    |_=>simp[hg]at h
   rw[hG id (by rw[hr];simp)]
   exact h
 ·cases h
theorem bj5{x:Option AV}(h:N3 G x=some (a,wr,rd))(hG:∀id∈rd,G' id=G id):N3 G' x=some (a,wr,rd):=by
 unfold N3 at h⊢;split at h
 ·rename_i id
  split at h
  ·rename_i m n seen hg
   split at h
   ·rename_i i es hs hm
    split at h
    ·rename_i k a' he
     split at h
     ·rename_i hc
      simp only[bB,bY]at h;obtain⟨rfl,rfl,rfl⟩:=h;simp only[hG id (by simp),hG m (by simp),hg,hm,hs,he,if_pos hc]
     ·cases h
    ·cases h
   ·cases h
  ·cases h
 ·cases h
theorem bj6{t:TypeId}{ok:Bool}{x y:Option AV}(h:MZ P G t ok x y=some (a,wr,rd))(hG:∀id∈rd,G' id=G id):MZ P G' t ok x y=some (a,wr,rd):=by
 unfold MZ at h⊢;split at h
 ·rename_i id xa
  cases hk:BB xa with
  |none=>simp[hk]at h
  |some kv=>
  simp only[hk]at h⊢;cases hg:G id with
  |none=>simp[hg]at h
  |some b=>
   have hr:rd=[id]:=by
    cases b with
    |map es=>
     simp only[hg]at h;split at h
     ·rename_i q1 q2 q3
      split at h
      ·split at h
       ·simp only[bB,bY]at h;exact h.2.2.symm
       ·cases h
      ·cases h
     ·cases h
    |_=>simp[hg]at h
   rw[hG id (by rw[hr];simp)]
   rw[hg]at h⊢;exact h
 ·cases h
theorem bj7{t:TypeId}{x y z:Option AV}(h:N1 P G t x y z=some (a,wr,rd))(hG:∀id∈rd,G' id=G id):N1 P G' t x y z=some (a,wr,rd):=by
 unfold N1 at h⊢;split at h
 ·rename_i id xa a'
  cases hk:BB xa with
  |none=>simp[hk]at h
  |some kv=>
  simp only[hk]at h⊢;cases hg:G id with
  |none=>simp[hg]at h
  |some b=>
   have hr:rd=[id]:=by
    cases b with
    |map es=>
     simp only[hg]at h;split at h
     ·split at h
      ·simp only[bB,bY]at h;exact h.2.2.symm
      ·cases h
     ·cases h
    |_=>simp[hg]at h
   rw[hG id (by rw[hr];simp)]
   rw[hg]at h⊢;exact h
 ·cases h
theorem bj8{t:TypeId}{x:Option AV}(h:N4 P G t x=some (a,wr,rd))(hG:∀id∈rd,G' id=G id):N4 P G' t x=some (a,wr,rd):=by
 unfold N4 at h⊢;split at h
 ·rename_i id
  cases hg:G id with
  |none=>simp[hg]at h
  |some b=>
   have hr:rd=[id]:=by
    cases b with
    |cells=>simp[hg]at h
    |cJ=>simp[hg]at h
    |iter=>simp[hg]at h
    |map es=>
     simp only[hg]at h;split at h
     ·simp only[bB,bY]at h;exact h.2.2.symm
     ·cases h
   rw[hG id (by rw[hr];simp)]
   exact h
 ·exact h
 ·exact h
 ·cases h
theorem bj9{s t:TypeId}{x:Option AV}(h:MT P G s t x=some (a,wr,rd))(hG:∀id∈rd,G' id=G id):MT P G' s t x=some (a,wr,rd):=by
 unfold MT at h⊢;split at h
 ·exact h
 ·unfold XO at h⊢
  cases hd:mW P t isString with
  |true=>
   simp only[hd]at h⊢;split at h
   ·rename_i e rows yF hs hb
    split at h
    ·rename_i l he hl
     have cW:yF=rd:=by
      simp only[bB,bY]at h;exact h.2.2
     subst cW;cases x with
     |none=>cases hb
     |some y=>
      have uY:(some y:Option AV).bind (rowsOf G')=some (rows,yF):=NY hb hG;simp only[hs,uY,he,hl];exact h
    ·cases h
   ·cases h
  |false=>
   simp only[hd]at h;cases h
theorem bk0{g g':Operand->Option AV}{o:Oper}(h:res P g G aG o=some (a,wr,rd))(hg:∀x∈o.op.operands,g' x=g x)(hG:∀id∈rd,G' id=G id):res P g' G' aG o=some (a,wr,rd):=by
 obtain⟨dst,op,ty,pos,after,guard⟩:=o;cases op with
 |move x=>simp only[res,Op.operands]at*;rw[hg x (by simp)];exact h
 |assign x=>simp only[res,Op.operands]at*;rw[hg x (by simp)];exact h
 |pick c x y=>simp only[res,Op.operands]at*;rw[hg c (by simp),hg x (by simp),hg y (by simp)];exact h
 |binOp op t x y yt=>simp only[res,Op.operands]at*;rw[hg x (by simp),hg y (by simp)];exact h
 |unOp op t x=>simp only[res,Op.operands]at*;rw[hg x (by simp)];exact h
 |convert s t x=>simp only[res,Op.operands]at*;rw[hg x (by simp)];exact bj9 h hG
 |sliceToArrayPointer t x=>simp only[res,Op.operands]at*;rw[hg x (by simp)];exact h
 |extract x i=>simp only[res,Op.operands]at*;rw[hg x (by simp)];exact h
 |field t x f=>simp only[res,Op.operands]at*;rw[hg x (by simp)];exact h
 |fieldAddr t x f=>simp only[res,Op.operands]at*;rw[hg x (by simp)];exact h
 |load t x=>simp only[res,Op.operands]at*;rw[hg x (by simp)];exact bi7 h hG
 |store t x y=>simp only[res,Op.operands]at*;rw[hg x (by simp),hg y (by simp)];exact bi8 h hG
 |indexAddr t x y=>simp only[res,Op.operands]at*;rw[hg x (by simp),hg y (by simp)];exact bi9 h hG
 |index t x y=>simp only[res,Op.operands]at*;rw[hg x (by simp),hg y (by simp)];exact h
 |slice t x lo hi mx=>
  cases mx with
  |some m=>
   cases hi with
   |none=>simp only[res]at h;cases h
   |some hi=>
    simp only[res,Op.operands]at*;rw[hg x (by simp)]
    rw[show(fun _=>hO g' 0 lo)=fun(_:Nat)=>hO g 0 lo from by funext _;exact SZ fun y hy=>hg y (by simp[hy]),
     show(fun(n:Nat)=>hO g' n (some hi))=fun(n:Nat)=>hO g n (some hi)from by funext _;exact SZ fun y hy=>hg y (by simp[hy]),
     show(fun(n:Nat)=>hO g' n (some m))=fun(n:Nat)=>hO g n (some m)from by funext _;exact SZ fun y hy=>hg y (by simp[hy])]
    exact bj1 rfl rfl rfl h hG
  |none=>
   simp only[res,Op.operands]at*;rw[hg x (by simp)]
   exact bj0 (by funext _;exact SZ fun y hy=>hg y (by simp[hy])) (by funext _;exact SZ fun y hy=>hg y (by simp[hy])) h hG
 |alloc t=>exact h
 |box t x=>simp only[res,Op.operands]at*;rw[hg x (by simp)];exact h
 |build t ps=>
  simp only[res,Op.operands]at*;rw[Gq ps.toList fun p hp=>hg p.2 (by simp;exact⟨p.1,by simpa using hp⟩)];exact h
 |buildSlice t n ps=>
  simp only[res,Op.operands]at*;rw[Gq ps.toList fun p hp=>hg p.2 (by simp;exact⟨p.1,by simpa using hp⟩)];exact h
 |makeSlice t l c=>simp only[res,Op.operands]at*;rw[hg l (by simp),hg c (by simp)];exact h
 |makeMap t r=>
  cases r with
  |none=>exact h
  |some x=>simp only[res]at h;cases h
 |range t x=>simp only[res,Op.operands]at*;rw[hg x (by simp)];exact bj4 h hG
 |entry x=>simp only[res,Op.operands]at*;rw[hg x (by simp)];exact bj5 h hG
 |lookup t m x ok=>simp only[res,Op.operands]at*;rw[hg m (by simp),hg x (by simp)];exact bj6 h hG
 |mapUpdate t m x y=>simp only[res,Op.operands]at*;rw[hg m (by simp),hg x (by simp),hg y (by simp)];exact bj7 h hG
 |makeFunc fn f c=>
  simp only[res,Op.operands]at*;rw[BH f.toList fun x hx=>hg x (by simp at hx⊢;exact .inl hx),BH c.toList fun x hx=>hg x (by simp at hx⊢;exact .inr hx)];exact h
 |makeInterface t x=>simp only[res,Op.operands]at*;rw[hg x (by simp)];exact h
 |typeAssert x xt t ok=>simp only[res,Op.operands]at*;rw[hg x (by simp)];exact h
 |nilCheck x=>simp only[res,Op.operands]at*;rw[hg x (by simp)];exact h
 |call c=>
  obtain⟨cal,as,ts⟩:=c;cases cal with
  |builtin b=>
   simp only[res,Op.operands,Call.operands]at*;have hm:as.toList.map g'=as.toList.map g:=sL fun x hx=>hg x (by simpa using hx)
   rw[hm];unfold XP at h⊢;split at h
   ·exact bj8 h hG
   ·exact h
   ·exact h
   ·rename_i a' b' t t' _ _
    split at h
    ·rename_i ht;simp only[ht,if_true];subst ht;exact bj3 h hG
    ·rename_i ht;simp only[ht,if_false];exact h
   ·exact h
   ·exact bj2 h hG
   ·cases h
  |value f=>simp only[res]at h;cases h
  |invoke r m=>simp only[res]at h;cases h
 |_=>simp only[res]at h;cases h
end
end Go.AL
namespace Go.AL
open Go.RowKit
def u6:AV->List Nat
 | .own id _ _=> [id]
 | .ptr id _ _=> [id]
 | .sub id _ _ _=> [id]
 |_=> []
def kU(f:AV->List Nat):List AV->List Nat
 |[]=> []
 |x::r=>f x++kU f r
def lL:AV->List Nat
 | .agg xs=>kU u6 xs
 | .fn _ xs ys=>kU u6 xs++kU u6 ys
 |a=>u6 a
theorem K4{f:AV->List Nat}{xs:List AV}{x:AV}{id:Nat}(hx:x∈xs)(h:id∈f x):id∈kU f xs:=by
 induction xs with
 |nil=>cases hx
 |cons y r ih=>
  simp only[kU,BR];rcases fB.1 hx with rfl|hx
  ·exact .inl h
  ·exact .inr (ih hx)
def oK:Option aI->Option aI
 |some (.cells e s rows w a)=>some (.cells e s rows false a)
 |b=>b
def sG(G:Nat->Option aI):List Nat->Nat->Option aI
 |[]=>G
 |id::r=>sG (aS G [(id,oK (G id))]) r
theorem bc7(G:Nat->Option aI):sG G []=G:=rfl
theorem Uy(G:Nat->Option aI)(id:Nat)(r:List Nat):sG G (id::r)=sG (aS G [(id,oK (G id))]) r:=rfl
section
variable {E : Env} {W : World}
theorem Gr{H:Heap}(hH:RH E W H){id:Nat}{e:TypeId}{s:Nat}{rows:List (List AV)}{w a:Bool}(hg:H.get id=some (.cells e s rows w a)):
  bD E W ⟨E.ι,E.sz,E.U,fun b=>if b=E.ι id then max (E.L b) (rows.length*s)else E.L b⟩ W/\
   RH ⟨E.ι,E.sz,E.U,fun b=>if b=E.ι id then max (E.L b) (rows.length*s)else E.L b⟩ W ⟨H.next,aS H.get [(id,some (.cells e s rows false a))]⟩:=by
 obtain⟨hU,cK⟩:=hH.core.ok id _ hg
 have hv:bD E W ⟨E.ι,E.sz,E.U,fun b=>if b=E.ι id then max (E.L b) (rows.length*s)else E.L b⟩ W:=by
  refine⟨rfl,rfl,rfl,cA _,fun _ h=>h,fun _ _=>⟨rfl,rfl⟩,fun b=> ?_,fun _ _ _=>rfl,fun _ _ _=>rfl,fun b cur e f h=>⟨cur,f,h,rfl⟩,fun b hb hf=> ?_,fun _ h h'=>absurd h' h,fun b r h=>⟨r,h,rfl⟩⟩
  ·simp only[];split<;>omega
  ·simp only[];rw[if_neg (fun h=>hf id hU h.symm)]
 refine⟨hv,hH.next,fun b hb=> ?_,hH.core.eX,fun aK b' bZ=> ?_⟩
 ·simp only[]
  have:=hH.core.eX id hU;rw[if_neg (by omega)]
  exact hH.core.lim b hb
 ·simp only[aS]at bZ
  have oJ:∀cX cY,(if cX=id then some (aI.cells e s rows false a)else H.get cX)=some cY->∃b0,H.get cX=some b0/\cY.upto=b0.upto/\(b0.app=false->cY.app=false):=fun cX cY h=>by
   split at h
   ·rename_i heq
    injection h with h
    subst h;subst heq;exact⟨_,hg,rfl,fun h=>h⟩
   ·exact⟨cY,h,rfl,fun h=>h⟩
  by_cases aC:aK=id
  ·subst aC
   rw[if_pos rfl]at bZ;injection bZ with bZ
   subst bZ;obtain⟨h1,h2,⟨cur,h3,h4,h5⟩,h6,h7⟩:=cK;refine⟨hU,h1,h2,⟨cur,h3,h4,fun i j row x hr hx=> ?_⟩,(fun h=>by cases h),fun ha=> ?_⟩
   ·obtain⟨v,nF,eZ⟩:=h5 i j row x hr hx
    exact⟨v,nF,eZ.mono hv⟩
   ·obtain⟨h8,h9⟩:=h7 ha
    refine⟨?_,fun cX cY aM rK heq=> ?_⟩
    ·simp only[if_true];omega
    ·obtain⟨b0,cO,kC,rX⟩:=oJ cX cY rK
     obtain⟨vU,zZ⟩:=h9 cX b0 aM cO heq;exact⟨by rw[kC];exact vU,rX zZ⟩
  ·rw[if_neg aC]at bZ
   obtain⟨vM,GO⟩:=hH.core.ok aK b' bZ;refine⟨vM,?_⟩;cases b' with
   |map es=>
   obtain⟨⟨ms,clock,h1,h2,h3,h4⟩,h5,h6⟩:=GO;have aM:=h6 id _ (mV aC) hg;refine⟨⟨ms,clock,h1,h2,h3,fun i k x hx=> ?_⟩,?_,fun cX cY lZ rK=> ?_⟩
   ·obtain⟨e,k7,lA,qA⟩:=h4 i k x hx
    exact⟨e,k7,lA,qA.mono hv⟩
   ·simp only[]
    rw[if_neg (fun h=>aM h.symm)]
    exact h5
   ·obtain⟨b0,cO,kC,rX⟩:=oJ cX cY rK
    exact h6 cX b0 lZ cO
   |iter m n seen=>
   obtain⟨⟨h1,h3⟩,h5,h6⟩:=GO;have aM:=h6 id _ (mV aC) hg;refine⟨⟨h1,h3⟩,?_,fun cX cY lZ rK=> ?_⟩
   ·simp only[]
    rw[if_neg (fun h=>aM h.symm)]
    exact h5
   ·obtain⟨b0,cO,kC,rX⟩:=oJ cX cY rK
    exact h6 cX b0 lZ cO
   |cJ env nt ps assign body st J7=>
   obtain⟨⟨fn,tmps,D,h1,h2,h3⟩,h5,h6⟩:=GO;have aM:=h6 id _ (mV aC) hg;refine⟨⟨fn,tmps,D,h1,h2,fun t c a ht=> ?_⟩,?_,fun cX cY lZ rK=> ?_⟩
   ·obtain⟨v,k7,lA,qA⟩:=h3 t c a ht
    exact⟨v,k7,fun hc=>(lA hc).mono hv,qA⟩
   ·simp only[]
    rw[if_neg (fun h=>aM h.symm)]
    exact h5
   ·obtain⟨b0,cO,kC,rX⟩:=oJ cX cY rK
    exact h6 cX b0 lZ cO
   |cells e' s' dZ w' a'=>
   obtain⟨h1,h2,⟨cur,h3,h4,h5⟩,h6,h7⟩:=GO;refine⟨h1,h2,⟨cur,h3,h4,fun i j row x hr hx=> ?_⟩,fun hw=> ?_,fun ha=> ?_⟩
   ·obtain⟨v,nF,eZ⟩:=h5 i j row x hr hx
    exact⟨v,nF,eZ.mono hv⟩
   ·obtain⟨h8,h9⟩:=h6 hw
    refine⟨?_,fun cX cY aM rK=> ?_⟩
    ·simp only[]
     rw[if_neg (fun h=>h9 id _ (mV aC) hg h.symm)]
     exact h8
    ·obtain⟨b0,cO,_,_⟩:=oJ cX cY rK
     exact h9 cX b0 aM cO
   ·obtain⟨h8,h9⟩:=h7 ha
    refine⟨?_,fun cX cY aM rK heq=> ?_⟩
    ·simp only[]
     split
     ·rename_i heq
      have:=(h9 id _ (mV aC) hg heq.symm).1;simp only[aI.upto]at this;omega
     ·exact h8
    ·obtain⟨b0,cO,kC,rX⟩:=oJ cX cY rK
     obtain⟨vU,zZ⟩:=h9 cX b0 aM cO heq;exact⟨by rw[kC];exact vU,rX zZ⟩
theorem NZ:∀(ids:List Nat) {E:Env} {H:Heap},RH E W H->∃L1,bD E W ⟨E.ι,E.sz,E.U,L1⟩ W/\RH ⟨E.ι,E.sz,E.U,L1⟩ W ⟨H.next,sG H.get ids⟩/\
  ∀id,id∈ids->∀(e:TypeId) (s:Nat) (rows:List (List AV)) (w a:Bool),H.get id=some (.cells e s rows w a)->rows.length*s<=L1 (E.ι id)
 |[],E,H,hH=>⟨E.L,bD.refl E W,hH,fun id h=>by cases h⟩
 |id::r,E,H,hH=>by
  have step:∃L0,bD E W ⟨E.ι,E.sz,E.U,L0⟩ W/\RH ⟨E.ι,E.sz,E.U,L0⟩ W ⟨H.next,aS H.get [(id,oK (H.get id))]⟩/\
    ∀(e:TypeId) (s:Nat) (rows:List (List AV)) (w a:Bool),H.get id=some (.cells e s rows w a)->rows.length*s<=L0 (E.ι id):=by
   have oJ:∀x,oK x=x->H.get id=x->aS H.get [(id,oK (H.get id))]=H.get:=fun x h1 h2=>by
    funext k
    simp only[aS];split
    ·rename_i h;subst h;rw[h2,h1]
    ·rfl
   cases hg:H.get id with
   |none=>
    rw[<-hg,oJ none rfl hg];exact⟨E.L,bD.refl E W,hH,fun e s rows w a h=>by rw[hg]at h;cases h⟩
   |some b=>
    cases b with
    |map es=>
     rw[<-hg,oJ (some (.map es)) rfl hg];exact⟨E.L,bD.refl E W,hH,fun e s rows w a h=>by rw[hg]at h;cases h⟩
    |iter a1 a2 a3=>
     rw[<-hg,oJ (some (.iter a1 a2 a3)) rfl hg];exact⟨E.L,bD.refl E W,hH,fun e s rows w a h=>by rw[hg]at h;cases h⟩
    |cJ a1 a2 a3 a4 a5 a6 a7=>
     rw[<-hg,oJ (some (.cJ a1 a2 a3 a4 a5 a6 a7)) rfl hg];exact⟨E.L,bD.refl E W,hH,fun e s rows w a h=>by rw[hg]at h;cases h⟩
    |cells e s rows w a=>
     obtain⟨h1,h2⟩:=Gr hH hg;refine⟨_,h1,h2,fun e' s' dZ w' a' h=> ?_⟩
     injection h with h
     injection h with he hs hr hw ha
     subst hs;subst hr;simp only[if_true];omega
  obtain⟨L0,h1,h2,h3⟩:=step;obtain⟨L1,h4,h5,h6⟩:=NZ r h2;refine⟨L1,h1.trans h4,h5,fun aK uZ e s rows w a hg=> ?_⟩
  rcases fB.1 uZ with rfl|uZ
  ·exact uA (h3 e s rows w a hg) (h4.lim _)
  ·by_cases heq:aK=id
   ·subst heq
    exact uA (h3 e s rows w a hg) (h4.lim _)
   ·exact h6 aK uZ e s rows w a (by simp only[aS];rw[if_neg heq];exact hg)
theorem O0{G:Nat->Option aI}{L1:Nat->Nat}(hG:RC E W G)(hv:bD E W ⟨E.ι,E.sz,E.U,L1⟩ W){a:AV}{v:Value}(r:RV E W a v)
  (hL:∀id,id∈u6 a->∀(e:TypeId) (s:Nat) (rows:List (List AV)) (w a:Bool),G id=some (.cells e s rows w a)->rows.length*s<=L1 (E.ι id)):RV ⟨E.ι,E.sz,E.U,L1⟩ W (oN G a) v:=by
 unfold oN;split
 ·rename_i id off len
  split
  ·rename_i rows rd dB
   have hU:=(tO r).1;simp only[rowsOf]at dB;split at dB
   ·rename_i e s dZ w ap bX
    split at dB
    ·rename_i hle
     simp only[bB,bY]at dB;obtain⟨rfl,rfl⟩:=dB;rcases(tO r).2 with⟨cap,kM,eA,B7,e0,f0,k9,SP⟩|⟨mZ,a0,kM⟩
     ·subst kM
      obtain⟨_,kL,hlen,⟨cur,bU,rG,fH⟩,_,_⟩:=hG.ok id _ bX;rw[bU]at k9;injection k9 with k9
      injection k9 with k9 JY JZ
      subst k9;subst JY;subst JZ;have EK:=hL id (by simp[u6]) e s dZ w ap bX
      have sE:∀(i:Nat) row,((dZ.drop off).take len)[i]? =some row->dZ[off+i]? =some row:=fun i row hr=>by
       rw[gF]at hr;split at hr
       ·rwa[m9]at hr
       ·cases hr
      have vH:((dZ.drop off).take len).length=len:=by simp;omega
      have hmul:(off+len)*s<=dZ.length*s:=mU s hle;refine .snap _ (E.ι id) (off*E.sz id) s len cap (fun i j=>cur.getD ((off+i)*s+j) undef) vH.symm eA (fun i row hr=>hlen _ row (sE i row hr)) ?_ (fun i j row x h1 h2=> ?_) (fun i j row x h1 h2=> ?_)
      ·rw[vH,kL,<-nX];simp only[];omega
      ·obtain⟨u,h3,h4⟩:=fH _ j row x (sE i row h1) h2
       rw[cell_of_row W _ _ cur e (0,0) bU,kL];have he:off*s+(i*s+j)=(off+i)*s+j:=by rw[nX];omega
       rw[he,h3];simp[h3]
      ·obtain⟨u,h3,h4⟩:=fH _ j row x (sE i row h1) h2
       simp only[HJ,h3,qR];exact h4.mono hv
     ·subst mZ;subst kM
      simp only[wY];exact .kY _ _
    ·cases dB
   ·cases dB
  ·exact r.mono hv
 ·rename_i id i o
  split
  ·rename_i e s rows w ap bX
   cases r with
   |ptr _ _ _ hU=>
   obtain⟨_,kL,hlen,⟨cur,bU,rG,fH⟩,_,_⟩:=hG.ok id _ bX;have EK:=hL id (by simp[u6]) e s rows w ap bX
   have:=RV.dJ (E:=⟨E.ι,E.sz,E.U,L1⟩) (W:=W) rows i o (E.ι id) 0 s (fun i j=>cur.getD (i*s+j) undef) hlen (by simp only[];omega) (fun i j row x h1 h2=>by
    obtain⟨u,h3,h4⟩:=fH i j row x h1 h2;rw[cell_of_row W _ _ cur e (0,0) bU,sN,h3];simp[h3]) (fun i j row x h1 h2=>by
    obtain⟨u,h3,h4⟩:=fH i j row x h1 h2;simp only[HJ,h3,qR]
    exact h4.mono hv)
   rw[kL];simpa using this
  ·exact r.mono hv
 ·rename_i id i o len
  split
  ·rename_i row bH
   obtain⟨e,s,rows,w,ap,bX,BC⟩:=Uq bH;split
   ·rename_i hle
    cases r with
    |sub _ _ _ _ cap hU eA SP=>
    obtain⟨_,kL,hlen,⟨cur,bU,rG,fH⟩,_,_⟩:=hG.ok id _ bX;have EK:=hL id (by simp[u6]) e s rows w ap bX
    have gH:=hlen i row BC;have bG:i<rows.length:=(dS.1 BC).1;have hm:=Us (s:=s) bG;rw[kL];refine Ur (E:=⟨E.ι,E.sz,E.U,L1⟩) (s:=s) bU hle eA (show i*s+o+len<=L1 (E.ι id)by omega) fun j x h1 h2 hx=> ?_
    obtain⟨u,h3,h4⟩:=fH i j row x BC hx;exact⟨u,h3,h4.mono hv⟩
   ·exact r.mono hv
  ·exact r.mono hv
 ·exact r.mono hv
theorem T0{G:Nat->Option aI}{L1:Nat->Nat}(hG:RC E W G)(hv:bD E W ⟨E.ι,E.sz,E.U,L1⟩ W){a:AV}{v:Value}(r:RV E W a v)
  (hL:∀id,id∈lL a->∀(e:TypeId) (s:Nat) (rows:List (List AV)) (w a:Bool),G id=some (.cells e s rows w a)->rows.length*s<=L1 (E.ι id)):RV ⟨E.ι,E.sz,E.U,L1⟩ W (m7 G a) v:=by
 unfold m7;split
 ·rename_i xs
  cases r with
  |agg _ vs hl hr=>
  refine .agg _ vs (by simpa using hl) fun i x v hx kM=> ?_
  rw[iA]at hx;obtain⟨y,hy,rfl⟩:=map_some hx;exact O0 hG hv (hr i y v hy kM) fun id aC=>hL id (K4 (eY hy) aC)
 ·rename_i f xs ys
  cases r with
  |fn _ _ _ vf vc hl bQ hr lP=>
  refine .fn _ _ _ vf vc (by simpa using hl) (by simpa using bQ) (fun i x v hx kM=> ?_) (fun i x v hx kM=> ?_)
  ·rw[iA]at hx
   obtain⟨y,hy,rfl⟩:=map_some hx;exact O0 hG hv (hr i y v hy kM) fun id aC=>hL id (BV _ (K4 (eY hy) aC))
  ·rw[iA]at hx
   obtain⟨y,hy,rfl⟩:=map_some hx;exact O0 hG hv (lP i y v hy kM) fun id aC=>hL id (BW _ (K4 (eY hy) aC))
 ·rename_i aM Gs
  refine O0 hG hv r fun id aC=>hL id ?_
  cases a<;>first|exact aC|exact absurd rfl (aM _)|exact absurd rfl (Gs _ _ _)
theorem gX.Ux{P:Program}{n:FuncId}{bS args:List AV}{Q:AV->Prop}{H:Heap}(h:fD P n args Q)(he:bS.map (m7 H.get)=args)(ha:∀a∈args,bJ a){K:AV->Heap->Prop}
  (hk:∀r,bJ r->Q r->K r ⟨H.next,sG H.get (kU lL bS)⟩):gX P n bS H K:=
 ⟨h.1,fun E W vs hH hr=>by
   obtain⟨L1,h1,h2,h3⟩:=NZ (W:=W) (kU lL bS) hH
   have T1:bP ⟨E.ι,E.sz,E.U,L1⟩ W args vs:=by
    subst he;refine⟨by simpa using hr.1,fun i x v hx hv=> ?_⟩
    rw[iA]at hx;obtain⟨y,hy,rfl⟩:=map_some hx;exact T0 hH.core h1 (hr.2 i y v hy hv) fun id aC=>h3 id (K4 (eY hy) aC)
   exact(h.run ha h2 T1).mono fun e W' ⟨v,tE,r,L',h4,h5,h6,h7,h8⟩=>⟨v,tE,_,r,_,h1.trans h4,h5,h6,hk r h7 h8⟩⟩
end
theorem bk2(x:Option aI):oK (oK x)=oK x:=by
 cases x with
 |none=>rfl
 |some b=>cases b<;>rfl
theorem Y4:∀(ids:List Nat) (G:Nat->Option aI),sG G ids=aS G (ids.map fun id=>(id,oK (G id)))
 |[],G=>rfl
 |id::r,G=>by
  rw[Uy,Y4 r]
  have:(r.map fun j=>(j,oK (aS G [(id,oK (G id))] j)))=r.map fun j=>(j,oK (G j)):=by
   refine sL fun j _=> ?_
   simp only[aS];split
   ·rename_i h;subst h;rw[bk2]
   ·rfl
  rw[this];rfl
theorem bk3{G G':Nat->Option aI}{id off len:Nat}(h:G' id=G id):rowsOf G' (.own id off len)=rowsOf G (.own id off len):=by simp only[rowsOf,h]
theorem Y5{G G':Nat->Option aI}{a:AV}(h:∀id∈u6 a,G' id=G id):oN G' a=oN G a:=by
 cases a with
 |own id off len=>simp only[oN,bk3 (h id (by simp[u6]))]
 |ptr id i o=>simp only[oN,h id (by simp[u6])]
 |sub id i o len=>simp only[oN,h id (by simp[u6])]
 |_=>rfl
theorem Y6{G G':Nat->Option aI}:∀(xs:List AV),(∀id∈kU u6 xs,G' id=G id)->xs.map (oN G')=xs.map (oN G)
 |[],_=>rfl
 |x::r,h=>by
  simp only[jW];rw[Y5 fun id aC=>h id (by simp only[kU];exact BV _ aC),Y6 r fun id aC=>h id (by simp only[kU];exact BW _ aC)]
theorem bk4{G G':Nat->Option aI}{a:AV}(h:∀id∈lL a,G' id=G id):m7 G' a=m7 G a:=by
 cases a with
 |agg xs=>simp only[m7];rw[Y6 xs h]
 |fn f xs ys=>simp only[m7];rw[Y6 xs fun id aC=>h id (by simp only[lL];exact BV _ aC),Y6 ys fun id aC=>h id (by simp only[lL];exact BW _ aC)]
 |own id off len=>exact Y5 (a:= .own id off len) fun id aC=>h id aC
 |ptr id i o=>exact Y5 (a:= .ptr id i o) fun id aC=>h id aC
 |sub id i o len=>exact Y5 (a:= .sub id i o len) fun id aC=>h id aC
 |_=>rfl
theorem Gt{G G':Nat->Option aI}:∀(xs:List AV),(∀id∈kU lL xs,G' id=G id)->xs.map (m7 G')=xs.map (m7 G)
 |[],_=>rfl
 |x::r,h=>by
  simp only[jW];rw[bk4 fun id aC=>h id (by simp only[kU];exact BV _ aC),Gt r fun id aC=>h id (by simp only[kU];exact BW _ aC)]
end Go.AL
namespace Go.AL
open Go.RowKit
def cT(G:Nat->Option aI):Nat->AV->AV
 |0,a=>a
 |k+1,.own id off len=>match rowsOf G (.own id off len)with
  |some (rows,_)=> .snap (rows.map fun row=>row.map (cT G k))
  |none=> .own id off len
 |k+1,.ptr id i o=>match G id with
  |some (.cells _ _ rows _ _)=> .dJ (rows.map fun row=>row.map (cT G k)) i o
  |_=> .ptr id i o
 |k+1,.agg xs=> .agg (xs.map (cT G k))
 |k+1,.aR xs=> .aR (xs.map (cT G k))
 |k+1,.fn f xs ys=> .fn f (xs.map (cT G k)) (ys.map (cT G k))
 |_+1,a=>a
def fY(G:Nat->Option aI):Nat->AV->List Nat
 |0,_=> []
 |k+1,.own id off len=>id::match rowsOf G (.own id off len)with
  |some (rows,_)=>rows.flatMap fun row=>row.flatMap (fY G k)
  |none=> []
 |k+1,.ptr id i o=>id::match G id with
  |some (.cells _ _ rows _ _)=>rows.flatMap fun row=>row.flatMap (fY G k)
  |_=> []
 |k+1,.agg xs=>xs.flatMap (fY G k)
 |k+1,.aR xs=>xs.flatMap (fY G k)
 |k+1,.fn f xs ys=>xs.flatMap (fY G k)++ys.flatMap (fY G k)
 |_+1,_=> []
theorem Vo{G G':Nat->Option aI}{id off len:Nat}(h:G' id=G id):rowsOf G' (.own id off len)=rowsOf G (.own id off len):=by
 simp only[rowsOf,h]
theorem Y7{G G':Nat->Option aI}:∀(k:Nat) (a:AV),(∀id∈fY G k a,G' id=G id)->cT G' k a=cT G k a
 |0,a,h=>rfl
 |k+1,a,h=>by
  have dB:∀rows:List (List AV),(∀id∈rows.flatMap fun row=>row.flatMap (fY G k),G' id=G id)->(rows.map fun row=>row.map (cT G' k))=rows.map fun row=>row.map (cT G k):=fun rows h=>by
   refine sL fun row hr=>sL fun x hx=>Y7 k x fun id aC=>h id ?_
   exact sJ.2 ⟨row,hr,sJ.2 ⟨x,hx,aC⟩⟩
  have hl:∀xs:List AV,(∀id∈xs.flatMap (fY G k),G' id=G id)->xs.map (cT G' k)=xs.map (cT G k):=fun xs h=>
   sL fun x hx=>Y7 k x fun id aC=>h id (sJ.2 ⟨x,hx,aC⟩)
  cases a with
  |own id off len=>
   simp only[fY]at h;simp only[cT];rw[Vo (h id (UF ..))];cases hr:rowsOf G (.own id off len)with
   |none=>rfl
   |some p=>
    obtain⟨rows,rd⟩:=p;rw[hr]at h;simp only[];rw[dB rows fun aK aC=>h aK (UG _ aC)]
  |ptr id i o=>
   simp only[fY]at h;simp only[cT];rw[h id (UF ..)];cases hr:G id with
   |none=>rfl
   |some b=>
    cases b with
    |cells e s rows w a=>
     rw[hr]at h;simp only[];rw[dB rows fun aK aC=>h aK (UG _ aC)]
    |map es=>rfl
    |cJ=>rfl
    |iter=>rfl
  |agg xs=>simp only[cT];rw[hl xs h]
  |aR xs=>simp only[cT];rw[hl xs h]
  |fn f xs ys=>
   simp only[cT];rw[hl xs fun id aC=>h id (BV _ aC),hl ys fun id aC=>h id (BW _ aC)]
  |c x=>rfl
  |snap rows=>rfl
  |dJ rows i o=>rfl
  |sub=>rfl
  |omap=>rfl
  |jF=>rfl
theorem Gu{G G':Nat->Option aI}:∀(k:Nat) (a:AV),(∀id∈fY G k a,G' id=G id)->fY G' k a=fY G k a
 |0,a,h=>rfl
 |k+1,a,h=>by
  have hl:∀xs:List AV,(∀id∈xs.flatMap (fY G k),G' id=G id)->xs.flatMap (fY G' k)=xs.flatMap (fY G k):=fun xs h=>by
   simp only[List.flatMap];rw[sL fun x hx=>Gu k x fun id aC=>h id (sJ.2 ⟨x,hx,aC⟩)]
  have dB:∀rows:List (List AV),(∀id∈rows.flatMap fun row=>row.flatMap (fY G k),G' id=G id)->(rows.flatMap fun row=>row.flatMap (fY G' k))=rows.flatMap fun row=>row.flatMap (fY G k):=fun rows h=>by
   have h1:rows.map (fun row=>row.flatMap (fY G' k))=rows.map fun row=>row.flatMap (fY G k):=sL fun row hr=>hl row fun id aC=>h id (sJ.2 ⟨row,hr,aC⟩)
   unfold List.flatMap at h1⊢;exact congrArg List.flatten h1
  cases a with
  |own id off len=>
   simp only[fY]at h⊢;rw[Vo (h id (UF ..))];cases hr:rowsOf G (.own id off len)with
   |none=>rfl
   |some p=>
    obtain⟨rows,rd⟩:=p;rw[hr]at h;simp only[];rw[dB rows fun aK aC=>h aK (UG _ aC)]
  |ptr id i o=>
   simp only[fY]at h⊢;rw[h id (UF ..)];cases hr:G id with
   |none=>rfl
   |some b=>
    cases b with
    |cells e s rows w a=>
     rw[hr]at h;simp only[];rw[dB rows fun aK aC=>h aK (UG _ aC)]
    |map es=>rfl
    |cJ=>rfl
    |iter=>rfl
  |agg xs=>exact hl xs h
  |aR xs=>exact hl xs h
  |fn f xs ys=>
   simp only[fY];rw[hl xs fun id aC=>h id (BV _ aC),hl ys fun id aC=>h id (BW _ aC)]
  |c x=>rfl
  |snap rows=>rfl
  |dJ rows i o=>rfl
  |sub=>rfl
  |omap=>rfl
  |jF=>rfl
theorem K5{E:Env}{W:World}{G:Nat->Option aI}{L:Nat->Nat}(hG:RC E W G)(hL:∀b,E.L b<=L b)(nP:∀id,E.U id->∀(cur:Array Value) (e:TypeId) (f:Nat×Nat),W.heap[E.ι id]? =some (Obj.cells cur e f)->cur.size<=L (E.ι id)):
  ∀(k:Nat) {a:AV} {v:Value},RV E W a v->bJ (cT G k a)->RV (fM L) W (cT G k a) v
 |0,a,v,r,h=>r.qO hL h
 |k+1,a,v,r,h=>by
  have hl:∀(xs:List AV) (vs:List Value),(∀(i:Nat) x v,xs[i]? =some x->vs[i]? =some v->RV E W x v)->(∀x∈xs.map (cT G k),bJ x)->∀(i:Nat) x v,(xs.map (cT G k))[i]? =some x->vs[i]? =some v->RV (fM L) W x v:=fun xs vs hr hn i x v hx hv=>by
   have hm:=hn x (eY hx);rw[iA]at hx;obtain⟨y,hy,rfl⟩:=map_some hx;exact K5 hG hL nP k (hr i y v hy hv) hm
  have bH:∀{rows:List (List AV)} {i j:Nat} {row:List AV} {x:AV},(rows.map fun row=>row.map (cT G k))[i]? =some row->row[j]? =some x->∃iR x0,rows[i]? =some iR/\iR[j]? =some x0/\x=cT G k x0/\row.length=iR.length:=fun{rows i j row x} h1 h2=>by
   rw[iA]at h1;obtain⟨iR,h3,rfl⟩:=map_some h1;rw[iA]at h2;obtain⟨x0,h4,rfl⟩:=map_some h2;exact⟨iR,x0,h3,h4,rfl,by simp⟩
  have hlen:∀{rows:List (List AV)} {s i:Nat} {row:List AV},(∀(i:Nat) row,rows[i]? =some row->row.length=s)->(rows.map fun row=>row.map (cT G k))[i]? =some row->row.length=s:=fun{rows s i row} h0 h1=>by
   rw[iA]at h1;obtain⟨iR,h3,rfl⟩:=map_some h1;simpa using h0 i iR h3
  cases a with
  |own id off len=>
   simp only[cT]at h⊢;split at h
   ·rename_i rows rd dB
    have hU:=(tO r).1;rcases(tO r).2 with⟨cap,hv,eA,B7,e0,f0,k9,SP⟩|⟨mZ,a0,hv⟩
    ·subst hv
     simp only[rowsOf]at dB;split at dB
     ·rename_i e s dZ w ap bX
      split at dB
      ·rename_i hle
       simp only[bB,bY]at dB;obtain⟨rfl,rfl⟩:=dB;obtain⟨_,kL,K6,⟨cur,bU,rG,fH⟩,_,_⟩:=hG.ok id _ bX;rw[bU]at k9;injection k9 with k9
       injection k9 with k9 JY JZ
       subst k9;subst JY;subst JZ;have EK:=nP id hU cur e (0,0) bU;rw[eF]at h
       have sE:∀(i:Nat) row,((dZ.drop off).take len)[i]? =some row->dZ[off+i]? =some row:=fun i row hr=>by
        rw[gF]at hr;split at hr
        ·rwa[m9]at hr
        ·cases hr
       have vH:((dZ.drop off).take len).length=len:=by simp;omega
       have hmul:(off+len)*s<=dZ.length*s:=mU s hle;refine .snap _ (E.ι id) (off*E.sz id) s len cap (fun i j=>cur.getD ((off+i)*s+j) undef) (by rw[mJ];exact vH.symm) eA (fun i row hr=>hlen (fun i row hr=>K6 _ row (sE i row hr)) hr) ?_ (fun i j row x h1 h2=> ?_) (fun i j row x h1 h2=> ?_)
       ·rw[mJ,vH,kL,<-nX];simp only[fM];omega
       ·obtain⟨iR,x0,h5,h6,rfl,_⟩:=bH h1 h2
        obtain⟨u,h3,h4⟩:=fH _ j iR x0 (sE i iR h5) h6;rw[cell_of_row W _ _ cur e (0,0) bU,kL];have he:off*s+(i*s+j)=(off+i)*s+j:=by rw[nX];omega
        rw[he,h3];simp[h3]
       ·have gG:=h row (eY h1) x (eY h2)
        obtain⟨iR,x0,h5,h6,rfl,_⟩:=bH h1 h2;obtain⟨u,h3,h4⟩:=fH _ j iR x0 (sE i iR h5) h6;simp only[HJ,h3,qR];exact K5 hG hL nP k h4 gG
      ·cases dB
     ·cases dB
    ·subst mZ;subst hv
     have:rows=[]:=by
      simp only[rowsOf]at dB;split at dB
      ·split at dB
       ·simp at dB;exact dB.1
       ·cases dB
      ·cases dB
     subst this;exact .kY _ _
   ·cases h
  |ptr id i o=>
   simp only[cT]at h⊢;split at h
   ·rename_i e s rows w ap bX
    cases r with
    |ptr _ _ _ hU=>
    obtain⟨_,kL,K6,⟨cur,bU,rG,fH⟩,_,_⟩:=hG.ok id _ bX;have EK:=nP id hU cur e (0,0) bU;cases h with
    |dJ _ _ _ h=>
    have:=RV.dJ (E:=fM L) (W:=W) (rows.map fun row=>row.map (cT G k)) i o (E.ι id) 0 s (fun i j=>cur.getD (i*s+j) undef) (fun i row hr=>hlen K6 hr) (by rw[mJ];simp only[fM];omega) (fun i j row x h1 h2=>by
     obtain⟨iR,x0,h5,h6,rfl,_⟩:=bH h1 h2;obtain⟨u,h3,h4⟩:=fH i j iR x0 h5 h6;rw[cell_of_row W _ _ cur e (0,0) bU,sN,h3];simp[h3]) (fun i j row x h1 h2=>by
     have gG:=h row (eY h1) x (eY h2);obtain⟨iR,x0,h5,h6,rfl,_⟩:=bH h1 h2;obtain⟨u,h3,h4⟩:=fH i j iR x0 h5 h6;simp only[HJ,h3,qR]
     exact K5 hG hL nP k h4 gG)
    rw[kL];simpa using this
   ·cases h
  |agg xs=>
   simp only[cT]at h⊢;rw[e8]at h;cases r with
   |agg _ vs rH hr=>
   exact .agg _ vs (by simpa using rH) fun i x v hx hv=>hl xs vs.toList (fun i x v hx hv=>hr i x v hx (by simpa using hv)) h i x v hx (by simpa using hv)
  |aR xs=>
   simp only[cT]at h⊢;rw[eN]at h;cases r with
   |aR _ vs rH hr=>
   exact .aR _ vs (by simpa using rH) fun i x v hx hv=>hl xs vs.toList (fun i x v hx hv=>hr i x v hx (by simpa using hv)) h i x v hx (by simpa using hv)
  |fn f xs ys=>
   simp only[cT]at h⊢;cases h with
   |fn _ _ _ mY lG=>
   cases r with
   |fn _ _ _ vf vc tP bQ hr lP=>
   exact .fn _ _ _ vf vc (by simpa using tP) (by simpa using bQ) (fun i x v hx hv=>hl xs vf.toList (fun i x v hx hv=>hr i x v hx (by simpa using hv)) mY i x v hx (by simpa using hv)) (fun i x v hx hv=>hl ys vc.toList (fun i x v hx hv=>lP i x v hx (by simpa using hv)) lG i x v hx (by simpa using hv))
  |c x=>exact r.qO hL h
  |snap rows=>exact r.qO hL h
  |dJ rows i o=>exact r.qO hL h
  |sub=>exact r.qO hL h
  |omap=>exact r.qO hL h
  |jF=>exact r.qO hL h
mutual
def kB:AV->Bool
 | .c _=>true
 | .agg xs=>K7 xs
 | .aR xs=>K7 xs
 | .snap rows=>rows.isEmpty
 | .fn _ xs ys=>K7 xs&&K7 ys
 |_=>false
def K7:List AV->Bool
 |[]=>true
 |x::r=>kB x&&K7 r
end
theorem T3:∀{xs:List AV},K7 xs=true->∀x∈xs,kB x=true
 |[],_,x,hx=>by cases hx
 |y::r,h,x,hx=>by
  simp only[K7,jX]at h;rcases fB.1 hx with h1|h1
  ·rw[h1];exact h.1
  ·exact T3 h.2 x h1
theorem GV{E E':Env}{W:World}{a:AV}{v:Value}(r:RV E W a v):kB a=true->RV E' W a v:=by
 induction r with
 |c x hx=>intro _;exact .c x hx
 |agg xs vs hl _ ih=>intro h;simp only[kB]at h;exact .agg xs vs hl fun i x v hx hv=>ih i x v hx hv (T3 h x (eY hx))
 |aR xs vs hl _ ih=>intro h;simp only[kB]at h;exact .aR xs vs hl fun i x v hx hv=>ih i x v hx hv (T3 h x (eY hx))
 |snap rows b off s n cap vs hn oG hs hL hc hr ih=>
  intro h;simp only[kB,List.isEmpty_iff]at h;subst h;simp only[gL]at hn;subst hn;exact .kY _ _
 |kY a cap=>intro _;exact .kY a cap
 |fn f first cap vf vc hl bQ _ _ E7 E8=>
  intro h;simp only[kB,jX]at h;exact .fn f first cap vf vc hl bQ (fun i x v hx hv=>E7 i x v hx hv (T3 h.1 x (eY hx))) (fun i x v hx hv=>E8 i x v hx hv (T3 h.2 x (eY hx)))
 |dJ=>intro h;simp only[kB]at h;cases h
 |own=>intro h;simp only[kB]at h;cases h
 |mF=>intro h;simp only[kB]at h;cases h
 |sub=>intro h;simp only[kB]at h;cases h
 |ptr=>intro h;simp only[kB]at h;cases h
 |omap=>intro h;simp only[kB]at h;cases h
 |jF=>intro h;simp only[kB]at h;cases h
def fresh(G:Nat->Option aI):Nat->AV->Bool
 |0,a=>kB a
 |k+1,.own id off len=>match rowsOf G (.own id off len)with
  |some (rows,_)=>rows.all fun row=>row.all (fresh G k)
  |none=>false
 |k+1,.ptr id i o=>match G id with
  |some (.cells _ _ rows _ _)=>rows.all fun row=>row.all (fresh G k)
  |_=>false
 |k+1,.agg xs=>xs.all (fresh G k)
 |k+1,.aR xs=>xs.all (fresh G k)
 |k+1,.fn _ xs ys=>xs.all (fresh G k)&&ys.all (fresh G k)
 |_+1,a=>kB a
theorem Y8{E:Env}{W:World}{G:Nat->Option aI}{L:Nat->Nat}(hG:RC E W G):
  ∀(k:Nat) {a:AV} {v:Value},(∀id∈fY G k a,(G id).isSome=true->E.U id->∀(cur:Array Value) (e:TypeId) (f:Nat×Nat),W.heap[E.ι id]? =some (Obj.cells cur e f)->cur.size<=L (E.ι id))->RV E W a v->fresh G k a=true->RV (fM L) W (cT G k a) v
 |0,a,v,_,r,h=>GV r h
 |k+1,a,v,nP,r,h=>by
  have hl:∀(xs:List AV) (vs:List Value),(∀id∈xs.flatMap (fY G k),(G id).isSome=true->E.U id->∀(cur:Array Value) (e:TypeId) (f:Nat×Nat),W.heap[E.ι id]? =some (Obj.cells cur e f)->cur.size<=L (E.ι id))->(∀(i:Nat) x v,xs[i]? =some x->vs[i]? =some v->RV E W x v)->(∀x∈xs,fresh G k x=true)->∀(i:Nat) x v,(xs.map (cT G k))[i]? =some x->vs[i]? =some v->RV (fM L) W x v:=fun xs vs ho hr hn i x v hx hv=>by
   rw[iA]at hx;obtain⟨y,hy,rfl⟩:=map_some hx;exact Y8 hG k (fun id aC=>ho id (sJ.2 ⟨y,eY hy,aC⟩)) (hr i y v hy hv) (hn y (eY hy))
  have bH:∀{rows:List (List AV)} {i j:Nat} {row:List AV} {x:AV},(rows.map fun row=>row.map (cT G k))[i]? =some row->row[j]? =some x->∃iR x0,rows[i]? =some iR/\iR[j]? =some x0/\x=cT G k x0/\row.length=iR.length:=fun{rows i j row x} h1 h2=>by
   rw[iA]at h1;obtain⟨iR,h3,rfl⟩:=map_some h1;rw[iA]at h2;obtain⟨x0,h4,rfl⟩:=map_some h2;exact⟨iR,x0,h3,h4,rfl,by simp⟩
  have hlen:∀{rows:List (List AV)} {s i:Nat} {row:List AV},(∀(i:Nat) row,rows[i]? =some row->row.length=s)->(rows.map fun row=>row.map (cT G k))[i]? =some row->row.length=s:=fun{rows s i row} h0 h1=>by
   rw[iA]at h1;obtain⟨iR,h3,rfl⟩:=map_some h1;simpa using h0 i iR h3
  cases a with
  |own id off len=>
   simp only[cT];simp only[fresh]at h;split at h
   ·rename_i rows rd dB
    have T4:∀(i j:Nat) row x,rows[i]? =some row->row[j]? =some x->fresh G k x=true:=fun i j row x h1 h2=>gK.1 (gK.1 h row (eY h1)) x (eY h2)
    have Gv:∀(i j:Nat) row x,rows[i]? =some row->row[j]? =some x->∀id∈fY G k x,(G id).isSome=true->E.U id->∀(cur:Array Value) (e:TypeId) (f:Nat×Nat),W.heap[E.ι id]? =some (Obj.cells cur e f)->cur.size<=L (E.ι id):=fun i j row x h1 h2 aK aC=>nP aK (by
     simp only[fY,dB]
     exact UG _ (sJ.2 ⟨row,eY h1,sJ.2 ⟨x,eY h2,aC⟩⟩))
    have hU:=(tO r).1;rcases(tO r).2 with⟨cap,hv,eA,B7,e0,f0,k9,SP⟩|⟨mZ,a0,hv⟩
    ·subst hv
     simp only[rowsOf]at dB;split at dB
     ·rename_i e s dZ w ap bX
      split at dB
      ·rename_i hle
       simp only[bB,bY]at dB;obtain⟨rfl,rfl⟩:=dB;obtain⟨_,kL,K6,⟨cur,bU,rG,fH⟩,_,_⟩:=hG.ok id _ bX;rw[bU]at k9;injection k9 with k9
       injection k9 with k9 JY JZ
       subst k9;subst JY;subst JZ;have EK:=nP id (by simp only[fY];exact UF ..) (by rw[bX];rfl) hU cur e (0,0) bU
       have sE:∀(i:Nat) row,((dZ.drop off).take len)[i]? =some row->dZ[off+i]? =some row:=fun i row hr=>by
        rw[gF]at hr;split at hr
        ·rwa[m9]at hr
        ·cases hr
       have vH:((dZ.drop off).take len).length=len:=by simp;omega
       have hmul:(off+len)*s<=dZ.length*s:=mU s hle;refine .snap _ (E.ι id) (off*E.sz id) s len cap (fun i j=>cur.getD ((off+i)*s+j) undef) (by rw[mJ];exact vH.symm) eA (fun i row hr=>hlen (fun i row hr=>K6 _ row (sE i row hr)) hr) ?_ (fun i j row x h1 h2=> ?_) (fun i j row x h1 h2=> ?_)
       ·rw[mJ,vH,kL,<-nX];simp only[fM];omega
       ·obtain⟨iR,x0,h5,h6,rfl,_⟩:=bH h1 h2
        obtain⟨u,h3,h4⟩:=fH _ j iR x0 (sE i iR h5) h6;rw[cell_of_row W _ _ cur e (0,0) bU,kL];have he:off*s+(i*s+j)=(off+i)*s+j:=by rw[nX];omega
        rw[he,h3];simp[h3]
       ·obtain⟨iR,x0,h5,h6,rfl,_⟩:=bH h1 h2
        obtain⟨u,h3,h4⟩:=fH _ j iR x0 (sE i iR h5) h6;simp only[HJ,h3,qR];exact Y8 hG k (Gv i j iR x0 h5 h6) h4 (T4 i j iR x0 h5 h6)
      ·cases dB
     ·cases dB
    ·subst mZ;subst hv
     have:rows=[]:=by
      simp only[rowsOf]at dB;split at dB
      ·split at dB
       ·simp at dB;exact dB.1
       ·cases dB
      ·cases dB
     subst this;exact .kY _ _
   ·cases h
  |ptr id i o=>
   simp only[cT];simp only[fresh]at h;split at h
   ·rename_i e s rows w ap bX
    have T4:∀(i j:Nat) row x,rows[i]? =some row->row[j]? =some x->fresh G k x=true:=fun i j row x h1 h2=>gK.1 (gK.1 h row (eY h1)) x (eY h2)
    have Gv:∀(i j:Nat) row x,rows[i]? =some row->row[j]? =some x->∀id∈fY G k x,(G id).isSome=true->E.U id->∀(cur:Array Value) (e:TypeId) (f:Nat×Nat),W.heap[E.ι id]? =some (Obj.cells cur e f)->cur.size<=L (E.ι id):=fun i' j row x h1 h2 aK aC=>nP aK (by
     simp only[fY,bX]
     exact UG _ (sJ.2 ⟨row,eY h1,sJ.2 ⟨x,eY h2,aC⟩⟩))
    cases r with
    |ptr _ _ _ hU=>
    obtain⟨_,kL,K6,⟨cur,bU,rG,fH⟩,_,_⟩:=hG.ok id _ bX;have EK:=nP id (by simp only[fY];exact UF ..) (by rw[bX];rfl) hU cur e (0,0) bU
    have:=RV.dJ (E:=fM L) (W:=W) (rows.map fun row=>row.map (cT G k)) i o (E.ι id) 0 s (fun i j=>cur.getD (i*s+j) undef) (fun i row hr=>hlen K6 hr) (by rw[mJ];simp only[fM];omega) (fun i j row x h1 h2=>by
     obtain⟨iR,x0,h5,h6,rfl,_⟩:=bH h1 h2;obtain⟨u,h3,h4⟩:=fH i j iR x0 h5 h6;rw[cell_of_row W _ _ cur e (0,0) bU,sN,h3];simp[h3]) (fun i j row x h1 h2=>by
     obtain⟨iR,x0,h5,h6,rfl,_⟩:=bH h1 h2;obtain⟨u,h3,h4⟩:=fH i j iR x0 h5 h6;simp only[HJ,h3,qR]
     exact Y8 hG k (Gv i j iR x0 h5 h6) h4 (T4 i j iR x0 h5 h6))
    rw[kL];simpa using this
   ·cases h
  |agg xs=>
   simp only[cT];simp only[fresh,gK]at h;cases r with
   |agg _ vs rH hr=>
   exact .agg _ vs (by simpa using rH) fun i x v hx hv=>hl xs vs.toList (fun id aC=>nP id (by simp only[fY];exact aC)) (fun i x v hx hv=>hr i x v hx (by simpa using hv)) h i x v hx (by simpa using hv)
  |aR xs=>
   simp only[cT];simp only[fresh,gK]at h;cases r with
   |aR _ vs rH hr=>
   exact .aR _ vs (by simpa using rH) fun i x v hx hv=>hl xs vs.toList (fun id aC=>nP id (by simp only[fY];exact aC)) (fun i x v hx hv=>hr i x v hx (by simpa using hv)) h i x v hx (by simpa using hv)
  |fn f xs ys=>
   simp only[cT];simp only[fresh,jX,gK]at h;cases r with
   |fn _ _ _ vf vc tP bQ hr lP=>
   exact .fn _ _ _ vf vc (by simpa using tP) (by simpa using bQ) (fun i x v hx hv=>hl xs vf.toList (fun id aC=>nP id (by simp only[fY];exact BV _ aC)) (fun i x v hx hv=>hr i x v hx (by simpa using hv)) h.1 i x v hx (by simpa using hv)) (fun i x v hx hv=>hl ys vc.toList (fun id aC=>nP id (by simp only[fY];exact BW _ aC)) (fun i x v hx hv=>lP i x v hx (by simpa using hv)) h.2 i x v hx (by simpa using hv))
  |c x=>exact GV r h
  |snap rows=>exact GV r h
  |dJ rows i o=>exact GV r h
  |sub=>exact GV r h
  |omap=>exact GV r h
  |jF=>exact GV r h
def xA(P:Program)(n:FuncId)(args:List AV)(a:AV):Prop:=
 qN P n=true/\∀(L:Nat->Nat) (W:World) (vs:List Value),(∀b,W.heap.size<=b->L b=0)->bP (fM L) W args vs->
  Calls P n vs.toArray W fun e W'=>∃v,e= .returned v/\∃L',Below W.heap.size W W'/\(∀b,b<W.heap.size->L' b=0)/\(∀b,W'.heap.size<=b->L' b=0)/\RV (fM L') W' a v/\bJ a
theorem xA.Ps{P:Program}{n:FuncId}{args:List AV}{a:AV}(h:fD P n args (·=a))(hk:kB a=true):xA P n args a:=
 ⟨h.1,fun L W vs hL hr=>(h.2 L W vs hL hr).mono fun e W' ⟨v,he,r,L',h1,h2,h3,h4,h5,h6⟩=>by
   subst h6
   exact⟨v,he,fun _=>0,h1,fun _ _=>rfl,fun _ _=>rfl,GV h4 hk,h5⟩⟩
theorem xA.Vp{P:Program}{n:FuncId}{bS args:List AV}{a:AV}{G:Nat->Option aI}(k:Nat)(h:xA P n args a)(he:bS.map (cT G k)=args)(ha:∀a∈args,bJ a){E:Env}{W:World}{H:Heap}(hH:RH E W H)(hG:RC E W G){vs:List Value}(hr:bP E W bS vs):
  Calls P n vs.toArray W fun e W'=>∃v,e= .returned v/\∃L',bD E W ⟨E.ι,E.sz,E.U,L'⟩ W'/\RH ⟨E.ι,E.sz,E.U,L'⟩ W' H/\RV ⟨E.ι,E.sz,E.U,L'⟩ W' a v:=by
 have dX:∀b,W.heap.size<=b->max (E.L b) (match W.heap[b]? with|some (.cells cur _ _)=>cur.size|_=>0)=0:=fun b hb=>by
  rw[hH.core.lim b hb,PJ hb];rfl
 refine(h.2 (fun b=>max (E.L b) (match W.heap[b]? with|some (.cells cur _ _)=>cur.size|_=>0)) W vs dX ?_).mono fun e W' ⟨v,tE,L',hb,h2,h3,h4,h5⟩=> ?_
 ·subst he
  refine⟨by simpa using hr.1,fun i x v hx hv=> ?_⟩
  have gG:=ha x (eY hx);rw[iA]at hx;obtain⟨y,hy,rfl⟩:=map_some hx;refine K5 hG (fun b=>Nat.le_max_left _ _) (fun id hU cur e f hc=> ?_) k (hr.2 i y v hy hv) gG
  simp only[hc];exact Nat.le_max_right _ _
 ·subst tE
  have bG:∀b k,k<E.L b->b<W.heap.size:=fun b k hk=>by
   rcases lU b W.heap.size with h|h
   ·exact h
   ·have:=hH.core.lim b h;omega
  refine⟨v,rfl,fun b=>if b<W.heap.size then E.L b else L' b,?_⟩
  have K8:∀b,b<W.heap.size->(if b<W.heap.size then E.L b else L' b)=E.L b:=fun b hb=>if_pos hb
  have hv:bD E W ⟨E.ι,E.sz,E.U,fun b=>if b<W.heap.size then E.L b else L' b⟩ W':=by
   refine⟨hb.os,hb.tape,hb.output,hb.size,fun _ h=>h,fun _ _=>⟨rfl,rfl⟩,fun b=> ?_,fun b k hk=>hb.cell (p:=⟨b,k,none⟩) (bG b k hk),fun b bZ _=>hb.block b bZ,fun b cur e f hc=> ?_,fun b bZ _=>K8 b bZ,fun id h h'=>absurd h' h,fun b r h=>⟨r,by rw[hb.block b (jB.1 h).1];exact h,rfl⟩⟩
   ·rcases lU b W.heap.size with h|h
    ·exact Z9 (K8 b h).symm
    ·rw[hH.core.lim b h];exact mT _
   ·exact⟨cur,f,by rw[hb.block b (jB.1 hc).1];exact hc,rfl⟩
  refine⟨hv,⟨hH.next,fun b bZ=> ?_,fun id hU=>vQ (hH.core.eX id hU) hb.size,fun id b hg=> ?_⟩,h4.GM fun b=> ?_⟩
  ·have:=hb.size
   have hn:¬b<W.heap.size:=by omega
   simp only[hn,if_false];exact h3 b bZ
  ·obtain⟨hU,cK⟩:=hH.core.ok id b hg
   have tY:=hH.core.eX id hU;exact⟨hU,cK.mono hv hU (hb.block _ tY) (K8 _ tY) fun aK b' _ dA vK=>⟨b',dA,vK,rfl,fun h=>h⟩⟩
  ·by_cases bZ:b<W.heap.size
   ·rw[h2 b bZ];exact mT _
   ·simp[bZ]
mutual
def wV:AV->Bool
 | .c _=>true
 | .agg xs=>GX xs
 | .aR xs=>GX xs
 | .snap rows=>T5 rows
 | .dJ rows _ _=>T5 rows
 | .fn _ xs ys=>GX xs&&GX ys
 |_=>false
def GX:List AV->Bool
 |[]=>true
 |x::r=>wV x&&GX r
def T5:List (List AV)->Bool
 |[]=>true
 |x::r=>GX x&&T5 r
end
mutual
theorem Vq:∀a,wV a=true->bJ a
 | .c x,_=> .c x
 | .agg xs,h=> .agg xs (O1 xs (by simpa only[wV]using h))
 | .aR xs,h=> .aR xs (O1 xs (by simpa only[wV]using h))
 | .snap rows,h=> .snap rows (Gw rows (by simpa only[wV]using h))
 | .dJ rows i o,h=> .dJ rows i o (Gw rows (by simpa only[wV]using h))
 | .fn f xs ys,h=>by
   simp only[wV,jX]at h;exact .fn f xs ys (O1 xs h.1) (O1 ys h.2)
 | .own ..,h=>by simp only[wV]at h;cases h
 | .sub ..,h=>by simp only[wV]at h;cases h
 | .ptr ..,h=>by simp only[wV]at h;cases h
 | .omap ..,h=>by simp only[wV]at h;cases h
 | .jF ..,h=>by simp only[wV]at h;cases h
theorem O1:∀xs,GX xs=true->∀x∈xs,bJ x
 |[],_,x,hx=>by cases hx
 |y::r,h,x,hx=>by
  simp only[GX,jX]at h;rcases fB.1 hx with h1|h1
  ·rw[h1];exact Vq y h.1
  ·exact O1 r h.2 x h1
theorem Gw:∀rows,T5 rows=true->∀row∈rows,∀x∈row,bJ x
 |[],_,row,hx=>by cases hx
 |y::r,h,row,hx=>by
  simp only[T5,jX]at h;rcases fB.1 hx with h1|h1
  ·rw[h1];exact O1 y h.1
  ·exact Gw r h.2 row h1
end
end Go.AL
namespace Go.AL
open Go.RowKit
def O2(aG:Nat):AV->AV
 | .own _ o n=> .own aG o n
 |a=>a
def vO(aG:Nat):AV->AV
 | .aR xs=> .aR (xs.map (O2 aG))
 |a=>O2 aG a
def T6(a:AV):Prop:=(∃o n,a= .own 0 o n)\/bJ a
def Gx(a:AV):Prop:=T6 a\/∃xs,a= .aR xs/\∀x∈xs,T6 x
def EO(b0 k:Nat)(L:Nat->Nat):Env:=⟨fun _=>b0,fun _=>k,fun id=>id=0,L⟩
def rT(P:Program)(n:FuncId)(args:List AV)(a:AV)(el:TypeId)(k:Nat)(rows:List (List AV))(ap:Bool):Prop:=
 qN P n=true/\∀(L:Nat->Nat) (W:World) (vs:List Value),(∀b,W.heap.size<=b->L b=0)->bP (fM L) W args vs->
  Calls P n vs.toArray W fun e W'=>∃v,e= .returned v/\Gx a/\(∀(i:Nat) row,rows[i]? =some row->row.length=k)/\∃(L':Nat->Nat) (b0:Nat) (cur:Array Value),Below W.heap.size W W'/\(∀b,b<W.heap.size->L' b=0)/\(∀b,W'.heap.size<=b->L' b=0)/\W.heap.size<=b0/\L' b0=0/\
   W'.heap[b0]? =some (Obj.cells cur el (0,0))/\rows.length*k<=cur.size/\(∀(i j:Nat) row x,rows[i]? =some row->row[j]? =some x->∃u,cur[i*k+j]? =some u/\RV (fM L') W' x u)/\RV (EO b0 k L') W' a v
theorem K9{b0 k aG:Nat}{L':Nat->Nat}{E':Env}{W':World}(dY:E'.ι aG=b0)(hs:E'.sz aG=k)(hU:E'.U aG)(hL:∀b,L' b<=E'.L b){a:AV}{v:Value}(h:T6 a)(r:RV (EO b0 k L') W' a v):RV E' W' (O2 aG a) v:=by
 rcases h with⟨o,n,rfl⟩|h
 ·cases r with
  |own _ _ _ cap aC eA dX=>
   have:=RV.own (E:=E') (W:=W') aG o n cap hU eA (by rw[dY,hs];exact dX)
   rw[dY,hs]at this;exact this
  |mF _ _ a aC=>exact .mF _ _ _ hU
 ·have h1:RV (fM L') W' a v:=r.qO (fun _=>cA _) h
  have h2:O2 aG a=a:=by cases h<;>rfl
  rw[h2];exact h1.GM hL
theorem bk5{b0 k aG:Nat}{L':Nat->Nat}{E':Env}{W':World}(dY:E'.ι aG=b0)(hs:E'.sz aG=k)(hU:E'.U aG)(hL:∀b,L' b<=E'.L b){a:AV}{v:Value}(h:Gx a)(r:RV (EO b0 k L') W' a v):RV E' W' (vO aG a) v:=by
 have Vr:∀xs,a= .aR xs->(∀x∈xs,T6 x)->RV E' W' (vO aG a) v:=fun xs he hx=>by
  subst he;cases r with
  |aR _ vs hl hr=>
  refine .aR _ vs (by simpa using hl) fun i x v nN hv=> ?_
  rw[iA]at nN
  obtain⟨y,hy,rfl⟩:∃y,xs[i]? =some y/\O2 aG y=x:=by
   cases hq:xs[i]? with
   |none=>rw[hq]at nN;cases nN
   |some y=>rw[hq]at nN;exact⟨y,rfl,by simpa using nN⟩
  exact K9 dY hs hU hL (hx y (eY hy)) (hr i y v hy hv)
 rcases h with h|⟨xs,rfl,hx⟩
 ·have h0:=h
  rcases h with⟨o,n,rfl⟩|h
  ·exact K9 dY hs hU hL h0 r
  ·cases h with
   |aR xs h=>exact Vr xs rfl fun x hx=> .inr (h x hx)
   |c x=>exact K9 dY hs hU hL h0 r
   |agg xs h=>exact K9 dY hs hU hL h0 r
   |snap rows h=>exact K9 dY hs hU hL h0 r
   |dJ rows i o h=>exact K9 dY hs hU hL h0 r
   |fn f x y h h2=>exact K9 dY hs hU hL h0 r
 ·exact Vr xs rfl hx
theorem rT.run{P:Program}{n:FuncId}{bS args:List AV}{a:AV}{el:TypeId}{k:Nat}{rows:List (List AV)}{ap:Bool}{G:Nat->Option aI}(kk:Nat)(h:rT P n args a el k rows ap)(he:bS.map (cT G kk)=args)(ha:∀a∈args,bJ a){E:Env}{W:World}{H:Heap}{aG:Nat}(gU:¬E.U aG)(hH:RH E W H)(hG:RC E W G){vs:List Value}(hr:bP E W bS vs):
  Calls P n vs.toArray W fun e W'=>∃v,e= .returned v/\∃E',bD E W E' W'/\RC E' W' (aS H.get [(aG,some (.cells el k rows true ap))])/\RV E' W' (vO aG a) v/\∀id,E'.U id->E.U id\/id=aG:=by
 obtain⟨_,h⟩:=h
 have dX:∀b,W.heap.size<=b->max (E.L b) (match W.heap[b]? with|some (.cells cur _ _)=>cur.size|_=>0)=0:=fun b hb=>by
  rw[hH.core.lim b hb,PJ hb];rfl
 refine(h (fun b=>max (E.L b) (match W.heap[b]? with|some (.cells cur _ _)=>cur.size|_=>0)) W vs dX ?_).mono fun e W' ⟨v,tE,cK,hlen,L',b0,cur,hb,h2,h3,nY,hLb,bU,hle,fH,h4⟩=> ?_
 ·subst he
  refine⟨by simpa using hr.1,fun i x v hx hv=> ?_⟩
  have gG:=ha x (eY hx);rw[iA]at hx;obtain⟨y,hy,rfl⟩:=map_some hx;refine K5 hG (fun b=>Nat.le_max_left _ _) (fun id hU cur e f hc=> ?_) kk (hr.2 i y v hy hv) gG
  simp only[hc];exact Nat.le_max_right _ _
 ·subst tE
  have bG:∀b k,k<E.L b->b<W.heap.size:=fun b k hk=>by
   rcases lU b W.heap.size with h|h
   ·exact h
   ·have:=hH.core.lim b h;omega
  have bk7:b0<W'.heap.size:=(jB.1 bU).1
  let E':Env:=⟨fun id=>if id=aG then b0 else E.ι id,fun id=>if id=aG then k else E.sz id,fun id=>E.U id\/id=aG,fun b=>if b<W.heap.size then E.L b else L' b⟩
  have dY:∀id,E.U id->E'.ι id=E.ι id:=fun id aC=>by
   show(if id=aG then _ else _)=_
   rw[if_neg];rintro rfl;exact gU aC
  have hs:∀id,E.U id->E'.sz id=E.sz id:=fun id aC=>by
   show(if id=aG then _ else _)=_
   rw[if_neg];rintro rfl;exact gU aC
  have iX:E'.ι aG=b0:=by show(if aG=aG then _ else _)=_;rw[if_pos rfl]
  have fW:E'.sz aG=k:=by show(if aG=aG then _ else _)=_;rw[if_pos rfl]
  have K8:∀b,b<W.heap.size->E'.L b=E.L b:=fun b hb=>if_pos hb
  have Gy:∀b,W.heap.size<=b->E'.L b=L' b:=fun b hb=>if_neg (by omega)
  have Vs:∀b,L' b<=E'.L b:=fun b=>by
   rcases lU b W.heap.size with h|h
   ·rw[h2 b h];exact mT _
   ·exact Z9 (Gy b h).symm
  have kX:E'.L b0=0:=by rw[Gy b0 nY];exact hLb
  have z8:bD E W E' W':=by
   refine⟨hb.os,hb.tape,hb.output,hb.size,fun _ h=> .inl h,fun id aC=>⟨dY id aC,hs id aC⟩,fun b=> ?_,fun b k hk=>hb.cell (p:=⟨b,k,none⟩) (bG b k hk),fun b bZ _=>hb.block b bZ,fun b cur e f hc=> ?_,fun b bZ _=>K8 b bZ,fun id h1 h2=> ?_,fun b r h=>⟨r,by rw[hb.block b (jB.1 h).1];exact h,rfl⟩⟩
   ·rcases lU b W.heap.size with h|h
    ·exact Z9 (K8 b h).symm
    ·rw[hH.core.lim b h];exact mT _
   ·exact⟨cur,f,by rw[hb.block b (jB.1 hc).1];exact hc,rfl⟩
   ·rcases h2 with h2|h2
    ·exact absurd h2 h1
    ·subst h2;rw[iX];exact .inl nY
  have AM:∀id,E.U id->E'.ι id≠b0:=fun id aC heq=>by
   rw[dY id aC]at heq;have:=hH.core.eX id aC;omega
  refine⟨v,rfl,E',z8,⟨fun b bZ=> ?_,fun id aC=> ?_,fun id b hg=> ?_⟩,bk5 iX fW (.inr rfl) Vs cK h4,fun id h=>h⟩
  ·have:=hb.size
   rw[Gy b (by omega)]
   exact h3 b bZ
  ·rcases aC with aC|aC
   ·rw[dY id aC];exact vQ (hH.core.eX id aC) hb.size
   ·subst aC;rw[iX];exact bk7
  ·simp only[aS]at hg
   by_cases aC:id=aG
   ·subst aC
    rw[if_pos rfl]at hg;injection hg with hg
    subst hg;refine⟨.inr rfl,fW,hlen,⟨cur,by rw[iX];exact bU,hle,fun i' j row x h1 h2=> ?_⟩,fun _=>⟨by rw[iX];exact kX,fun aK b' aM dA heq=> ?_⟩,fun _=>⟨by rw[iX,kX];exact mT _,fun aK b' aM dA heq=> ?_⟩⟩
    ·obtain⟨u,h3,h4⟩:=fH i' j row x h1 h2
     exact⟨u,h3,h4.GM Vs⟩
    ·rw[iX]at heq
     simp only[aS,if_neg aM]at dA;exact AM aK (hH.core.ok aK b' dA).1 heq
    ·rw[iX]at heq
     simp only[aS,if_neg aM]at dA;exact absurd heq (AM aK (hH.core.ok aK b' dA).1)
   ·rw[if_neg aC]at hg
    obtain⟨hU,cK⟩:=hH.core.ok id b hg;have tY:=hH.core.eX id hU;refine⟨.inl hU,cK.mono z8 hU (hb.block _ tY) (K8 _ tY) fun aK b' aM dA heq=> ?_⟩
    simp only[aS]at dA;by_cases uZ:aK=aG
    ·subst uZ
     rw[iX]at heq;omega
    ·rw[if_neg uZ]at dA
     exact⟨b',dA,by rw[<-heq,dY aK (hH.core.ok aK b' dA).1],rfl,fun h=>h⟩
def CW(G:Nat->Option aI)(kk j:Nat)(x:AV):Option AV:=
 if fresh G kk x&&wV (cT G kk x)&& !(fY G kk x).contains j then some (cT G kk x)else none
def GY(G:Nat->Option aI)(kk j:Nat):AV->Option AV
 | .own i o n=>cond (Nat.beq i j) (some (.own 0 o n)) (CW G kk j (.own i o n))
 |x=>CW G kk j x
def T7(G:Nat->Option aI)(kk j:Nat):List AV->Option (List AV)
 |[]=>some []
 |x::r=>match GY G kk j x,T7 G kk j r with
  |some a,some l=>some (a::l)
  |_,_=>none
def Y9(G:Nat->Option aI)(kk j:Nat):AV->Option AV
 | .aR xs=>match T7 G kk j xs with
   |some l=>some (.aR l)
   |none=>none
 |a=>GY G kk j a
def Vt:List AV->Option Nat
 |[]=>none
 | .own j _ _::_=>some j
 |_::r=>Vt r
def Vu:AV->Option Nat
 | .own j _ _=>some j
 | .aR xs=>Vt xs
 |_=>none
def GZ(G:Nat->Option aI)(kk j:Nat):List AV->Option (List AV)
 |[]=>some []
 |x::r=>match CW G kk j x,GZ G kk j r with
  |some a,some l=>some (a::l)
  |_,_=>none
def KA(G:Nat->Option aI)(kk j:Nat):List (List AV)->Option (List (List AV))
 |[]=>some []
 |x::r=>match GZ G kk j x,KA G kk j r with
  |some a,some l=>some (a::l)
  |_,_=>none
structure FO where
 a:AV
 el:TypeId
 k:Nat
 rows:List (List AV)
 ap:Bool
def Gz(G:Nat->Option aI)(kk j:Nat)(r:AV):Option aI->Option FO
 |some (.cells el k mI true ap)=>match KA G kk j mI,Y9 G kk j r with
  |some rows,some a=>some ⟨a,el,k,rows,ap⟩
  |_,_=>none
 |_=>none
def Ha(G:Nat->Option aI)(kk:Nat)(r:AV):Option FO:=
 match Vu r with
 |some j=>Gz G kk j r (G j)
 |none=>none
section
variable {G : Nat -> Option aI} {kk j : Nat}
theorem Vv{x y:AV}(h:CW G kk j x=some y):y=cT G kk x/\fresh G kk x=true/\bJ y/\j∉fY G kk x:=by
 unfold CW at h;split at h
 ·rename_i hc
  simp only[jX,Bool.not_eq_true']at hc;injection h with h
  subst h;exact⟨rfl,hc.1.1,Vq _ hc.1.2,by simpa using hc.2⟩
 ·cases h
theorem Hb:∀{xs ys:List AV},GZ G kk j xs=some ys->ys.length=xs.length/\∀(i:Nat) y,ys[i]? =some y->∃x,xs[i]? =some x/\CW G kk j x=some y
 |[],ys,h=>by simp only[GZ,bB]at h;subst h;exact⟨rfl,fun i y h=>by simp at h⟩
 |x::r,ys,h=>by
  simp only[GZ]at h;split at h
  ·rename_i a l ha hl
   injection h with h
   subst h;obtain⟨h1,h2⟩:=Hb hl;refine⟨by simp[h1],fun i y hy=> ?_⟩
   cases i with
   |zero=>simp at hy;subst hy;exact⟨x,rfl,ha⟩
   |succ i=>obtain⟨x',h3,h4⟩:=h2 i y (by simpa using hy);exact⟨x',by simpa using h3,h4⟩
  ·cases h
theorem YA:∀{xs ys:List (List AV)},KA G kk j xs=some ys->ys.length=xs.length/\∀(i:Nat) y,ys[i]? =some y->∃x,xs[i]? =some x/\GZ G kk j x=some y
 |[],ys,h=>by simp only[KA,bB]at h;subst h;exact⟨rfl,fun i y h=>by simp at h⟩
 |x::r,ys,h=>by
  simp only[KA]at h;split at h
  ·rename_i a l ha hl
   injection h with h
   subst h;obtain⟨h1,h2⟩:=YA hl;refine⟨by simp[h1],fun i y hy=> ?_⟩
   cases i with
   |zero=>simp at hy;subst hy;exact⟨x,rfl,ha⟩
   |succ i=>obtain⟨x',h3,h4⟩:=h2 i y (by simpa using hy);exact⟨x',by simpa using h3,h4⟩
  ·cases h
theorem YB:∀{xs ys:List AV},T7 G kk j xs=some ys->ys.length=xs.length/\∀(i:Nat) y,ys[i]? =some y->∃x,xs[i]? =some x/\GY G kk j x=some y
 |[],ys,h=>by simp only[T7,bB]at h;subst h;exact⟨rfl,fun i y h=>by simp at h⟩
 |x::r,ys,h=>by
  simp only[T7]at h;split at h
  ·rename_i a l ha hl
   injection h with h
   subst h;obtain⟨h1,h2⟩:=YB hl;refine⟨by simp[h1],fun i y hy=> ?_⟩
   cases i with
   |zero=>simp at hy;subst hy;exact⟨x,rfl,ha⟩
   |succ i=>obtain⟨x',h3,h4⟩:=h2 i y (by simpa using hy);exact⟨x',by simpa using h3,h4⟩
  ·cases h
theorem Vw{x y:AV}(h:GY G kk j x=some y):(∃o n,x= .own j o n/\y= .own 0 o n)\/CW G kk j x=some y:=by
 unfold GY at h;split at h
 ·rename_i i o n
  cases hb:Nat.beq i j with
  |true=>
   rw[hb]at h;have:=Nat.eq_of_beq_eq_true hb;subst this;simp only[cond]at h;injection h with h
   exact .inl ⟨o,n,rfl,h.symm⟩
  |false=>rw[hb]at h;exact .inr h
 ·exact .inr h
theorem Vx{x y:AV}(h:GY G kk j x=some y):T6 y:=by
 rcases Vw h with⟨o,n,_,rfl⟩|h
 ·exact .inl ⟨o,n,rfl⟩
 ·exact .inr (Vv h).2.2.1
end
theorem bk8(kk:Nat){P:Program}{n:FuncId}{fn:Func}{c:Code}{args:List AV}{f:FO}(hf:P.funcs[n]? =some fn)(hb:fn.body=some c)(fP:(fn.name== "runtime.NumGoroutine")=false)(hlen:args.length<=fn.ntmps)
  (hA:gX P n args ⟨0,dH []⟩ fun r H'=>Ha H'.get kk r=some f):rT P n args f.a f.el f.k f.rows f.ap:=by
 refine⟨hA.1,fun L W vs hL hr=> ?_⟩
 have lR:RH (fM L) W ⟨0,dH []⟩:=⟨fun id h=>h.elim,hL,fun id h=>h.elim,fun id b h=>by cases h⟩
 refine(hA.2 (fM L) W vs lR hr).mono fun e W' ⟨v,he,E',r,H',hv,hH,iF,h⟩=> ?_
 simp only[]at h;unfold Ha at h;split at h
 case h_2=>cases h
 rename_i j hj;unfold Gz at h;split at h
 case h_2=>cases h
 rename_i el k mI ap hg;split at h
 case h_2=>cases h
 rename_i rows a dB ha;injection h with h
 subst h;obtain⟨hU,kL,Fm,⟨cur,bU,hle,fH⟩,hw,_⟩:=hH.core.ok j _ hg;obtain⟨kX,bk9⟩:=hw rfl
 have tD:∀id,E'.U id->W.heap.size<=E'.ι id:=fun id aC=>by
  rcases hv.fresh id (fun h=>h) aC with h1|⟨rF,h1,_⟩
  ·exact h1
  ·exact h1.elim
 let L':Nat->Nat:=fun b=>if b<W.heap.size then 0 else if b=E'.ι j then 0 else(match W'.heap[b]? with|some (.cells cur _ _)=>cur.size|_=>0)
 have hLj:L' (E'.ι j)=0:=by
  show(if _ then 0 else if _ then 0 else _)=0
  rw[if_pos rfl];split<;>rfl
 have Vy:∀{x y u},CW H'.get kk j x=some y->RV E' W' x u->RV (fM L') W' y u:=fun{x y u} hd hx=>by
  obtain⟨rfl,T4,_,hnj⟩:=Vv hd;refine Y8 hH.core kk (fun id aC hs AJ EF e2 f2 DL=> ?_) hx T4
  have aM:id≠j:=fun h=>hnj (h▸aC)
  obtain⟨b',bZ⟩:=Z6.1 hs;have h1:=bk9 id b' aM bZ;have h2:¬E'.ι id<W.heap.size:=by have:=tD id AJ;omega
  show _<=(if _ then 0 else if _ then 0 else _)
  rw[if_neg h2,if_neg h1,DL];exact cA _
 have Vz:∀{x y u},GY H'.get kk j x=some y->RV E' W' x u->RV (EO (E'.ι j) k L') W' y u:=fun{x y u} hd hx=>by
  rcases Vw hd with⟨o,n,rfl,rfl⟩|hd
  ·rcases(tO hx).2 with⟨cap,rfl,eA,EF,e2,f2,h4,h5⟩|⟨mZ,a,rfl⟩
   ·have:=RV.own (E:=EO (E'.ι j) k L') (W:=W') 0 o n cap rfl eA ⟨EF,e2,f2,h4,by rw[kL]at h5;exact h5⟩
    rw[kL];exact this
   ·subst mZ;exact .mF _ _ _ rfl
  ·exact(Vy hd hx).GM fun _=>cA _
 have cK:Gx a/\(∀(i:Nat) row,rows[i]? =some row->row.length=k):=by
  refine⟨?_,fun i row hi=> ?_⟩
  ·unfold Y9 at ha
   split at ha
   ·rename_i xs
    split at ha
    ·rename_i l hl
     injection ha with ha
     subst ha;refine .inr ⟨l,rfl,fun x hx=> ?_⟩
     obtain⟨i,hi⟩:=wX.1 hx;obtain⟨y,_,h2⟩:=(YB hl).2 i x hi;exact Vx h2
    ·cases ha
   ·exact .inl (Vx ha)
  ·obtain⟨iR,h1,h2⟩:=(YA dB).2 i row hi
   rw[(Hb h2).1];exact Fm i iR h1
 refine⟨v,he,cK.1,cK.2,L',E'.ι j,cur,⟨hv.os,hv.tape,hv.output,hv.size,fun k hk=>hv.sD k hk fun id h=>h.elim⟩,fun b bZ=>if_pos bZ,fun b bZ=> ?_,tD j hU,hLj,bU,by rw[(YA dB).1];exact hle,fun i j' row x h1 h2=> ?_,?_⟩
 ·have:=hv.size
  show(if _ then 0 else if _ then 0 else _)=0
  rw[if_neg (by omega),PJ bZ]
  split<;>rfl
 ·obtain⟨iR,h3,h4⟩:=(YA dB).2 i row h1
  obtain⟨x0,h5,h6⟩:=(Hb h4).2 j' x h2;obtain⟨u,h7,h8⟩:=fH i j' iR x0 h3 h5;exact⟨u,h7,Vy h6 h8⟩
 ·simp only[]
  unfold Y9 at ha;split at ha
  ·rename_i xs
   split at ha
   ·rename_i l hl
    injection ha with ha
    subst ha;cases iF with
    |aR _ vs' rH dD=>
    refine .aR _ vs' (by rw[(YB hl).1];exact rH) fun i y u hy hu=> ?_
    obtain⟨x,h1,h2⟩:=(YB hl).2 i y hy;exact Vz h2 (dD i x u h1 hu)
   ·cases ha
  ·exact Vz ha iF
def H3:Option aI->Bool
 |some (.cells _ _ _ w _)=>w
 |_=>false
theorem bl3{b:Option aI}(h:H3 b=false):oK b=b:=by
 unfold H3 at h;split at h
 ·subst h;rfl
 ·rename_i hn
  unfold oK;split
  ·rename_i e s rows w a;exact absurd rfl (hn _ _ _ _ _)
  ·rfl
theorem Hc(F:Nat->Option aI):∀(ids:List Nat) (G:Nat->Option aI) (k:Nat),aS G (ids.map fun id=>(id,F id)) k=if k∈ids then F k else G k
 |[],G,k=>by simp[aS]
 |i::r,G,k=>by
  simp only[jW,aS];rw[Hc F r];by_cases h:k∈r
  ·simp[h]
  ·by_cases hi:k=i
   ·subst hi;simp[h]
   ·simp[h,hi]
theorem bl4(ids:List Nat)(G:Nat->Option aI):sG G ids=aS G ((ids.filter fun id=>H3 (G id)).map fun id=>(id,oK (G id))):=by
 rw[Y4]
 funext k
 rw[Hc (fun id=>oK (G id)),Hc (fun id=>oK (G id))]
 by_cases h:k∈ids
 ·by_cases hu:H3 (G k)=true
  ·simp[h,hu]
  ·have T8:H3 (G k)=false:=by simpa using hu
   simp[h,T8,bl3 T8]
 ·simp[h]
end Go.AL
namespace Go.AL
open Go.RowKit
def T9(P:Program)(n:FuncId)(args:List AV)(a:AV)(e:TypeId)(k:Nat)(rows:List (List AV)):Prop:=
 qN P n=true/\∀(E:Env) (W:World) (G:Nat->Option aI) (aG:Nat) (vs:List Value),RC E W G->¬E.U aG->bP E W args vs->
  Calls P n vs.toArray W fun x W'=>∃v,x= .returned v/\∃E',bD E W E' W'/\RC E' W' (aS G [(aG,some (.cells e k rows true true))])/\RV E' W' (vO aG a) v/\∀id,E'.U id->E.U id\/id=aG
theorem T9.run{P:Program}{n:FuncId}{args:List AV}{a:AV}{e:TypeId}{k:Nat}{rows:List (List AV)}(h:T9 P n args a e k rows){H:Heap}:
  gX P n args H fun r H'=>r=vO H.next a/\H'=⟨H.next+1,aS H.get [(H.next,some (.cells e k rows true true))]⟩:=
 ⟨h.1,fun E W vs hH hr=>(h.2 E W H.get H.next vs hH.core (fun hU=>KX _ (hH.next _ hU)) hr).mono fun x W' ⟨v,he,E',h1,h2,h3,h4⟩=>
   ⟨v,he,E',_,_,h1,⟨fun id aC=>by
     rcases h4 id aC with h5|h5
     ·exact PF (hH.next id h5)
     ·subst h5;exact D4 _,h2⟩,h3,rfl,rfl⟩⟩
end Go.AL
namespace Go.AL
open Go.RowKit
structure Entry where
 c:Bool
 a:AV
 wr:List (Nat×Option aI)
 rd:List Nat
def lB(ops:List Oper)(o:Oper)(σ:AS)(c:Bool):Prop:=
 match o.guard with
 |none=>c=true
 |some (j,want)=>oH (nW ops j σ.env) want=some c
def xM(P:Program)(n:FuncId)(args:List AV)(id:Nat)(oL:TypeId)(k0:Nat)(mI:List (List AV))(el:TypeId)(k:Nat)(rows:List (List AV)):Prop:=
 qN P n=true/\∀(E:Env) (W:World) (G:Nat->Option aI) (aG:Nat) (vs:List Value),RC E W G->G id=some (.cells oL k0 mI true true)->¬E.U aG->bP E W args vs->
  Calls P n vs.toArray W fun e W'=>∃v,e= .returned v/\∃E',bD E W E' W'/\RC E' W' (aS G [(id,none),(aG,some (.cells el k rows true true))])/\RV E' W' (.own aG 0 rows.length) v/\∀aK,E'.U aK->E.U aK\/aK=aG
theorem bl5(G:Nat->Option aI)(a b:List (Nat×Option aI)):aS G (a++b)=aS (aS G a) b:=by
 induction a generalizing G with
 |nil=>rfl
 |cons x a ih=>exact ih _
inductive BI (P:Program) (ops:List Oper) (o:Oper) (σ:AS) (aG:Nat) (e:Entry):Prop
 |call (f:Operand) (as:Array Operand) (ts:Array TypeId) (n:FuncId) (args:List AV) (aP:o.op= .call ⟨.value f,as,ts⟩) (hg:lB ops o σ e.c) (hc:fL (σ.get e.c f) (dO (σ.get e.c) as.toList)=some (n,args))
   (hp:e.c=true->(∀a∈args,bJ a)/\fD P n args (·=e.a)) (hw:e.wr=[])
 |pick (x0 x y:Operand) (b p q:Bool) (aP:o.op= .pick x0 x y) (hg:lB ops o σ e.c) (hb:jM (σ.get e.c x0)=some b) (u4:yJ (jM (σ.get (e.c&&b) x)) (jM (σ.get (e.c&& !b) y))=some (p,q)) (ha:e.a= .c (.bool (cond b p q))) (hw:e.wr=[])
 |NO (f:Operand) (as:Array Operand) (ts:Array TypeId) (n:FuncId) (args:List AV) (el:TypeId) (k:Nat) (rows:List (List AV)) (aP:o.op= .call ⟨.value f,as,ts⟩) (hg:lB ops o σ e.c) (dR:e.c=true) (hc:fL (σ.get true f) (dO (σ.get true) as.toList)=some (n,args))
   (hp:rR P n args el k rows) (ha:e.a= .own aG 0 rows.length) (hw:e.wr=[(aG,some (.cells el k rows true true))])
 |YC (f:Operand) (as:Array Operand) (ts:Array TypeId) (n:FuncId) (args:List AV) (id:Nat) (oL:TypeId) (k0:Nat) (mI:List (List AV)) (el:TypeId) (k:Nat) (rows:List (List AV)) (aP:o.op= .call ⟨.value f,as,ts⟩) (hg:lB ops o σ e.c) (dR:e.c=true) (hc:fL (σ.get true f) (dO (σ.get true) as.toList)=some (n,args))
   (iE:σ.H.get id=some (.cells oL k0 mI true true)) (hp:xM P n args id oL k0 mI el k rows) (ha:e.a= .own aG 0 rows.length) (hw:e.wr=[(id,none),(aG,some (.cells el k rows true true))]) (cW:id∈e.rd)
 |YD (f:Operand) (as:Array Operand) (ts:Array TypeId) (n:FuncId) (args:List AV) (a:AV) (el:TypeId) (k:Nat) (rows:List (List AV)) (aP:o.op= .call ⟨.value f,as,ts⟩) (hg:lB ops o σ e.c) (dR:e.c=true) (hc:fL (σ.get true f) (dO (σ.get true) as.toList)=some (n,args))
   (hp:T9 P n args a el k rows) (ha:e.a=vO aG a) (hw:e.wr=[(aG,some (.cells el k rows true true))])
 |Y3 (f:Operand) (as:Array Operand) (ts:Array TypeId) (n:FuncId) (bS args:List AV) (aP:o.op= .call ⟨.value f,as,ts⟩) (hg:lB ops o σ e.c) (dR:e.c=true) (hc:fL (σ.get true f) (dO (σ.get true) as.toList)=some (n,bS))
   (he:bS.map (m7 σ.H.get)=args) (gG:∀a∈args,bJ a) (hp:fD P n args (·=e.a)) (hw:e.wr=((kU lL bS).map fun id=>(id,oK (σ.H.get id)))\/e.wr=((kU lL bS).filter fun id=>H3 (σ.H.get id)).map fun id=>(id,oK (σ.H.get id))) (cW:∀id∈kU lL bS,id∈e.rd)
 |YE (f:Operand) (as:Array Operand) (ts:Array TypeId) (n:FuncId) (bS args:List AV) (el:TypeId) (k:Nat) (rows:List (List AV)) (aP:o.op= .call ⟨.value f,as,ts⟩) (hg:lB ops o σ e.c) (dR:e.c=true) (hc:fL (σ.get true f) (dO (σ.get true) as.toList)=some (n,bS))
   (he:bS.map (m7 σ.H.get)=args) (hp:rR P n args el k rows) (ha:e.a= .own aG 0 rows.length) (hw:e.wr=((kU lL bS).map fun id=>(id,oK (σ.H.get id)))++[(aG,some (.cells el k rows true true))]) (cW:∀id∈kU lL bS,id∈e.rd)
 |TA (f:Operand) (as:Array Operand) (ts:Array TypeId) (n:FuncId) (bS args:List AV) (k:Nat) (aP:o.op= .call ⟨.value f,as,ts⟩) (hg:lB ops o σ e.c) (dR:e.c=true) (hc:fL (σ.get true f) (dO (σ.get true) as.toList)=some (n,bS))
   (he:bS.map (cT σ.H.get k)=args) (gG:∀a∈args,bJ a) (hp:xA P n args e.a) (hw:e.wr=[]) (cW:∀x∈bS,∀id∈fY σ.H.get k x,id∈e.rd)
 |YF (f:Operand) (as:Array Operand) (ts:Array TypeId) (n:FuncId) (bS args:List AV) (kk:Nat) (a:AV) (el:TypeId) (k:Nat) (rows:List (List AV)) (ap:Bool) (aP:o.op= .call ⟨.value f,as,ts⟩) (hg:lB ops o σ e.c) (dR:e.c=true) (hc:fL (σ.get true f) (dO (σ.get true) as.toList)=some (n,bS))
   (he:bS.map (cT σ.H.get kk)=args) (gG:∀a∈args,bJ a) (hp:rT P n args a el k rows ap) (ha:e.a=vO aG a) (hw:e.wr=[(aG,some (.cells el k rows true ap))]) (cW:∀x∈bS,∀id∈fY σ.H.get kk x,id∈e.rd)
 |skip (hg:lB ops o σ e.c) (hc:e.c=false) (hw:e.wr=[])
 |res (hg:lB ops o σ e.c) (hr:res P (σ.get e.c) σ.H.get aG o=some (e.a,e.wr,e.rd)) (hw:e.wr=[]\/e.c=true)
def AS.app(σ:AS)(dst:Option Tmp)(e:Entry):AS:=({σ with H:=⟨σ.H.next,aS σ.H.get e.wr⟩}:AS).put dst e.c e.a
section
variable {P : Program} {ops : Array Oper} {o : Oper} {σ aL : AS} {aG : Nat} {e : Entry}
theorem get_congr{c:Bool}{x:Operand}(h:∀t,x= .tmp t->lk aL.env t=lk σ.env t):aL.get c x=σ.get c x:=by
 cases x with
 |tmp t=>simp only[AS.get,h t rfl]
 |_=>rfl
theorem BJ{c:Bool}(h:lB ops.toList o σ c)(ha:∀t∈o.looksAt ops,lk aL.env t=lk σ.env t):lB ops.toList o aL c:=by
 unfold lB at h⊢;split at h
 ·exact h
 ·rename_i j want hg
  rw[<-h];congr 1;unfold nW;cases hj:ops.toList[j]? with
  |none=>rfl
  |some o'=>
   cases hd:o'.dst with
   |none=>simp only[hd]
   |some t=>
    simp only[hd];refine ha t ?_;unfold Oper.looksAt;rw[hg];refine BW _ ?_;rw[yP]at hj;simp[hj,hd]
theorem BI.congr(h:BI P ops.toList o σ aG e)(ha:∀t∈o.looksAt ops,lk aL.env t=lk σ.env t)(hr:∀id∈e.rd,aL.H.get id=σ.H.get id):BI P ops.toList o aL aG e:=by
 have bX:∀c,∀x∈o.op.operands,aL.get c x=σ.get c x:=fun c x hx=>get_congr fun t ht=>by
  subst ht;refine ha t ?_;unfold Oper.looksAt;exact BV _ (List.mem_filterMap.2 ⟨.tmp t,by simpa using hx,rfl⟩)
 cases h with
 |call f as ts n args aP hg hc hp hw=>
  refine .call f as ts n args aP (BJ hg ha) ?_ hp hw;rw[bX e.c f (by rw[aP];simp[Op.operands,Call.operands]),BH as.toList fun x hx=>bX e.c x (by rw[aP];simp[Op.operands,Call.operands];exact .inr (by simpa using hx))]
  exact hc
 |pick x0 x y b p q aP hg hb u4 he hw=>
  refine .pick x0 x y b p q aP (BJ hg ha) ?_ ?_ he hw
  ·rw[bX e.c x0 (by rw[aP];simp[Op.operands])];exact hb
  ·rw[bX _ x (by rw[aP];simp[Op.operands]),bX _ y (by rw[aP];simp[Op.operands])];exact u4
 |Y3 f as ts n bS args aP hg dR hc he gG hp hw cW=>
  refine .Y3 f as ts n bS args aP (BJ hg ha) dR ?_ ?_ gG hp ?_ cW
  ·rw[bX true f (by rw[aP];simp[Op.operands,Call.operands]),BH as.toList fun x hx=>bX true x (by rw[aP];simp[Op.operands,Call.operands];exact .inr (by simpa using hx))]
   exact hc
  ·rw[Gt bS fun id aC=>hr id (cW id aC)];exact he
  ·rcases hw with hw|hw
   ·exact .inl (by rw[hw];exact sL fun id aC=>by rw[hr id (cW id aC)])
   ·refine .inr ?_
    have h1:(kU lL bS).filter (fun id=>H3 (aL.H.get id))=(kU lL bS).filter fun id=>H3 (σ.H.get id):=List.filter_congr fun id aC=>by rw[hr id (cW id aC)]
    rw[hw,h1];exact sL fun id aC=>by rw[hr id (cW id (HI.1 aC).1)]
 |YE f as ts n bS args el k rows aP hg dR hc he hp rL hw cW=>
  refine .YE f as ts n bS args el k rows aP (BJ hg ha) dR ?_ ?_ hp rL ?_ cW
  ·rw[bX true f (by rw[aP];simp[Op.operands,Call.operands]),BH as.toList fun x hx=>bX true x (by rw[aP];simp[Op.operands,Call.operands];exact .inr (by simpa using hx))]
   exact hc
  ·rw[Gt bS fun id aC=>hr id (cW id aC)];exact he
  ·rw[hw]
   congr 1;exact sL fun id aC=>by rw[hr id (cW id aC)]
 |NO f as ts n args el k rows aP hg dR hc hp rL hw=>
  refine .NO f as ts n args el k rows aP (BJ hg ha) dR ?_ hp rL hw;rw[bX true f (by rw[aP];simp[Op.operands,Call.operands]),BH as.toList fun x hx=>bX true x (by rw[aP];simp[Op.operands,Call.operands];exact .inr (by simpa using hx))]
  exact hc
 |YC f as ts n args id oL k0 mI el k rows aP hg dR hc iE hp rL hw cW=>
  refine .YC f as ts n args id oL k0 mI el k rows aP (BJ hg ha) dR ?_ (by rw[hr id cW];exact iE) hp rL hw cW
  rw[bX true f (by rw[aP];simp[Op.operands,Call.operands]),BH as.toList fun x hx=>bX true x (by rw[aP];simp[Op.operands,Call.operands];exact .inr (by simpa using hx))]
  exact hc
 |YD f as ts n args a el k rows aP hg dR hc hp rL hw=>
  refine .YD f as ts n args a el k rows aP (BJ hg ha) dR ?_ hp rL hw;rw[bX true f (by rw[aP];simp[Op.operands,Call.operands]),BH as.toList fun x hx=>bX true x (by rw[aP];simp[Op.operands,Call.operands];exact .inr (by simpa using hx))]
  exact hc
 |TA f as ts n bS args k aP hg dR hc he gG hp hw cW=>
  refine .TA f as ts n bS args k aP (BJ hg ha) dR ?_ ?_ gG hp hw fun x hx id aC=> ?_
  ·rw[bX true f (by rw[aP];simp[Op.operands,Call.operands]),BH as.toList fun x hx=>bX true x (by rw[aP];simp[Op.operands,Call.operands];exact .inr (by simpa using hx))]
   exact hc
  ·rw[<-he]
   exact sL fun x hx=>Y7 k x fun id aC=>hr id (cW x hx id aC)
  ·rw[Gu k x fun id aC=>hr id (cW x hx id aC)]at aC
   exact cW x hx id aC
 |YF f as ts n bS args kk a el k rows ap aP hg dR hc he gG hp rL hw cW=>
  refine .YF f as ts n bS args kk a el k rows ap aP (BJ hg ha) dR ?_ ?_ gG hp rL hw fun x hx id aC=> ?_
  ·rw[bX true f (by rw[aP];simp[Op.operands,Call.operands]),BH as.toList fun x hx=>bX true x (by rw[aP];simp[Op.operands,Call.operands];exact .inr (by simpa using hx))]
   exact hc
  ·rw[<-he]
   exact sL fun x hx=>Y7 kk x fun id aC=>hr id (cW x hx id aC)
  ·rw[Gu kk x fun id aC=>hr id (cW x hx id aC)]at aC
   exact cW x hx id aC
 |skip hg hc hw=>exact .skip (BJ hg ha) hc hw
 |res hg kZ hw=>exact .res (BJ hg ha) (bk0 kZ (bX e.c) hr) hw
theorem BK{E:Env}{W:World}{act:Act}(hr:Rel E W σ act){c:Bool}(h:lB ops.toList o σ c):Region.wanted o (yielded ops act.tmps)=c:=by
 unfold lB at h;split at h
 ·rename_i hg;simp only[Region.wanted,hg];exact h.symm
 ·rename_i j want hg
  obtain⟨c',b,hb,rfl⟩:=Tz h
  obtain⟨t,ht,s6⟩:∃t,(ops[j]?).bind (·.dst)=some t/\lk σ.env t=some (c',.c (.bool b)):=by
   unfold nW at hb;split at hb
   ·rename_i o' vN
    rw[yP]at vN;split at hb
    ·rename_i t ht;exact⟨t,by rw[vN];exact ht,hb⟩
    ·cases hb
   ·cases hb
  obtain⟨v,h1,h2,h3⟩:=hr.env t _ _ s6
  have hy:yielded ops act.tmps j=if c'=true then some b else none:=by
   unfold yielded;rw[ht];simp only[UC,h1];cases c'
   ·rw[h3 rfl];rfl
   ·have h4:=h2 rfl
    cases h4;rfl
  simp only[Region.wanted,hg,hy];cases c'<;>cases b<;>cases want<;>rfl
theorem BI.run(h:BI P ops.toList o σ aG e)(hd:fT σ.nt o=true){E:Env}{W:World}{act:Act}(hr:Rel E W σ act)(gU:¬E.U aG)(bG:aG<σ.H.next){next:Act->World->Prop}{Q:Exit->Act->World->Prop}{ro:Option Nat}
  (hn:∀E' W' cE,eB E W act E' W' cE->Rel E' W' (σ.app o.dst e) cE->(∀id,E'.U id->E.U id\/id=aG)->next cE W'):
  if Region.wanted o (yielded ops act.tmps)=true then o.wpIn (kN ro) 3 P act W next Q else next (act.put o.dst undef) W:=by
 have YG:e.wr=[]->σ.app o.dst e=σ.put o.dst e.c e.a:=fun hw=>by unfold AS.app;rw[hw];rfl
 have skip:e.c≠true->e.wr=[]->next (act.put o.dst undef) W:=fun hc hw=>
  hn E W _ (eB.of (bD.refl E W) (Act.put_defers _ _ _)) (by rw[YG hw];exact hr.put (oI hd) (fun h=>absurd h hc) (fun _=>rfl)) fun _ h=> .inl h
 cases h with
 |call f as ts n args aP hg hc hp hw=>
  rw[BK hr hg];by_cases dR:e.c=true
  ·rw[if_pos dR]
   obtain⟨gG,hp⟩:=hp dR;obtain⟨first,cap,mH,hf,has,rfl⟩:=yI hc
   have h1:=hr.get dR hf;have h2:=tZ (E:=E) (W:=W) (ρ:=act.eval) (fun x b hb=>hr.get dR hb) _ _ has
   generalize nB:act.eval f=fv at h1;cases h1 with
   |fn _ _ _ vf vc hl bQ h3 h4=>
   have lJ:bP E W (first++mH++cap) (vf.toList++as.toList.map act.eval++vc.toList):=by
    refine(bP.append ?_ h2).append ?_
    ·exact⟨by simpa using hl,fun i x v hx hv=>h3 i x v hx (by simpa using hv)⟩
    ·exact⟨by simpa using bQ,fun i x v hx hv=>h4 i x v hx (by simpa using hv)⟩
   have dF:(execOp act.eval o).run P W= .ok (.enter n (vf.toList++as.toList.map act.eval++vc.toList).toArray) W:=by
    simp only[execOp,aP,resolve,nB,Deferred.ofValue,Sem.run_bind,Sem.run_pure,Result.andThen_ok,invoke];rw[yK hp.1];congr 2;apply zW;simp
   refine⟨fun _ _=>trivial,?_⟩
   rw[Oper.semAt_eq _ _ _ (fun c h=>by rw[aP]at h;cases h),dF]
   refine⟨yH,zQ ((hp.run gG hr.heap lJ).mono fun e' W' ⟨v,he,r,L',hv,hH,iF,Ss,hq⟩=> ?_)⟩
   subst he;subst hq;refine hn _ W' _ (eB.of hv (Act.put_defers _ _ _)) ?_ fun _ h=> .inl h
   rw[YG hw];exact(hr.mono hv hH).put (dst:=o.dst) (oI hd) (c:=e.c) (fun _=>iF) (fun h=>by rw[dR]at h;cases h)
  ·rw[if_neg dR];exact skip dR hw
 |pick x0 x y b p q aP hg hb u4 he hw=>
  rw[BK hr hg];by_cases dR:e.c=true
  ·rw[if_pos dR]
   obtain⟨hp,hq⟩:=Fu u4;have hp:=zR hp;have hq:=zR hq;refine SG dR aP (zR hb) (a:=e.a) (fun wN=>⟨e.c&&b,by simp[dR,wN],?_⟩) (fun GQ=>⟨e.c&& !b,by simp[dR,GQ],?_⟩) hd hr fun v bR=>hn E W _ (eB.of (bD.refl E W) (Act.put_defers _ _ _)) (by rw[YG hw];exact bR) fun _ h=> .inl h
   ·rw[hp,he,wN];rfl
   ·rw[hq,he,GQ];rfl
  ·rw[if_neg dR];exact skip dR hw
 |Y3 f as ts n bS args aP hg dR hc he gG hp hw cW=>
  rw[BK hr hg,if_pos dR];obtain⟨first,cap,mH,hf,has,rfl⟩:=yI hc
  have h1:=hr.get rfl hf;have h2:=tZ (E:=E) (W:=W) (ρ:=act.eval) (fun x b hb=>hr.get rfl hb) _ _ has
  generalize nB:act.eval f=fv at h1;cases h1 with
  |fn _ _ _ vf vc hl bQ h3 h4=>
  have lJ:bP E W (first++mH++cap) (vf.toList++as.toList.map act.eval++vc.toList):=by
   refine(bP.append ?_ h2).append ?_
   ·exact⟨by simpa using hl,fun i x v hx hv=>h3 i x v hx (by simpa using hv)⟩
   ·exact⟨by simpa using bQ,fun i x v hx hv=>h4 i x v hx (by simpa using hv)⟩
  have dF:(execOp act.eval o).run P W= .ok (.enter n (vf.toList++as.toList.map act.eval++vc.toList).toArray) W:=by
   simp only[execOp,aP,resolve,nB,Deferred.ofValue,Sem.run_bind,Sem.run_pure,Result.andThen_ok,invoke];rw[yK hp.1];congr 2;apply zW;simp
  refine⟨fun _ _=>trivial,?_⟩
  rw[Oper.semAt_eq _ _ _ (fun c h=>by rw[aP]at h;cases h),dF]
  generalize first++mH++cap=bS at lJ he hw cW
  obtain⟨L1,g1,g2,g3⟩:=NZ (W:=W) (kU lL bS) hr.heap
  have T1:bP ⟨E.ι,E.sz,E.U,L1⟩ W args (vf.toList++as.toList.map act.eval++vc.toList):=by
   subst he;refine⟨by simpa using lJ.1,fun i x v hx hv=> ?_⟩
   rw[iA]at hx;obtain⟨y,hy,rfl⟩:=map_some hx;exact T0 hr.heap.core g1 (lJ.2 i y v hy hv) fun id aC=>g3 id (K4 (eY hy) aC)
  refine⟨yH,zQ ((hp.run gG g2 T1).mono fun e' W' ⟨v,tE,r,L',h5,h6,h7,h8,h9⟩=> ?_)⟩
  subst tE;subst h9
  have lR:RH ⟨E.ι,E.sz,E.U,L'⟩ W' ⟨σ.H.next,aS σ.H.get e.wr⟩:=by
   rcases hw with hw|hw
   ·rw[hw,<-Y4];exact h6
   ·rw[hw,<-bl4];exact h6
  have bR:=(hr.mono (g1.trans h5) lR).put (dst:=o.dst) (oI hd) (c:=e.c) (a:=e.a) (fun _=>h7) (fun h=>by rw[dR]at h;cases h)
  exact hn _ W' _ (eB.of (g1.trans h5) (Act.put_defers _ _ _)) bR fun _ h=> .inl h
 |YE f as ts n bS args el k rows aP hg dR hc he hp rL hw cW=>
  rw[BK hr hg,if_pos dR];obtain⟨first,cap,mH,hf,has,rfl⟩:=yI hc
  have h1:=hr.get rfl hf;have h2:=tZ (E:=E) (W:=W) (ρ:=act.eval) (fun x b hb=>hr.get rfl hb) _ _ has
  generalize nB:act.eval f=fv at h1;cases h1 with
  |fn _ _ _ vf vc hl bQ h3 h4=>
  have lJ:bP E W (first++mH++cap) (vf.toList++as.toList.map act.eval++vc.toList):=by
   refine(bP.append ?_ h2).append ?_
   ·exact⟨by simpa using hl,fun i x v hx hv=>h3 i x v hx (by simpa using hv)⟩
   ·exact⟨by simpa using bQ,fun i x v hx hv=>h4 i x v hx (by simpa using hv)⟩
  have dF:(execOp act.eval o).run P W= .ok (.enter n (vf.toList++as.toList.map act.eval++vc.toList).toArray) W:=by
   simp only[execOp,aP,resolve,nB,Deferred.ofValue,Sem.run_bind,Sem.run_pure,Result.andThen_ok,invoke];rw[yK hp.1];congr 2;apply zW;simp
  refine⟨fun _ _=>trivial,?_⟩
  rw[Oper.semAt_eq _ _ _ (fun c h=>by rw[aP]at h;cases h),dF]
  generalize first++mH++cap=bS at lJ he hw cW
  obtain⟨L1,g1,g2,g3⟩:=NZ (W:=W) (kU lL bS) hr.heap
  have T1:bP ⟨E.ι,E.sz,E.U,L1⟩ W args (vf.toList++as.toList.map act.eval++vc.toList):=by
   subst he;refine⟨by simpa using lJ.1,fun i x v hx hv=> ?_⟩
   rw[iA]at hx;obtain⟨y,hy,rfl⟩:=map_some hx;exact T0 hr.heap.core g1 (lJ.2 i y v hy hv) fun id aC=>g3 id (K4 (eY hy) aC)
  refine⟨yH,zQ ((hp.2 ⟨E.ι,E.sz,E.U,L1⟩ W _ aG _ g2.core gU T1).mono fun e' W' ⟨v,tE,E',hv,hG,iF,hU⟩=> ?_)⟩
  subst tE
  have lR:RH E' W' ⟨σ.H.next,aS σ.H.get e.wr⟩:=⟨fun id aC=>by
   rcases hU id aC with h5|h5
   ·exact hr.heap.next id h5
   ·subst h5;exact bG,by rw[hw,bl5,<-Y4];exact hG⟩
  have bR:=(hr.mono (g1.trans hv) lR).put (dst:=o.dst) (oI hd) (c:=e.c) (a:=e.a) (fun _=>by rw[rL];exact iF) (fun h=>by rw[dR]at h;cases h)
  exact hn E' W' _ (eB.of (g1.trans hv) (Act.put_defers _ _ _)) bR hU
 |NO f as ts n args el k rows aP hg dR hc hp rL hw=>
  rw[BK hr hg,if_pos dR];obtain⟨first,cap,mH,hf,has,rfl⟩:=yI hc
  have h1:=hr.get rfl hf;have h2:=tZ (E:=E) (W:=W) (ρ:=act.eval) (fun x b hb=>hr.get rfl hb) _ _ has
  generalize nB:act.eval f=fv at h1;cases h1 with
  |fn _ _ _ vf vc hl bQ h3 h4=>
  have lJ:bP E W (first++mH++cap) (vf.toList++as.toList.map act.eval++vc.toList):=by
   refine(bP.append ?_ h2).append ?_
   ·exact⟨by simpa using hl,fun i x v hx hv=>h3 i x v hx (by simpa using hv)⟩
   ·exact⟨by simpa using bQ,fun i x v hx hv=>h4 i x v hx (by simpa using hv)⟩
  have dF:(execOp act.eval o).run P W= .ok (.enter n (vf.toList++as.toList.map act.eval++vc.toList).toArray) W:=by
   simp only[execOp,aP,resolve,nB,Deferred.ofValue,Sem.run_bind,Sem.run_pure,Result.andThen_ok,invoke];rw[yK hp.1];congr 2;apply zW;simp
  refine⟨fun _ _=>trivial,?_⟩
  rw[Oper.semAt_eq _ _ _ (fun c h=>by rw[aP]at h;cases h),dF]
  refine⟨yH,zQ ((hp.2 E W σ.H.get aG _ hr.heap.core gU lJ).mono fun e' W' ⟨v,he,E',hv,hG,iF,hU⟩=> ?_)⟩
  subst he
  have lR:RH E' W' ⟨σ.H.next,aS σ.H.get e.wr⟩:=⟨fun id aC=>by
   rcases hU id aC with h5|h5
   ·exact hr.heap.next id h5
   ·subst h5;exact bG,by rw[hw];exact hG⟩
  have bR:=(hr.mono hv lR).put (dst:=o.dst) (oI hd) (c:=e.c) (a:=e.a) (fun _=>by rw[rL];exact iF) (fun h=>by rw[dR]at h;cases h)
  exact hn E' W' _ (eB.of hv (Act.put_defers _ _ _)) bR hU
 |YC f as ts n args id oL k0 mI el k rows aP hg dR hc iE hp rL hw cW=>
  rw[BK hr hg,if_pos dR];obtain⟨first,cap,mH,hf,has,rfl⟩:=yI hc
  have h1:=hr.get rfl hf;have h2:=tZ (E:=E) (W:=W) (ρ:=act.eval) (fun x b hb=>hr.get rfl hb) _ _ has
  generalize nB:act.eval f=fv at h1;cases h1 with
  |fn _ _ _ vf vc hl bQ h3 h4=>
  have lJ:bP E W (first++mH++cap) (vf.toList++as.toList.map act.eval++vc.toList):=by
   refine(bP.append ?_ h2).append ?_
   ·exact⟨by simpa using hl,fun i x v hx hv=>h3 i x v hx (by simpa using hv)⟩
   ·exact⟨by simpa using bQ,fun i x v hx hv=>h4 i x v hx (by simpa using hv)⟩
  have dF:(execOp act.eval o).run P W= .ok (.enter n (vf.toList++as.toList.map act.eval++vc.toList).toArray) W:=by
   simp only[execOp,aP,resolve,nB,Deferred.ofValue,Sem.run_bind,Sem.run_pure,Result.andThen_ok,invoke];rw[yK hp.1];congr 2;apply zW;simp
  refine⟨fun _ _=>trivial,?_⟩
  rw[Oper.semAt_eq _ _ _ (fun c h=>by rw[aP]at h;cases h),dF]
  refine⟨yH,zQ ((hp.2 E W σ.H.get aG _ hr.heap.core iE gU lJ).mono fun e' W' ⟨v,he,E',hv,hG,iF,hU⟩=> ?_)⟩
  subst he
  have lR:RH E' W' ⟨σ.H.next,aS σ.H.get e.wr⟩:=⟨fun id aC=>by
   rcases hU id aC with h5|h5
   ·exact hr.heap.next id h5
   ·subst h5;exact bG,by rw[hw];exact hG⟩
  have bR:=(hr.mono hv lR).put (dst:=o.dst) (oI hd) (c:=e.c) (a:=e.a) (fun _=>by rw[rL];exact iF) (fun h=>by rw[dR]at h;cases h)
  exact hn E' W' _ (eB.of hv (Act.put_defers _ _ _)) bR hU
 |YD f as ts n args a el k rows aP hg dR hc hp rL hw=>
  rw[BK hr hg,if_pos dR];obtain⟨first,cap,mH,hf,has,rfl⟩:=yI hc
  have h1:=hr.get rfl hf;have h2:=tZ (E:=E) (W:=W) (ρ:=act.eval) (fun x b hb=>hr.get rfl hb) _ _ has
  generalize nB:act.eval f=fv at h1;cases h1 with
  |fn _ _ _ vf vc hl bQ h3 h4=>
  have lJ:bP E W (first++mH++cap) (vf.toList++as.toList.map act.eval++vc.toList):=by
   refine(bP.append ?_ h2).append ?_
   ·exact⟨by simpa using hl,fun i x v hx hv=>h3 i x v hx (by simpa using hv)⟩
   ·exact⟨by simpa using bQ,fun i x v hx hv=>h4 i x v hx (by simpa using hv)⟩
  have dF:(execOp act.eval o).run P W= .ok (.enter n (vf.toList++as.toList.map act.eval++vc.toList).toArray) W:=by
   simp only[execOp,aP,resolve,nB,Deferred.ofValue,Sem.run_bind,Sem.run_pure,Result.andThen_ok,invoke];rw[yK hp.1];congr 2;apply zW;simp
  refine⟨fun _ _=>trivial,?_⟩
  rw[Oper.semAt_eq _ _ _ (fun c h=>by rw[aP]at h;cases h),dF]
  refine⟨yH,zQ ((hp.2 E W σ.H.get aG _ hr.heap.core gU lJ).mono fun e' W' ⟨v,he,E',hv,hG,iF,hU⟩=> ?_)⟩
  subst he
  have lR:RH E' W' ⟨σ.H.next,aS σ.H.get e.wr⟩:=⟨fun id aC=>by
   rcases hU id aC with h5|h5
   ·exact hr.heap.next id h5
   ·subst h5;exact bG,by rw[hw];exact hG⟩
  have bR:=(hr.mono hv lR).put (dst:=o.dst) (oI hd) (c:=e.c) (a:=e.a) (fun _=>by rw[rL];exact iF) (fun h=>by rw[dR]at h;cases h)
  exact hn E' W' _ (eB.of hv (Act.put_defers _ _ _)) bR hU
 |TA f as ts n bS args k aP hg dR hc he gG hp hw cW=>
  rw[BK hr hg,if_pos dR];obtain⟨first,cap,mH,hf,has,rfl⟩:=yI hc
  have h1:=hr.get rfl hf;have h2:=tZ (E:=E) (W:=W) (ρ:=act.eval) (fun x b hb=>hr.get rfl hb) _ _ has
  generalize nB:act.eval f=fv at h1;cases h1 with
  |fn _ _ _ vf vc hl bQ h3 h4=>
  have lJ:bP E W (first++mH++cap) (vf.toList++as.toList.map act.eval++vc.toList):=by
   refine(bP.append ?_ h2).append ?_
   ·exact⟨by simpa using hl,fun i x v hx hv=>h3 i x v hx (by simpa using hv)⟩
   ·exact⟨by simpa using bQ,fun i x v hx hv=>h4 i x v hx (by simpa using hv)⟩
  have dF:(execOp act.eval o).run P W= .ok (.enter n (vf.toList++as.toList.map act.eval++vc.toList).toArray) W:=by
   simp only[execOp,aP,resolve,nB,Deferred.ofValue,Sem.run_bind,Sem.run_pure,Result.andThen_ok,invoke];rw[yK hp.1];congr 2;apply zW;simp
  refine⟨fun _ _=>trivial,?_⟩
  rw[Oper.semAt_eq _ _ _ (fun c h=>by rw[aP]at h;cases h),dF]
  refine⟨yH,zQ ((hp.Vp k he gG hr.heap hr.heap.core lJ).mono fun e' W' ⟨v,tE,L',hv,hH,iF⟩=> ?_)⟩
  subst tE;refine hn _ W' _ (eB.of hv (Act.put_defers _ _ _)) ?_ fun _ h=> .inl h
  rw[YG hw];exact(hr.mono hv hH).put (dst:=o.dst) (oI hd) (c:=e.c) (fun _=>iF) (fun h=>by rw[dR]at h;cases h)
 |YF f as ts n bS args kk a el k rows ap aP hg dR hc he gG hp rL hw cW=>
  rw[BK hr hg,if_pos dR];obtain⟨first,cap,mH,hf,has,rfl⟩:=yI hc
  have h1:=hr.get rfl hf;have h2:=tZ (E:=E) (W:=W) (ρ:=act.eval) (fun x b hb=>hr.get rfl hb) _ _ has
  generalize nB:act.eval f=fv at h1;cases h1 with
  |fn _ _ _ vf vc hl bQ h3 h4=>
  have lJ:bP E W (first++mH++cap) (vf.toList++as.toList.map act.eval++vc.toList):=by
   refine(bP.append ?_ h2).append ?_
   ·exact⟨by simpa using hl,fun i x v hx hv=>h3 i x v hx (by simpa using hv)⟩
   ·exact⟨by simpa using bQ,fun i x v hx hv=>h4 i x v hx (by simpa using hv)⟩
  have dF:(execOp act.eval o).run P W= .ok (.enter n (vf.toList++as.toList.map act.eval++vc.toList).toArray) W:=by
   simp only[execOp,aP,resolve,nB,Deferred.ofValue,Sem.run_bind,Sem.run_pure,Result.andThen_ok,invoke];rw[yK hp.1];congr 2;apply zW;simp
  refine⟨fun _ _=>trivial,?_⟩
  rw[Oper.semAt_eq _ _ _ (fun c h=>by rw[aP]at h;cases h),dF]
  refine⟨yH,zQ ((hp.run kk he gG gU hr.heap hr.heap.core lJ).mono fun e' W' ⟨v,tE,E',hv,hG,iF,hU⟩=> ?_)⟩
  subst tE
  have lR:RH E' W' ⟨σ.H.next,aS σ.H.get e.wr⟩:=⟨fun id aC=>by
   rcases hU id aC with h5|h5
   ·exact hr.heap.next id h5
   ·subst h5;exact bG,by rw[hw];exact hG⟩
  have bR:=(hr.mono hv lR).put (dst:=o.dst) (oI hd) (c:=e.c) (a:=e.a) (fun _=>by rw[rL];exact iF) (fun h=>by rw[dR]at h;cases h)
  exact hn E' W' _ (eB.of hv (Act.put_defers _ _ _)) bR hU
 |skip hg hc hw=>
  rw[BK hr hg,if_neg (by rw[hc];decide)]
  exact skip (by rw[hc];decide) hw
 |res hg kZ hw=>
  rw[BK hr hg];by_cases dR:e.c=true
  ·rw[if_pos dR]
   obtain⟨W',v,E',dF,hv,hG,iF,hU⟩:=Tx kZ E W act.eval hr.heap.core gU (fun x b hb=>hr.get dR hb)
   have vM:∀id,E'.U id->E.U id\/id=aG:=fun id h=>(hU id h).imp (fun h=>h) (fun h=>h.1)
   have lR:RH E' W' ⟨σ.H.next,aS σ.H.get e.wr⟩:=⟨fun id aC=>by
    rcases vM id aC with h1|h1
    ·exact hr.heap.next id h1
    ·subst h1;exact bG,hG⟩
   have bR:=(hr.mono hv lR).put (dst:=o.dst) (oI hd) (c:=e.c) (fun _=>iF) (fun h=>by rw[dR]at h;cases h)
   have SF:=hn E' W' _ (eB.of hv (Act.put_defers _ _ _)) bR vM;refine⟨fun _ _=>trivial,?_⟩
   rw[Oper.semAt_eq _ _ _ (Ud kZ)];rcases dF with h1|⟨h1,h2⟩
   ·rw[h1];exact SF
   ·rw[h1];subst h2;exact SF
  ·rw[if_neg dR]
   exact skip dR (hw.resolve_right dR)
end
def top(p:Nat->Bool):Nat->Option Nat
 |0=>none
 |n+1=>if p n then some n else top p n
theorem KB{p q:Nat->Bool}:∀{n:Nat},(∀i,i<n->p i=q i)->top p n=top q n
 |0,_=>rfl
 |n+1,h=>by simp only[top,h n (D4 n),KB fun i hi=>h i (PF hi)]
theorem Hd{p:Nat->Bool}{j:Nat}:∀{n:Nat},j<n->p j=true->(∀i,i<n->p i=true->i<=j)->top p n=some j
 |0,h,_,_=>by omega
 |n+1,h,hp,hm=>by
  simp only[top];by_cases hn:p n=true
  ·have:=hm n (D4 n) hn
   have:n=j:=by omega
   subst this;simp[hn]
  ·have aM:j≠n:=fun e=>by subst e;exact hn hp
   simp only[hn,if_false,kV];exact Hd (by omega) hp fun i hi=>hm i (by omega)
theorem He{p:Nat->Bool}{j:Nat}:∀{n:Nat},j<=n->(∀i,i<n->p i=true->i<j)->top p n=top p j
 |0,h,_=>by
  have hj:j=0:=by omega
  subst hj;rfl
 |n+1,h,hm=>by
  by_cases hj:j=n+1
  ·subst hj;rfl
  ·simp only[top]
   have hn:¬p n=true:=fun hp=>by have:=hm n (D4 n) hp;omega
   simp only[hn,if_false,kV];exact He (by omega) fun i hi=>hm i (by omega)
def yN:List (Nat×Option aI)->Nat->Option (Option aI)
 |[],_=>none
 |(i,b)::r,k=>match yN r k with
  |some x=>some x
  |none=>if k=i then some b else none
theorem Hf:∀(wr:List (Nat×Option aI)) (G:Nat->Option aI) (k:Nat),aS G wr k=(yN wr k).getD (G k)
 |[],G,k=>rfl
 |(i,b)::r,G,k=>by
  simp only[aS,yN];rw[Hf r];cases yN r k with
  |some x=>rfl
  |none=>by_cases h:k=i<;>simp[h]
def lS(ops:Array Oper)(es:List Entry)(σ0:AS)(D:Nat->Bool):Nat->AS
 |0=>σ0
 |k+1=>if D k then(match ops[k]?,es[k]? with
  |some o,some e=>(lS ops es σ0 D k).app o.dst e
  |_,_=>lS ops es σ0 D k)else lS ops es σ0 D k
def wt(ops:Array Oper)(es:List Entry)(t:Nat)(i:Nat):Bool:=
 match ops[i]?,es[i]? with
 |some o,some _=>o.dst==some t
 |_,_=>false
def Hg(es:List Entry)(i:Nat):Option (Bool×AV):=(es[i]?).map fun e=>(e.c,e.a)
def wk(ops:Array Oper)(es:List Entry)(k:Nat)(i:Nat):Bool:=
 match ops[i]?,es[i]? with
 |some _,some e=>(yN e.wr k).isSome
 |_,_=>false
def Hh(es:List Entry)(k i:Nat):Option aI:=((es[i]?).bind fun e=>yN e.wr k).getD none
section
variable {ops : Array Oper} {es : List Entry} {σ0 : AS}
theorem Wa(σ:AS)(dst:Option Tmp)(e:Entry):(σ.app dst e).nt=σ.nt:=by unfold AS.app;rw[AS.sF]
theorem Wb(σ:AS)(dst:Option Tmp)(e:Entry):(σ.app dst e).H.next=σ.H.next:=by unfold AS.app AS.put;split<;>rfl
theorem Wc(σ:AS)(dst:Option Tmp)(e:Entry):(σ.app dst e).H.get=aS σ.H.get e.wr:=by unfold AS.app AS.put;split<;>rfl
theorem Wd(σ:AS)(dst:Option Tmp)(e:Entry)(t:Nat):lk (σ.app dst e).env t=if dst=some t then some (e.c,e.a)else lk σ.env t:=by
 unfold AS.app AS.put;cases dst with
 |none=>simp
 |some d=>
  simp only[lk,bB];by_cases h:t=d
  ·subst h;simp
  ·simp[h,mV h]
theorem H4(D:Nat->Bool):∀k,(lS ops es σ0 D k).nt=σ0.nt
 |0=>rfl
 |k+1=>by
  simp only[lS];split
  ·split
   ·rw[Wa];exact H4 D k
   ·exact H4 D k
  ·exact H4 D k
theorem O3(D:Nat->Bool):∀k,(lS ops es σ0 D k).H.next=σ0.H.next
 |0=>rfl
 |k+1=>by
  simp only[lS];split
  ·split
   ·rw[Wb];exact O3 D k
   ·exact O3 D k
  ·exact O3 D k
theorem TB(D:Nat->Bool)(t:Nat):∀k,lk (lS ops es σ0 D k).env t=match top (fun i=>D i&&wt ops es t i) k with
  |some i=>Hg es i
  |none=>lk σ0.env t
 |0=>rfl
 |k+1=>by
  have ih:=TB D t k;simp only[lS,top];by_cases hD:D k=true
  case neg=>
   have u5:D k=false:=by simpa using hD
   simp only[u5,kV,if_false,TW];exact ih
  case pos=>
   simp only[hD,if_true,Z5];cases ho:ops[k]? with
   |none=>simp only[wt,ho,kV,if_false];exact ih
   |some o=>
    cases he:es[k]? with
    |none=>simp only[wt,ho,he,kV,if_false];exact ih
    |some e=>
     simp only[wt,ho,he,Wd,beq_iff_eq];by_cases hd:o.dst=some t
     ·simp[hd,Hg,he]
     ·simp only[hd,if_false];exact ih
theorem TC(D:Nat->Bool)(q:Nat):∀k,(lS ops es σ0 D k).H.get q=match top (fun i=>D i&&wk ops es q i) k with
  |some i=>Hh es q i
  |none=>σ0.H.get q
 |0=>rfl
 |k+1=>by
  have ih:=TC D q k;simp only[lS,top];by_cases hD:D k=true
  case neg=>
   have u5:D k=false:=by simpa using hD
   simp only[u5,kV,if_false,TW];exact ih
  case pos=>
   simp only[hD,if_true,Z5];cases ho:ops[k]? with
   |none=>simp only[wk,ho,kV,if_false];exact ih
   |some o=>
    cases he:es[k]? with
    |none=>simp only[wk,ho,he,kV,if_false];exact ih
    |some e=>
     simp only[wk,ho,he,Wc,Hf];cases hw:yN e.wr q with
     |none=>simp only[Yx,kV,if_false,Yw];exact ih
     |some b=>simp[Hh,he,hw]
end
theorem Rel.ext{E:Env}{W:World}{σ aL:AS}{act:Act}(h:Rel E W σ act)(hl:∀t,lk aL.env t=lk σ.env t)(hg:∀id,aL.H.get id=σ.H.get id)(hn:aL.H.next=σ.H.next)(ht:aL.nt=σ.nt):Rel E W aL act:=by
 have hG:aL.H.get=σ.H.get:=funext hg
 exact⟨h.defers,by rw[ht];exact h.size,fun t c a ha=>h.env t c a (by rw[<-hl];exact ha),⟨by rw[hn];exact h.heap.next,by rw[hG];exact h.heap.core⟩⟩
end Go.AL
namespace Go.AL
open Go.RowKit
def sI(o:Oper):List Nat:=(o.after.toList.filter (fun e=>Region.binds .any e)).map (·.on)
inductive Reach (ops:List Oper):Nat->Nat->Prop
 |step {i j:Nat} {o:Oper} (h:ops[j]? =some o) (hi:i∈sI o):Reach ops i j
 |trans {i k j:Nat} {o:Oper} (h:ops[j]? =some o) (hk:k∈sI o) (hr:Reach ops i k):Reach ops i j
def TD(ops:List Oper)(D:Nat->Bool):Prop:=∀(j:Nat) o,ops[j]? =some o->D j=true->∀k∈sI o,D k=true
theorem Reach.closed{ops:List Oper}{D:Nat->Bool}(hc:TD ops D){i j:Nat}(h:Reach ops i j):D j=true->D i=true:=by
 induction h with
 |step h hi=>exact fun hj=>hc _ _ h hj _ hi
 |trans h hk _ ih=>exact fun hj=>ih (hc _ _ h hj _ hk)
def We(o:Oper)(acc:List Nat):Nat:=(sI o).foldl (fun s k=>s|||2 ^ k|||acc.getD k 0) 0
def Hi:List Oper->List Nat->List Nat
 |[],acc=>acc
 |o::r,acc=>Hi r (acc++[We o acc])
def tab(ops:List Oper):List Nat:=Hi ops []
theorem Wf{acc:List Nat}{i:Nat}:∀(l:List Nat) (s:Nat),(l.foldl (fun s k=>s|||2 ^ k|||acc.getD k 0) s).testBit i=true->s.testBit i=true\/∃k∈l,i=k\/(acc.getD k 0).testBit i=true
 |[],s,h=> .inl h
 |k::l,s,h=>by
  simp only[HC]at h;rcases Wf l _ h with h|⟨k',h1,h2⟩
  ·simp only[Nat.testBit_or,ES]at h
   rcases h with(h|h)|h
   ·exact .inl h
   ·rw[Nat.testBit_two_pow]at h
    have h':k=i:=of_decide_eq_true h;exact .inr ⟨k,by simp,.inl h'.symm⟩
   ·exact .inr ⟨k,by simp,.inr h⟩
  ·exact .inr ⟨k',by simp[h1],h2⟩
theorem Wg{ops:List Oper}:∀(r:List Oper) (acc:List Nat),ops.drop acc.length=r->(∀(j m i:Nat),acc[j]? =some m->m.testBit i=true->Reach ops i j)->∀(j m i:Nat),(Hi r acc)[j]? =some m->m.testBit i=true->Reach ops i j
 |[],acc,_,h=>h
 |o::r,acc,hd,h=>by
  have bG:acc.length<ops.length:=by
   rcases lU acc.length ops.length with h|h
   ·exact h
   ·rw[EU h]at hd;cases hd
  have ho:ops[acc.length]? =some o:=by
   have:=m9 (xs:=ops) (i:=acc.length) (j:=0);rw[hd]at this;simpa using this.symm
  refine Wg r (acc++[We o acc]) ?_ ?_
  ·rw[cP,List.length_singleton,<-KZ,hd];rfl
  ·intro j m i hj hb
   by_cases oS:j<acc.length
   ·rw[lT oS]at hj;exact h j m i hj hb
   ·rw[lD (by omega)]at hj
    have hj0:j-acc.length=0:=by
     rcases Jb (j-acc.length)with h0|h0
     ·exact h0
     ·rw[ET (by simp;omega)]at hj;cases hj
    have hje:j=acc.length:=by omega
    subst hje;simp at hj;subst hj;rcases Wf _ _ hb with h0|⟨k,hk,fE⟩
    ·simp at h0
    ·rcases fE with rfl|fE
     ·exact .step ho hk
     ·cases JJ:acc[k]? with
      |none=>simp[List.getD,JJ]at fE
      |some m'=>
       simp[List.getD,JJ]at fE;exact .trans ho hk (h k m' i JJ fE)
theorem YH{ops:List Oper}{i j:Nat}(h:((tab ops).getD j 0).testBit i=true):Reach ops i j:=by
 cases hm:(tab ops)[j]? with
 |none=>simp[List.getD,hm]at h
 |some m=>
  simp[List.getD,hm]at h;exact Wg ops [] rfl (fun j m i hj=>by simp at hj) j m i hm h
def TE(ops:Array Oper)(o:Oper):List Tmp:=o.dst.toList++o.looksAt ops
def CX(ops:Array Oper)(x y:Oper):Bool:=(match x.dst with|some d=>(TE ops y).contains d|none=>false)||(match y.dst with|some d=>(TE ops x).contains d|none=>false)
def Wh(ops:Array Oper)(tb:List Nat):Bool:=
 ((List.range ops.size).all fun j=>match ops[j]? with
   |some o=>(sI o).all (·<j)
   |none=>true)&&
 (List.range ops.size).all fun j=>(List.range j).all fun i=>match ops[i]?,ops[j]? with
   |some x,some y=> !(CX ops x y)||(tb.getD j 0).testBit i
   |_,_=>true
def zS(ops:Array Oper):Bool:=Wh ops (tab ops.toList)
def H5(e:Entry)(k:Nat):Bool:=e.rd.contains k||e.wr.any fun p=>p.1==k
def zT(a b:Entry):Bool:=(a.wr.any fun p=>H5 b p.1)||(b.wr.any fun p=>H5 a p.1)
def wW(tb:List Nat):Nat->List (Nat×Entry)->List Entry->Bool
 |_,_,[]=>true
 |j,prev,e::r=>prev.all (fun p=> !(zT p.2 e)||(tb.getD j 0).testBit p.1)&&wW tb (j+1) ((j,e)::prev) r
theorem Hj{tb:List Nat}:∀(r:List Entry) (j:Nat) (prev:List (Nat×Entry)),wW tb j prev r=true->
  (∀p∈prev,∀(k:Nat) e,r[k]? =some e->zT p.2 e=true->(tb.getD (j+k) 0).testBit p.1=true)/\(∀(i k:Nat) a b,i<k->r[i]? =some a->r[k]? =some b->zT a b=true->(tb.getD (j+k) 0).testBit (j+i)=true)
 |[],j,prev,_=>⟨fun p _ k e h=>by simp at h,fun i k a b _ h=>by simp at h⟩
 |e::r,j,prev,h=>by
  simp only[wW,jX,gK]at h;obtain⟨h1,h2⟩:=h;obtain⟨h3,h4⟩:=Hj r (j+1) ((j,e)::prev) h2;refine⟨fun p hp k e' he hc=> ?_,fun i k a b fE ha hb hc=> ?_⟩
  ·cases k with
   |zero=>
    simp at he;subst he;have:=h1 p hp;simp[hc]at this;simpa using this
   |succ k=>
    have:=h3 p (by simp[hp]) k e' (by simpa using he) hc
    rw[show j+(k+1)=j+1+k by omega];exact this
  ·cases k with
   |zero=>omega
   |succ k=>
    cases i with
    |zero=>
     simp at ha;subst ha;have:=h3 (j,e) (by simp) k b (by simpa using hb) hc
     rw[show j+(k+1)=j+1+k by omega];exact this
    |succ i=>
     have:=h4 i k a b (by omega) (by simpa using ha) (by simpa using hb) hc
     rw[show j+(k+1)=j+1+k by omega,show j+(i+1)=j+1+i by omega];exact this
inductive fV (P:Program) (ops:List Oper) (N0:Nat):Nat->List Oper->AS->List Entry->AS->Prop
 |nil (i:Nat) (σ:AS):fV P ops N0 i [] σ [] σ
 |cons (i:Nat) (o:Oper) (r:List Oper) (σ:AS) (e:Entry) (es:List Entry) (aL:AS) (h:BI P ops o σ (N0+i) e) (hr:fV P ops N0 (i+1) r (σ.app o.dst e) es aL):fV P ops N0 i (o::r) σ (e::es) aL
section
variable {P : Program} {ops : Array Oper} {es : List Entry} {σ0 : AS} {N0 : Nat}
def bT(l:Array Bool)(i:Nat):Bool:=l.getD i false
end
theorem Wi{ops:Array Oper}(h:zS ops=true):(∀(j:Nat) o,ops[j]? =some o->∀k∈sI o,k<j)/\
  ∀(i j:Nat) x y,i<j->ops[i]? =some x->ops[j]? =some y->CX ops x y=true->Reach ops.toList i j:=by
 unfold zS Wh at h;simp only[jX,gK,Je]at h;refine⟨fun j o ho k hk=> ?_,fun i j x y jY hx hy hc=> ?_⟩
 ·have h1:=h.1 j (jB.1 ho).1
  rw[ho]at h1;simpa using gK.1 h1 k hk
 ·have h1:=h.2 j (jB.1 hy).1 i jY
  rw[hx,hy]at h1;simp only[hc,PA,Yn]at h1;exact YH h1
end Go.AL
namespace Go.AL
open Go.RowKit
def Hk:Option jG->Option Entry
 |some (a,wr,rd)=>some ⟨true,a,wr,rd⟩
 |none=>none
def Hl(c:Bool):Option jG->Option Entry
 |some (a,[],rd)=>some ⟨c,a,[],rd⟩
 |_=>none
def Hm(c b:Bool):Option (Bool×Bool)->Option Entry
 |some (p,q)=>some ⟨c,.c (.bool (cond b p q)),[],[]⟩
 |none=>none
def TF(σ:AS)(c:Bool)(x y:Operand):Option Bool->Option Entry
 |some b=>Hm c b (yJ (jM (σ.get (c&&b) x)) (jM (σ.get (c&& !b) y)))
 |none=>none
def Hn(P:Program)(o:Oper)(σ:AS)(aG:Nat):Option Bool->Option Entry
 |some true=>match o.op with
  | .pick b x y=>TF σ true x y (jM (σ.get true b))
  |_=>Hl true (res P (σ.get true) σ.H.get aG o)
 |some false=>some ⟨false,.c (.bool false),[],[]⟩
 |none=>none
def YI(P:Program)(ops:List Oper)(o:Oper)(σ:AS)(aG:Nat):Option Entry:=
 match o.op with
 | .call ⟨.value _,_,_⟩=>none
 |_=>match o.guard with
  |none=>match o.op with
   | .pick b x y=>TF σ true x y (jM (σ.get true b))
   |_=>Hk (res P (σ.get true) σ.H.get aG o)
  |some (j,want)=>Hn P o σ aG (oH (nW ops j σ.env) want)
theorem Wj{σ:AS}{c:Bool}{x y:Operand}{b:Option Bool}{e:Entry}(h:TF σ c x y b=some e):∃b0 p q,b=some b0/\yJ (jM (σ.get (c&&b0) x)) (jM (σ.get (c&& !b0) y))=some (p,q)/\e=⟨c,.c (.bool (cond b0 p q)),[],[]⟩:=by
 unfold TF at h;split at h
 ·rename_i b0
  unfold Hm at h;split at h
  ·rename_i p q u4
   injection h with h
   exact⟨b0,p,q,rfl,u4,h.symm⟩
  ·cases h
 ·cases h
theorem bl8{P:Program}{ops:List Oper}{o:Oper}{σ:AS}{aG:Nat}{e:Entry}(h:YI P ops o σ aG=some e):BI P ops o σ aG e:=by
 unfold YI at h;split at h
 ·cases h
 ·rename_i mY
  split at h
  ·rename_i hg
   split at h
   ·rename_i b x y aP
    obtain⟨b0,p,q,h1,h2,rfl⟩:=Wj h;exact .pick b x y b0 p q aP (by unfold lB;rw[hg]) h1 h2 rfl rfl
   ·unfold Hk at h
    split at h
    ·rename_i a wr rd kZ
     injection h with h
     subst h;exact .res (by unfold lB;rw[hg]) kZ (.inr rfl)
    ·cases h
  ·rename_i j want hg
   unfold Hn at h;split at h
   ·rename_i hc
    split at h
    ·rename_i b x y aP
     obtain⟨b0,p,q,h1,h2,rfl⟩:=Wj h;exact .pick b x y b0 p q aP (by unfold lB;rw[hg];exact hc) h1 h2 rfl rfl
    ·unfold Hl at h
     split at h
     ·rename_i a rd kZ
      injection h with h
      subst h;exact .res (by unfold lB;rw[hg];exact hc) kZ (.inl rfl)
     ·cases h
   ·rename_i hc
    injection h with h
    subst h;exact .skip (by unfold lB;rw[hg];exact hc) rfl rfl
   ·cases h
def Wl(e:Entry)(p:List Entry×AS×Nat×List Oper):List Entry×AS×Nat×List Oper:=(e::p.1,p.2)
def H6(P:Program)(ops:List Oper)(N0:Nat):Nat->List Oper->AS->List Entry×AS×Nat×List Oper
 |i,[],σ=>([],σ,i,[])
 |i,o::r,σ=>Ho (H6 P ops N0 (i+1) r) i o r σ (YI P ops o σ (N0+i))
where
 Ho (f:AS->List Entry×AS×Nat×List Oper) (i:Nat) (o:Oper) (r:List Oper) (σ:AS):Option Entry->List Entry×AS×Nat×List Oper
  |some e=>Wl e (f (σ.app o.dst e))
  |none=>([],σ,i,o::r)
theorem Wm{P:Program}{ops:List Oper}{N0:Nat}{Wn:List Entry}{dV:AS}:∀{l:List Oper} {i:Nat} {σ:AS} {p:List Entry×AS×Nat×List Oper},H6 P ops N0 i l σ=p->fV P ops N0 p.2.2.1 p.2.2.2 p.2.1 Wn dV->fV P ops N0 i l σ (p.1++Wn) dV
 |[],i,σ,p,hr,h=>by simp only[H6]at hr;subst hr;exact h
 |o::r,i,σ,p,hr,h=>by
  simp only[H6]at hr;unfold H6.Ho at hr;split at hr
  ·rename_i e he
   subst hr;exact .cons i o r σ e _ dV (bl8 he) (Wm rfl h)
  ·subst hr;exact h
theorem KC{P:Program}{ops:List Oper}{N0 i:Nat}{σ:AS}:fV P ops N0 i [] σ [] σ:= .nil i σ
theorem bl9{P:Program}{ops:List Oper}{N0 i:Nat}{o:Oper}{r:List Oper}{σ dV:AS}{es:List Entry}{f:Operand}{as:Array Operand}{ts:Array TypeId}{n:FuncId}{args:List AV}{a:AV}(aP:o.op= .call ⟨.value f,as,ts⟩)(hg:o.guard=none)
  (hp:fD P n args (·=a)) (hc:fL (σ.get true f) (dO (σ.get true) as.toList)=some (n,args)) (hn:∀a∈args,bJ a) (h:fV P ops N0 (i+1) r (σ.app o.dst ⟨true,a,[],[]⟩) es dV):fV P ops N0 i (o::r) σ (⟨true,a,[],[]⟩::es) dV:=
 .cons i o r σ _ es dV (.call f as ts n args aP (by unfold lB;rw[hg]) hc (fun _=>⟨hn,hp⟩) rfl) h
theorem bm0{P:Program}{ops:List Oper}{N0 i:Nat}{o:Oper}{r:List Oper}{σ dV:AS}{es:List Entry}{f:Operand}{as:Array Operand}{ts:Array TypeId}{n:FuncId}{args:List AV}{a:AV}{j:Nat}{want c:Bool}(aP:o.op= .call ⟨.value f,as,ts⟩)(hg:o.guard=some (j,want))
  (hw:oH (nW ops j σ.env) want=some c) (hp:fD P n args (·=a)) (hc:fL (σ.get c f) (dO (σ.get c) as.toList)=some (n,args)) (hn:∀a∈args,bJ a) (h:fV P ops N0 (i+1) r (σ.app o.dst ⟨c,a,[],[]⟩) es dV):fV P ops N0 i (o::r) σ (⟨c,a,[],[]⟩::es) dV:=
 .cons i o r σ _ es dV (.call f as ts n args aP (by unfold lB;rw[hg];exact hw) hc (fun _=>⟨hn,hp⟩) rfl) h
structure Holds(σ:AS)(env:List (Nat×Bool×AV))(H:Heap):Prop where
 env:∀t a,lk env t=some a->lk σ.env t=some a
 next:σ.H.next<=H.next
 get:∀id b,H.get id=some b->σ.H.get id=some b
theorem tI{P:Program}{σ:AS}{Q:Exit->AS->Prop}{c:Code}{env:List (Nat×Bool×AV)}{H:Heap}(hh:Holds σ env H)(h:AW P c ⟨env,H,σ.nt⟩ Q):AW P c σ Q:=fun ro E W act eH hr=>
 h ro E W act eH ⟨hr.defers,hr.size,fun t c a ha=>hr.env t c a (hh.env t _ ha),⟨fun id aC=>vQ (hr.heap.next id aC) hh.next,hr.heap.core.S6 fun id b hb=>⟨b,hh.get id b hb,aI.le_refl b⟩⟩⟩
theorem Hp{P:Program}{σ:AS}{Q:Exit->AS->Prop}{c:Code}(S:Nat->List (Nat×Bool×AV)->Heap->Prop)(n:Nat)(h0:∃env H,S n env H/\Holds σ env H)
  (round:∀n env H,S n env H->AW P c ⟨env,H,σ.nt⟩ (cZ (fun aL=>∃m,m<n/\∃env H,S m env H/\Holds aL env H) Q)):AW P (.loop c) σ Q:=by
 have key:AW P (.loop c) σ (fun e aL=>aL.nt=σ.nt->Q e aL):=by
  refine bb3 (fun n aL=>aL.nt=σ.nt/\∃env H,S n env H/\Holds aL env H) n ⟨rfl,h0⟩ ?_
  rintro n aL ⟨cU,env,H,hS,hh⟩;have hr:=round n env H hS;rw[<-cU]at hr;intro ro E W act eH bR;refine wpIn_mono (tI hh hr ro E W act eH bR) fun e a w ⟨E',dV,h1,h2,h3,h4⟩=>⟨E',dV,h1,h2,h3,?_⟩
  cases e with
  |normal=>
   obtain⟨m,hm,h5⟩:=h4;exact⟨m,hm,h3.trans cU,h5⟩
  |_=>exact fun _=>h4
 intro ro E W act eH bR;exact wpIn_mono (key ro E W act eH bR) fun e a w ⟨E',aL,h1,h2,h3,h4⟩=>⟨E',aL,h1,h2,h3,h4 h3⟩
theorem holds_nil{σ:AS}{H:Heap}(hn:σ.H.next<=H.next)(hg:∀id b,H.get id=some b->σ.H.get id=some b):Holds σ [] H:=⟨fun t a h=>by simp[lk]at h,hn,hg⟩
theorem rV{σ:AS}{env:List (Nat×Bool×AV)}{H:Heap}{t:Nat}{a:Bool×AV}(h:lk σ.env t=some a)(hr:Holds σ env H):Holds σ ((t,a)::env) H:=
 ⟨fun t' a' h'=>by
   simp only[lk]at h';split at h'
   ·rename_i ht;subst ht;rw[<-h'];exact h
   ·exact hr.env t' a' h',hr.next,hr.get⟩
attribute [go_sem] Hk Hl Hm TF Hn YI Wl H6 H6.Ho AS.app PE List.contains_cons List.contains_nil Yk List.any_nil H5 zT wW
end Go.AL
namespace Go.AL
open Go.RowKit
theorem Hq{ops:Array Oper}{es:List Entry}{σ0:AS}{D D':Nat->Bool}:∀{k:Nat},(∀i,i<k->D i=D' i)->lS ops es σ0 D k=lS ops es σ0 D' k
 |0,_=>rfl
 |k+1,h=>by
  have h1:=Hq (ops:=ops) (es:=es) (σ0:=σ0) (k:=k) fun i hi=>h i (by omega)
  simp only[lS,h k (by omega),h1]
section
variable {P : Program} {ops : Array Oper} {es : List Entry} {σ0 : AS} {N0 : Nat}
theorem Wo{E0:Env}{W0:World}{A0:Act}{ro:Option Nat}{Q:Exit->Act->World->Prop}{k0:Nat}(vE:k0<=ops.size)(hlen:es.length=k0)(KD:∀j,k0<=j->j<ops.size->∀i,i<j->Reach ops.toList i j)(NA:∀(j:Nat) o e,ops[j]? =some o->es[j]? =some e->BI P ops.toList o (lS ops es σ0 (fun _=>true) j) (N0+j) e)
  (EL:∀(j:Nat) o,ops[j]? =some o->∀k∈sI o,k<j)
  (Wp:∀(i j:Nat) x y,i<j->ops[i]? =some x->ops[j]? =some y->CX ops x y=true->Reach ops.toList i j)
  (Wq:∀(i j:Nat) a b,i<j->es[i]? =some a->es[j]? =some b->zT a b=true->Reach ops.toList i j)
  (hd:ops.toList.all (fT σ0.nt)=true) (bM6:N0+k0<=σ0.H.next)
  (hQ:∀(fuel:Nat) (l:Array Bool) (E:Env) (W:World) (act:Act),l.size=ops.size->(List.range ops.size).countP (fun i=> !bT l i)<=fuel->(∀i,bT l i=decide (i<k0))->eB E0 W0 A0 E W act->Rel E W (lS ops es σ0 (fun _=>true) k0) act->wpAnyIn (kN ro) 3 P .any ops Q fuel l act W):
  ∀(fuel:Nat) (l:Array Bool) (E:Env) (W:World) (act:Act),l.size=ops.size->(List.range ops.size).countP (fun i=> !bT l i)<=fuel->TD ops.toList (bT l)->(∀i,k0<=i->bT l i=false)->eB E0 W0 A0 E W act->Rel E W (lS ops es σ0 (bT l) k0) act->
   (∀id,E.U id->id<N0\/∃i,bT l i=true/\id=N0+i)->wpAnyIn (kN ro) 3 P .any ops Q fuel l act W:=by
 --some of XG first are not listed:one of bM8 is ready
 have O4:∀(l:Array Bool),l.size=ops.size->TD ops.toList (bT l)->∀i,i<k0->bT l i=false->∃j,j<k0/\j∈Region.ready .any ops l:=by
  intro l hl hc i
  induction i using Nat.strongRecOn with
  |_ i ih=>
   intro hi O5;by_cases eT:∀k∈sI (ops[i]'(by omega)),bT l k=true
   ·refine⟨i,hi,?_⟩
    rw[mem_ready]
    have bX:l.getD i true=false:=by
     have:i<l.size:=by omega
     simp[bT,this]at O5;simp[this,O5]
    refine⟨bX,ops[i]'(by omega),EX (by omega),fun e he hb=> ?_⟩
    exact eT e.on (mS.2 ⟨e,HI.2 ⟨by simpa using he,hb⟩,rfl⟩)
   ·have ⟨k,hk⟩:∃k,¬(k∈sI (ops[i]'(by omega))->bT l k=true):=by
     by_cases h:∃k,¬(k∈sI (ops[i]'(by omega))->bT l k=true)
     ·exact h
     ·exact absurd (fun k hk=>Yu fun hn=>h ⟨k,fun h2=>hn (h2 hk)⟩) eT
    have xQ:k∈sI (ops[i]'(by omega)):=Yu fun h=>hk fun h2=>absurd h2 h
    have kP:bT l k=false:=by
     cases h:bT l k
     ·rfl
     ·exact absurd (fun _=>h) hk
    have bG:=EL i _ (EX (by omega)) k xQ
    exact ih k bG (by omega) kP
 intro fuel
 induction fuel with
 |zero=>
  intro l E W act hl CY hc YJ hv hr hU;by_cases eT:∀i,i<k0->bT l i=true
  ·have hex:∀i,bT l i=decide (i<k0):=fun i=>by
    by_cases hi:i<k0
    ·simp[hi,eT i hi]
    ·simp[hi,YJ i (by omega)]
   refine hQ 0 l E W act hl CY hex hv ?_;rw[show lS ops es σ0 (fun _=>true) k0=lS ops es σ0 (bT l) k0 from Hq fun i hi=>(eT i hi).symm]
   exact hr
  ·exfalso
   have ⟨i,hi,O5⟩:∃i,i<k0/\bT l i=false:=by
    by_cases h:∃i,i<k0/\bT l i=false
    ·exact h
    ·exact absurd (fun i hi=>by cases h2:bT l i with|false=>exact absurd ⟨i,hi,h2⟩ h|true=>rfl) eT
   have h2:0<(List.range ops.size).countP (fun i=> !bT l i):=Yy.2 ⟨i,by simp;omega,by simp[O5]⟩
   omega
 |succ fuel ih=>
  intro l E W act hl CY hc YJ hv hr hU;by_cases eT:∀i,i<k0->bT l i=true
  ·have hex:∀i,bT l i=decide (i<k0):=fun i=>by
    by_cases hi:i<k0
    ·simp[hi,eT i hi]
    ·simp[hi,YJ i (by omega)]
   refine hQ _ l E W act hl CY hex hv ?_;rw[show lS ops es σ0 (fun _=>true) k0=lS ops es σ0 (bT l) k0 from Hq fun i hi=>(eT i hi).symm]
   exact hr
  have ⟨i0,LW,Wr⟩:∃i,i<k0/\bT l i=false:=by
   by_cases h:∃i,i<k0/\bT l i=false
   ·exact h
   ·exact absurd (fun i hi=>by cases h2:bT l i with|false=>exact absurd ⟨i,hi,h2⟩ h|true=>rfl) eT
  obtain⟨j0,hj0,Ws⟩:=O4 l hl hc i0 LW Wr;refine⟨(fun cW=>by rw[cW]at Ws;cases Ws),fun j hj=> ?_⟩
  obtain⟨h0,o,ho,TG⟩:=mem_ready.1 hj;have B8:j<ops.size:=(jB.1 ho).1
  have oS:bT l j=false:=by
   have:j<l.size:=by omega
   simp[this]at h0;simp[bT,this,h0]
  have kK:ops.toList[j]? =some o:=by simpa using ho
  have EM:∀k∈sI o,bT l k=true:=fun k hk=>by
   obtain⟨e,he,rfl⟩:=mS.1 hk;obtain⟨k7,lA⟩:=HI.1 he;exact TG e (by simpa using k7) lA
  have O6:∀i,Reach ops.toList i j->bT l i=true:=fun i h=>by
   cases h with
   |step h hi=>rw[kK]at h;injection h with h;subst h;exact EM _ hi
   |trans h hk hr=>rw[kK]at h;injection h with h;subst h;exact hr.closed hc (EM _ hk)
  have bm1:∀i,Reach ops.toList j i->bT l i=false:=fun i h=>by
   cases O5:bT l i
   ·rfl
   ·have:=h.closed hc O5;rw[oS]at this;cases this
  have R1:j<k0:=by
   rcases lU j k0 with h|h
   ·exact h
   ·have:=O6 i0 (KD j h B8 i0 (by omega))
    rw[Wr]at this;cases this
  obtain⟨e,he⟩:∃e,es[j]? =some e:=⟨es[j]'(by omega),fU (by omega)⟩
  --of two bM9 bN0 one bN1,bN2 is done
  have Wt:∀i,i<ops.size->(∀x y,ops[i]? =some x->ops[j]? =some y->(i<j->Reach ops.toList i j)/\(j<i->Reach ops.toList j i))->i≠j->bT l i=decide (i<j):=by
   intro i hi bm2 aM;obtain⟨x,hx⟩:∃x,ops[i]? =some x:=⟨ops[i],EX hi⟩;obtain⟨h1,h2⟩:=bm2 x o hx ho;rcases Nat.lt_or_gt_of_ne aM with h|h
   ·simp[h,O6 i (h1 h)]
   ·have:¬i<j:=by omega
    simp[this,bm1 i (h2 h)]
  have bm3:∀i x,i<ops.size->ops[i]? =some x->i≠j->(CX ops x o=true\/CX ops o x=true)->bT l i=decide (i<j):=fun i x hi hx aM DX=>
   Wt i hi (fun x' y' nN TH=>by
    rw[hx]at nN;injection nN with nN;subst nN
    rw[ho]at TH;injection TH with TH;subst TH
    have TI:∀a b:Oper,CX ops a b=CX ops b a:=fun a b=>by unfold CX;rw[Bool.or_comm]
    have hb:CX ops x o=true:=DX.elim id fun h=>by rw[TI];exact h
    exact⟨fun h=>Wp i j x o h hx ho hb,fun h=>Wp j i o x h ho hx (by rw[TI];exact hb)⟩) aM
  have bm4:∀i a,i<ops.size->es[i]? =some a->i≠j->(zT a e=true\/zT e a=true)->bT l i=decide (i<j):=fun i a hi ha aM DX=>
   Wt i hi (fun x' y' nN TH=>by
    have TI:∀a b:Entry,zT a b=zT b a:=fun a b=>by unfold zT;rw[Bool.or_comm]
    have hb:zT a e=true:=DX.elim id fun h=>by rw[TI];exact h
    exact⟨fun h=>Wq i j a e h ha he hb,fun h=>Wq j i e a h he ha (by rw[TI];exact hb)⟩) aM
  have Wu:∀i t,wt ops es t i=true->∃x,ops[i]? =some x/\x.dst=some t:=fun i t h=>by
   unfold wt at h;split at h
   ·rename_i x e' hx vK;exact⟨x,hx,by simpa using h⟩
   ·cases h
  have bm5:∀i q,wk ops es q i=true->∃a,es[i]? =some a/\(yN a.wr q).isSome=true:=fun i q h=>by
   unfold wk at h;split at h
   ·rename_i x e' hx vK;exact⟨e',vK,h⟩
   ·cases h
  have Wv:∀(wr:List (Nat×Option aI)) q,(yN wr q).isSome=true->∃p∈wr,p.1=q:=by
   intro wr q
   induction wr with
   |nil=>intro h;simp[yN]at h
   |cons p r ih=>
    intro h;obtain⟨pi,pb⟩:=p;simp only[yN]at h;cases hw:yN r q with
    |some x=>
     obtain⟨p',h1,h2⟩:=ih (by rw[hw];rfl)
     exact⟨p',by simp[h1],h2⟩
    |none=>
     simp only[hw]at h;by_cases Ww:q=pi
     ·exact⟨(pi,pb),by simp,Ww.symm⟩
     ·simp[Ww]at h
  --Hr
  have Hr:∀t∈TE ops o,∀i,i<ops.size->i≠j->wt ops es t i=true->bT l i=decide (i<j):=fun t ht i hi aM hw=>by
   obtain⟨x,hx,Hs⟩:=Wu i t hw;refine bm3 i x hi hx aM (.inl ?_);unfold CX;rw[Hs];simp[ht]
  have Wx:∀q,H5 e q=true->∀i,i<ops.size->i≠j->wk ops es q i=true->bT l i=decide (i<j):=fun q hq i hi aM hw=>by
   obtain⟨a,ha,hs⟩:=bm5 i q hw;obtain⟨p,hp,rfl⟩:=Wv _ _ hs;refine bm4 i a hi ha aM (.inl ?_);unfold zT;have:(a.wr.any fun p=>H5 e p.1)=true:=pO.2 ⟨p,hp,hq⟩
   simp[this]
  have hE:=NA j o e ho he
  have hE':BI P ops.toList o (lS ops es σ0 (bT l) k0) (N0+j) e:=by
   refine hE.congr (fun t ht=> ?_) fun q hq=> ?_
   ·rw[TB,TB]
    have Ht:top (fun i=>bT l i&&wt ops es t i) k0=top (fun i=>decide (i<j)&&wt ops es t i) k0:=KB fun i hi=>by
     cases hw:wt ops es t i
     ·simp
     ·by_cases aM:i=j
      ·subst aM;simp[oS]
      ·rw[Hr t (by unfold TE;exact BW _ ht) i (by omega) aM hw]
    rw[Ht,He (p:=fun i=>decide (i<j)&&wt ops es t i) (j:=j) (Iq R1) (fun i _ h=>by simp at h;exact h.1)]
    rw[KB (n:=j) (q:=fun i=>(fun _=>true) i&&wt ops es t i) fun i hi=>by simp[hi]]
   ·rw[TC,TC]
    have Ht:top (fun i=>bT l i&&wk ops es q i) k0=top (fun i=>decide (i<j)&&wk ops es q i) k0:=KB fun i hi=>by
     cases hw:wk ops es q i
     ·simp
     ·by_cases aM:i=j
      ·subst aM;simp[oS]
      ·rw[Wx q (by unfold H5;simp[hq]) i (by omega) aM hw]
    rw[Ht,He (p:=fun i=>decide (i<j)&&wk ops es q i) (j:=j) (Iq R1) (fun i _ h=>by simp at h;exact h.1)]
    rw[KB (n:=j) (q:=fun i=>(fun _=>true) i&&wk ops es q i) fun i hi=>by simp[hi]]
  have TJ:fT σ0.nt o=true:=gK.1 hd o (by rw[EW];exact HH ho)
  have gU:¬E.U (N0+j):=fun h=>by
   rcases hU _ h with h1|⟨i,h1,h2⟩
   ·omega
   ·have:i=j:=by omega
    subst this;rw[oS]at h1;cases h1
  have rH:(l.setIfInBounds j true).size=ops.size:=by simpa using hl
  have jD:∀i,bT (l.setIfInBounds j true) i=(bT l i||decide (i=j)):=fun i=>by
   unfold bT;by_cases jY:i=j
   ·subst jY
    have:i<l.size:=by omega
    simp[this]
   ·simp[ZA (mV jY),jY]
  have dF:=BI.run (Q:=Q) (ro:=ro) hE' (by rw[H4];exact TJ) hr gU (by rw[O3];omega) (next:=wpAnyIn (kN ro) 3 P .any ops Q fuel (l.setIfInBounds j true)) (fun E' W' cE kM dD vM=>by
   refine ih (l.setIfInBounds j true) E' W' cE rH ?_ ?_ (fun i hi=>by rw[jD,YJ i hi];simp;omega) (hv.trans kM) ?_ ?_
   ·have bG:(List.range ops.size).countP (fun i=> !bT (l.setIfInBounds j true) i)<(List.range ops.size).countP (fun i=> !bT l i):=by
     have key:∀n,j<n->(List.range n).countP (fun i=> !bT (l.setIfInBounds j true) i)<(List.range n).countP (fun i=> !bT l i):=by
      intro n
      induction n with
      |zero=>intro h;omega
      |succ n TK=>
       intro Wy;rw[HD,UH,UH];by_cases aM:j=n
       ·subst aM
        have hle:(List.range j).countP (fun i=> !bT (l.setIfInBounds j true) i)<=(List.range j).countP (fun i=> !bT l i):=Yz fun i _ h=>by
         rw[jD]at h;simp at h;simp[h.1]
        have TL:bT (l.setIfInBounds j true) j=true:=by rw[jD];simp
        simp only[UI,UJ,TL,oS,PA,YZ,kV,if_true,if_false];omega
       ·have:=TK (by omega)
        have hn:bT (l.setIfInBounds j true) n=bT l n:=by rw[jD];simp[mV aM]
        simp only[UI,UJ,hn];omega
     exact key _ B8
    omega
   ·intro i x hx hi k hk
    rw[jD]at hi⊢;simp only[ES,decide_eq_true_eq]at hi⊢;rcases hi with hi|hi
    ·exact .inl (hc i x hx hi k hk)
    ·subst hi
     rw[kK]at hx;injection hx with hx
     subst hx;exact .inl (EM k hk)
   ·refine dD.ext (fun t=> ?_) (fun q=> ?_) (by rw[Wb,O3,O3]) (by rw[Wa,H4,H4])
    ·rw[Wd,TB,TB]
     by_cases CZ:o.dst=some t
     ·rw[if_pos CZ]
      have KE:wt ops es t j=true:=by unfold wt;simp[ho,he,CZ]
      rw[Hd (j:=j) R1 (by simp[jD,KE]) fun i hi h=> ?_]
      ·simp[Hg,he]
      ·simp only[jX]at h
       by_cases aM:i=j
       ·omega
       ·have h1:=Hr t (by unfold TE;rw[CZ];simp) i (by omega) aM h.2
        have h2:=h.1;rw[jD,h1]at h2;simp[aM]at h2;omega
     ·rw[if_neg CZ]
      have KE:wt ops es t j=false:=by
       cases hw:wt ops es t j
       ·rfl
       ·obtain⟨x,hx,Hs⟩:=Wu j t hw
        rw[ho]at hx;injection hx with hx;subst hx
        exact absurd Hs CZ
      rw[KB fun i hi=> ?_]
      by_cases aM:i=j
      ·subst aM;simp[KE]
      ·simp[jD,aM]
    ·rw[Wc,Hf,TC,TC]
     cases hw:yN e.wr q with
     |some b=>
      have KE:wk ops es q j=true:=by unfold wk;simp[ho,he,hw]
      rw[Hd (j:=j) R1 (by simp[jD,KE]) fun i hi h=> ?_]
      ·simp[Hh,he,hw]
      ·simp only[jX]at h
       by_cases aM:i=j
       ·omega
       ·obtain⟨p,hp,u4⟩:=Wv e.wr q (by rw[hw];rfl)
        have hk:H5 e q=true:=by
         unfold H5;have:(e.wr.any fun p=>p.1==q)=true:=pO.2 ⟨p,hp,by simp[u4]⟩
         simp[this]
        have h1:=Wx q hk i (by omega) aM h.2
        have h2:=h.1;rw[jD,h1]at h2;simp[aM]at h2;omega
     |none=>
      have KE:wk ops es q j=false:=by unfold wk;simp[ho,he,hw]
      simp only[Yw];rw[KB fun i hi=> ?_]
      by_cases aM:i=j
      ·subst aM;simp[KE]
      ·simp[jD,aM]
   ·intro id aC
    rcases vM id aC with h1|h1
    ·rcases hU id h1 with h2|⟨i,h2,h3⟩
     ·exact .inl h2
     ·exact .inr ⟨i,by rw[jD];simp[h2],h3⟩
    ·exact .inr ⟨j,by rw[jD];simp,h1⟩)
  unfold wpOpIn;simp only[ho];by_cases hw:Region.wanted o (yielded ops act.tmps)=true
  ·simp only[hw,if_true]at dF⊢
   exact dF
  ·simp only[hw]at dF⊢
   exact⟨fun _ _=>trivial,dF⟩
end
theorem fV.p7{P:Program}{ops:Array Oper}{N0 k0:Nat}{σ0:AS}(hk:k0<=ops.size){i:Nat}{r:List Oper}{σ aL:AS}{es:List Entry}(h:fV P ops.toList N0 i r σ es aL):
  ∀pre:List Entry,pre.length=i->(ops.toList.take k0).drop i=r->i<=k0->σ=lS ops (pre++es) σ0 (fun _=>true) i->
   (pre++es).length=k0/\aL=lS ops (pre++es) σ0 (fun _=>true) k0/\
   ∀(j:Nat) o e,i<=j->ops[j]? =some o->(pre++es)[j]? =some e->BI P ops.toList o (lS ops (pre++es) σ0 (fun _=>true) j) (N0+j) e:=by
 induction h with
 |nil i σ=>
  intro pre hp hd hi YK
  have hlen:k0=i:=by
   have:=congrArg List.length hd;simp at this;omega
  refine⟨by simp;omega,by rw[hlen];exact YK,fun j o e hj ho he=> ?_⟩
  have:=(dS.1 he).1;simp at this;omega
 |cons i o r σ e es aL he _ ih=>
  intro pre hp hd hi YK
  have KF:(ops.toList.take k0)[i]? =some o:=by
   have:=m9 (xs:=ops.toList.take k0) (i:=i) (j:=0);rw[hd]at this;simpa using this.symm
  have fE:i<k0:=by
   have:=(dS.1 KF).1;simp at this;omega
  have ho:ops[i]? =some o:=by
   rw[gF,if_pos fE]at KF;simpa using KF
  have bG:i<ops.size:=(jB.1 ho).1;have JU:pre++e::es=(pre++[e])++es:=by simp
  have mP:(pre++e::es)[i]? =some e:=by rw[lD (by omega)];simp[hp]
  have eW:σ.app o.dst e=lS ops ((pre++[e])++es) σ0 (fun _=>true) (i+1):=by
   simp only[lS,if_true];rw[<-JU];simp only[ho,mP];rw[<-YK]
  obtain⟨h1,h2,h3⟩:=ih (pre++[e]) (by simp[hp]) (by rw[<-KZ,hd];rfl) (by omega) eW
  refine⟨by rw[JU];exact h1,by rw[JU];exact h2,fun j o' e' hj vN vK=> ?_⟩
  by_cases hji:j=i
  ·subst hji
   rw[ho]at vN;injection vN with vN
   subst vN;rw[mP]at vK;injection vK with vK
   subst vK;rw[<-YK];exact he
  ·rw[JU]at vK⊢
   exact h3 j o' e' (by omega) vN vK
section
variable {P : Program} {ops : Array Oper} {N0 : Nat}
theorem Wz{Q:Exit->Act->World->Prop}{K:AS->Prop}{nt k0:Nat}(EL:∀(j:Nat) o,ops[j]? =some o->∀k∈sI o,k<j)(KD:∀j,k0<=j->j<ops.size->∀i,i<j->Reach ops.toList i j)
  (hd:ops.toList.all (fT nt)=true) {E0:Env} {W0:World} {A0:Act} {ro:Option Nat} (hQ:∀E W act σ,eB E0 W0 A0 E W act->Rel E W σ act->σ.nt=nt->K σ->Q .normal act W):
  ∀(d m:Nat),ops.size-m=d->m<=ops.size->k0<=m->∀(fuel:Nat) (l:Array Bool) (E:Env) (W:World) (act:Act) (σ:AS),l.size=ops.size->(List.range ops.size).countP (fun i=> !bT l i)<=fuel->(∀i,bT l i=decide (i<m))->
   eB E0 W0 A0 E W act->Rel E W σ act->σ.nt=nt->aX P true ops (ops.toList.drop m) σ K->wpAnyIn (kN ro) 3 P .any ops Q fuel l act W
 |0,m,hm,hle,hk,fuel,l,E,W,act,σ,hl,CY,hex,hv,hr,cU,h=>by
  have rI:m=ops.size:=by omega
  have cW:Region.ready .any ops l=[]:=by
   cases bm8:Region.ready .any ops l with
   |nil=>rfl
   |cons i rest=>
    exfalso;have GL:i∈Region.ready .any ops l:=by rw[bm8];simp
    obtain⟨h0,o,ho,_⟩:=mem_ready.1 GL;have hi:i<ops.size:=(jB.1 ho).1;have h1:bT l i=true:=by rw[hex];simp;omega
    have:i<l.size:=by omega
    simp[this]at h0;simp[bT,this,h0]at h1
  rw[rI,EU (by simp)]at h
  have hq:=hQ E W act σ hv hr cU h;cases fuel with
  |zero=>exact⟨cW,hq⟩
  |succ fuel=>exact⟨fun _=>hq,fun j hj=>by rw[cW]at hj;cases hj⟩
 |d+1,m,hm,hle,hk,fuel,l,E,W,act,σ,hl,CY,hex,hv,hr,cU,h=>by
  have rI:m<ops.size:=by omega
  have j7:TD ops.toList (bT l):=fun j o ho hj k hk=>by
   rw[hex]at hj⊢;simp at hj⊢;have:=EL j o (by simpa using ho) k hk
   omega
  have TM:m∈Region.ready .any ops l:=by
   rw[mem_ready];have h1:bT l m=false:=by rw[hex];simp
   have bX:l.getD m true=false:=by
    have:m<l.size:=by omega
    simp[bT,this]at h1;simp[this,h1]
   refine⟨bX,ops[m],EX rI,fun e he hb=> ?_⟩
   have hk:e.on∈sI ops[m]:=mS.2 ⟨e,HI.2 ⟨by simpa using he,hb⟩,rfl⟩
   have:=EL m _ (EX rI) e.on hk
   show bT l e.on=true
   rw[hex];simpa using this
  have h2:0<(List.range ops.size).countP (fun i=> !bT l i):=Yy.2 ⟨m,by simpa using rI,by rw[hex];simp⟩
  obtain⟨fuel,rfl⟩:∃f,fuel=f+1:=⟨fuel-1,by omega⟩
  refine⟨(fun cW=>by rw[cW]at TM;cases TM),fun j hj=> ?_⟩
  obtain⟨h0,o,ho,TG⟩:=mem_ready.1 hj;have B8:j<ops.size:=(jB.1 ho).1
  have oS:bT l j=false:=by
   have:j<l.size:=by omega
   simp[this]at h0;simp[bT,this,h0]
  have kK:ops.toList[j]? =some o:=by simpa using ho
  have EM:∀k∈sI o,bT l k=true:=fun k hk=>by
   obtain⟨e,he,rfl⟩:=mS.1 hk;obtain⟨k7,lA⟩:=HI.1 he;exact TG e (by simpa using k7) lA
  have O6:∀i,Reach ops.toList i j->bT l i=true:=fun i h=>by
   cases h with
   |step h hi=>rw[kK]at h;injection h with h;subst h;exact EM _ hi
   |trans h hk hr=>rw[kK]at h;injection h with h;subst h;exact hr.closed j7 (EM _ hk)
  have Hu:j=m:=by
   have h3:m<=j:=by rw[hex]at oS;simpa using oS
   rcases lU m j with h4|h4
   ·have:=O6 m (KD j (by omega) B8 m h4)
    rw[hex]at this;simp at this
   ·omega
  subst Hu;rw[YW (by simpa using rI)]at h
  have Hw:ops.toList[j]'(by simpa using rI)=o:=by
   rw[fU (by simpa using rI)]at kK
   exact Ji kK
  rw[Hw]at h
  have jD:∀i,bT (l.setIfInBounds j true) i=(bT l i||decide (i=j)):=fun i=>by
   unfold bT;by_cases jY:i=j
   ·subst jY
    have:i<l.size:=by omega
    simp[this]
   ·simp[ZA (mV jY),jY]
  have TJ:fT σ.nt o=true:=by rw[cU];exact gK.1 hd o (by rw[EW];exact HH ho)
  have dF:=XY (ro:=ro) (next:=wpAnyIn (kN ro) 3 P .any ops Q fuel (l.setIfInBounds j true)) (Q:=Q) h TJ hr (fun E' W' aL cE kM dD TN hK=>by
   refine Wz EL KD hd hQ d (j+1) (by omega) (by omega) (by omega) fuel _ E' W' cE aL (by simpa using hl) ?_ (fun i=> ?_) (hv.trans kM) dD (TN.trans cU) hK
   ·have key:∀n,j<n->(List.range n).countP (fun i=> !bT (l.setIfInBounds j true) i)<(List.range n).countP (fun i=> !bT l i):=by
     intro n
     induction n with
     |zero=>intro h;omega
     |succ n TK=>
      intro Wy;rw[HD,UH,UH];by_cases aM:j=n
      ·subst aM
       have hle:(List.range j).countP (fun i=> !bT (l.setIfInBounds j true) i)<=(List.range j).countP (fun i=> !bT l i):=Yz fun i _ h=>by
        rw[jD]at h;simp at h;simp[h.1]
       have TL:bT (l.setIfInBounds j true) j=true:=by rw[jD];simp
       simp only[UI,UJ,TL,oS,PA,YZ,kV,if_true,if_false];omega
      ·have:=TK (by omega)
       have hn:bT (l.setIfInBounds j true) n=bT l n:=by rw[jD];simp[mV aM]
       simp only[UI,UJ,hn];omega
    have:=key _ rI;omega
   ·rw[jD,hex]
    by_cases h5:i<j
    ·simp[h5];omega
    ·by_cases h6:i=j
     ·simp[h6]
     ·simp[h5,h6];omega)
  unfold wpOpIn;simp only[ho];by_cases hw:Region.wanted o (yielded ops act.tmps)=true
  ·simp only[hw,if_true]at dF⊢
   exact dF
  ·simp only[hw]at dF⊢
   exact⟨fun _ _=>trivial,dF⟩
end
def KG(ops:List Oper)(k:Nat):Bool:=decide (k<=ops.length)&&(List.range ops.length).all fun j=>decide (j<k)||(List.range j).all fun i=>((tab ops).getD j 0).testBit i
theorem Xa{ops:Array Oper}{k:Nat}(h:KG ops.toList k=true):k<=ops.size/\∀j,k<=j->j<ops.size->∀i,i<j->Reach ops.toList i j:=by
 unfold KG at h;simp only[jX,decide_eq_true_eq,gK,Je,ES]at h;refine⟨by simpa using h.1,fun j hj bG i hi=> ?_⟩
 rcases h.2 j (by simpa using bG)with h2|h2
 ·omega
 ·exact YH (h2 i hi)
theorem Xb{P:Program}{σ aL:AS}{Q:Exit->AS->Prop}{id:Nat}{ops:Array Oper}{es:List Entry}(k0:Nat)(hm:P.follows .mixedOrders=true)(hs:zS ops=true)(ht:KG ops.toList k0=true)(hd:ops.toList.all (fT σ.nt)=true)
  (hr:fV P ops.toList σ.H.next 0 (ops.toList.take k0) {σ with H:=⟨σ.H.next+ops.size,σ.H.get⟩} es aL) (rM:wW (tab ops.toList) 0 [] es=true) (h:aX P true ops (ops.toList.drop k0) aL (Q .normal)):AW P (.region id ops true) σ Q:=fun ro E W act eH bR=>by
 obtain⟨h1,h2⟩:=Wi hs;obtain⟨hk,TO⟩:=Xa ht;obtain⟨h3,h4,h5⟩:=hr.p7 hk (σ0:={σ with H:=⟨σ.H.next+ops.size,σ.H.get⟩}) [] rfl rfl (mT _) rfl
 simp only[x8]at h3 h4 h5;have TP:=(Hj es 0 [] rM).2;simp only[sN]at TP
 have KH:∀i,bT (Array.replicate ops.size false) i=false:=fun i=>by
  unfold bT;by_cases I3:i<ops.size<;>simp[I3]
 refine wpIn_region_any hm ?_
 refine Wo (N0:=σ.H.next) (σ0:={σ with H:=⟨σ.H.next+ops.size,σ.H.get⟩}) (es:=es) (E0:=E) (W0:=W) (A0:=act) hk h3 TO (fun j o e ho he=>h5 j o e (mT _) ho he) h1 h2 (fun i j a b jY ha hb hc=>YH (TP i j a b jY ha hb hc)) hd (by simp only[];omega)
  (fun fuel l E' W' cE hl CY hex hv dD=>Wz (K:=Q .normal) (nt:=σ.nt) h1 TO hd (E0:=E) (W0:=W) (fun E2 W2 Xc EN eZ lP JW hK=>⟨E2,EN,eZ,lP,JW,hK⟩) (ops.size-k0) k0 rfl hk (cA _) fuel l E' W' cE aL hl CY hex hv (by rw[h4];exact dD) (by rw[h4,H4]) h)
  ops.size (Array.replicate ops.size false) E W.drew act (by simp) ?_ ?_ (fun i _=>KH i) (eB.of (bD.drew E W) rfl) ?_ ?_
 ·have:=List.countP_le_length (p:=fun i=> !bT (Array.replicate ops.size false) i) (l:=List.range ops.size)
  simpa using this
 ·intro j o _ hj
  rw[KH]at hj;cases hj
 ·have heq:∀k,lS ops es {σ with H:=⟨σ.H.next+ops.size,σ.H.get⟩} (bT (Array.replicate ops.size false)) k={σ with H:=⟨σ.H.next+ops.size,σ.H.get⟩}:=by
   intro k
   induction k with
   |zero=>rfl
   |succ k ih=>simp only[lS,KH,kV,if_false];exact ih
  rw[heq];exact⟨bR.defers.mono (bD.drew E W),bR.size,fun t c a ha=>let ⟨v,h1,h2,h3⟩:=bR.env t c a ha;⟨v,h1,fun hc=>(h2 hc).mono (bD.drew E W),h3⟩,⟨fun id aC=>vQ (bR.heap.next id aC) (Nat.le_add_right _ _),bR.heap.core.drew⟩⟩
 ·exact fun id aC=> .inl (bR.heap.next id aC)
theorem TQ{P:Program}{σ aL:AS}{Q:Exit->AS->Prop}{id:Nat}{ops:Array Oper}{es:List Entry}(hm:P.follows .mixedOrders=true)(hs:zS ops=true)(hd:ops.toList.all (fT σ.nt)=true)
  (hr:fV P ops.toList σ.H.next 0 ops.toList {σ with H:=⟨σ.H.next+ops.size,σ.H.get⟩} es aL) (rM:wW (tab ops.toList) 0 [] es=true) (h:Q .normal aL):AW P (.region id ops true) σ Q:=
 Xb ops.size hm hs (by simp+contextual [KG]) hd (by rw[cR (by simp)];exact hr) rM (by rw[EU (by simp)];exact h)
end Go.AL
