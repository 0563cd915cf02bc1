/- Target: a layer over the walks (Ld). No condition but those named. -/
import Derived.Test.YtpaomccedbjknaaGreatDoorLb
import Derived.OrdersIn
set_option linter.all false
namespace Go.AL
open Go.RowKit
def plainO(σ:AS)(dst:Option Tmp):Option jI->Option AS
 |some (a,wr,_)=>some (({σ with H:=σ.H.app wr}:AS).put dst true a)
 |none=>none
def Ga(σ:AS)(dst:Option Tmp)(c:Bool):Option AV->Option AS
 |some a=>some (σ.put dst c a)
 |none=>none
def SB(σ:AS)(c b:Bool)(dst:Option Tmp):Option (Bool×Bool)->Option AS
 |some (p,q)=>some (σ.put dst c (.c (.bool (cond b p q))))
 |none=>none
def Gb(σ:AS)(x y:Operand)(dst:Option Tmp):Option Bool->Option AS
 |some b=>SB σ true b dst (yD (jL (σ.get b x)) (jL (σ.get (!b) y)))
 |none=>none
def Gc(σ:AS)(c:Bool)(x y:Operand)(dst:Option Tmp):Option Bool->Option AS
 |some b=>SB σ c b dst (yD (jL (σ.get (c&&b) x)) (jL (σ.get (c&& !b) y)))
 |none=>none
def stepG(P:Program)(o:Oper)(σ:AS):Option Bool->Option AS
 |some c=>match o.op with
  | .pick b x y=>Gc σ c x y o.dst (jL (σ.get c b))
  |_=>Ga σ o.dst c (if parts o.op=true then none else JH (res P (σ.get c) σ.H.get σ.H.next o))
 |none=>none
def X9(P:Program)(ops:List Oper)(o:Oper)(σ:AS):Option AS:=
 match o.op with
 | .call ⟨.value _,_,_⟩=>none
 |_=>match o.guard with
  |none=>match o.op with
   | .pick b x y=>Gb σ x y o.dst (jL (σ.get true b))
   |_=>plainO σ o.dst (res P (σ.get true) σ.H.get σ.H.next o)
  |some (j,want)=>stepG P o σ (nQ (nA ops j σ.env) want)
theorem bu5{P:Program}{ops:Array Oper}{o:Oper}{σ aN:AS}{K:AS->Prop}(h:X9 P ops.toList o σ=some aN)(hk:K aN):nC P true ops o σ K:=by
 unfold X9 at h;unfold nC;split at h
 ·cases h
 ·rename_i uF
  split at h
  ·rename_i hg
   simp only[hg];unfold p5;split at h
   ·rename_i b x y aS
    simp only[aS];unfold Gb at h;split at h
    ·rename_i b' hb
     unfold SB at h;split at h
     ·rename_i p q w9
      injection h with h
      subst h;rw[hb,uU];simp only[hold]at*;rw[w9];exact hk
     ·cases h
    ·cases h
   ·rename_i qT
    unfold plainO at h;split at h
    ·rename_i a wr rd kQ
     injection h with h
     subst h;split
     ·rename_i f as ts aS;exact absurd aS (uF _ _ _)
     ·rename_i b x y aS;exact absurd aS (qT _ _ _)
     ·rename_i x aS;rw[Vd aS]at kQ;cases kQ
     ·rw[kQ];exact hk
    ·cases h
  ·rename_i j want hg
   simp only[hg];unfold stepG at h;split at h
   ·rename_i c hc
    rw[hc,uU];simp only[hold];refine .inr ?_;unfold MV;split at h
    ·rename_i b x y aS
     simp only[aS];unfold Gc at h;split at h
     ·rename_i b' hb
      unfold SB at h;split at h
      ·rename_i p q w9
       injection h with h
       subst h;rw[hb];simp only[hold,xA]at*;rw[w9];exact hk
      ·cases h
     ·cases h
    ·rename_i qT
     unfold Ga at h;split at h
     ·rename_i a kQ
      simp only[bM]at h;subst h;split
      ·rename_i f as ts aS;exact absurd aS (uF _ _ _)
      ·rename_i b x y aS;exact absurd aS (qT _ _ _)
      ·simp only[hold,kQ,xA];exact hk
     ·cases h
   ·cases h
def run(P:Program)(ops:List Oper):List Oper->AS->AS×List Oper
 |[],σ=>(σ,[])
 |o::r,σ=>runK (run P ops r) (X9 P ops o σ) (σ,o::r)
where
 runK (f:AS->AS×List Oper):Option AS->AS×List Oper->AS×List Oper
  |some aN,_=>f aN
  |none,p=>p
theorem nF{P:Program}{ops:Array Oper}{K:AS->Prop}:∀(l:List Oper) (σ:AS) {p:AS×List Oper},run P ops.toList l σ=p->b8 P true ops p.2 p.1 K->b8 P true ops l σ K
 |[],σ,p,h,hk=>by simp only[run]at h;subst h;exact hk
 |o::r,σ,p,h,hk=>by
  simp only[run]at h;unfold run.runK at h;split at h
  ·rename_i aN hs
   exact bu5 hs (nF r aN h hk)
  ·subst h;exact hk
section
variable {P : Program} {σ : AS} {Q : Exit -> AS -> Prop}
theorem Gd{id:Nat}{ops:Array Oper}{p:AS×List Oper}(hd:ops.toList.all (fS σ.nt)=true)(hr:run P ops.toList ops.toList σ=p)(h:b8 P true ops p.2 p.1 (Q .normal)):AW P (.region id ops false) σ Q:=
 bo3 (nF _ _ hr h) hd
theorem bu6{c:Operand}{x y:Code}{b:Bool}(hc:jL (σ.get true c)=some b)(ht:b=true->AW P x σ Q)(hf:b=false->AW P y σ Q):AW P (.cond c x y) σ Q:=Fp (zL hc) ht hf
theorem lP{ops:Array Oper}{K:AS->Prop}(h:K σ):b8 P true ops [] σ K:=h
theorem oI{next:AS->Prop}(h:next σ):cF next Q .normal σ:=h
theorem ND{next:AS->Prop}(h:Q .ret σ):cF next Q .ret σ:=h
theorem NF{next:AS->Prop}{id:Nat}(h:Q (.exit id) σ):cF next Q (.exit id) σ:=h
theorem NG{id:Nat}(h:Q .normal σ):dB id Q .normal σ:=h
theorem NH{id:Nat}(h:Q .ret σ):dB id Q .ret σ:=h
theorem NI{id:Nat}(h:Q .normal σ):dB id Q (.exit id) σ:=by simp only[dB,if_true];exact h
theorem NJ{id aL:Nat}(aT:aL≠id)(h:Q (.exit aL) σ):dB id Q (.exit aL) σ:=by simp only[dB,aT,if_false];exact h
theorem bu7{rs:List ResultVar}{Q:AV->Heap->Prop}{a:AV}(ho:iL P σ rs=some a)(h:Q a σ.H):bT P rs Q .ret σ:=by show nB (iL P σ rs) _;rw[ho];exact h
theorem bu8{rs:List ResultVar}{Q:AV->Heap->Prop}{a:AV}(ho:iL P σ rs=some a)(h:Q a σ.H):bT P rs Q .normal σ:=by show nB (iL P σ rs) _;rw[ho];exact h
theorem GC{α:Type}{f:α->Prop}{t:Tag f}{x:α}(h:f x):hold f t x:=h
theorem iT{α β:Type}{f:α->β->Prop}{t:Tag f}{x:α}{y:β}(h:f x y):hold f t x y:=h
theorem bu9{ops:Array Oper}{o:Oper}{rest:List Oper}{K:AS->Prop}{f:Operand}{as:Array Operand}{ts:Array TypeId}{n:FuncId}{args:List AV}{r:AV}{p:AS×List Oper}(aS:o.op= .call ⟨.value f,as,ts⟩)(hg:o.guard=none)
  (hp:eA P n args (·=r)) (hc:fN (σ.get true f) (dN (σ.get true) as.toList)=some (n,args)) (hn:∀a∈args,bF a) (hr:run P ops.toList rest (σ.put o.dst true r)=p) (h:b8 P true ops p.2 p.1 K):b8 P true ops (o::rest) σ K:=by
 show nC P true ops o σ _
 unfold nC;simp only[hg];unfold p5;simp only[aS];refine .inl ?_;rw[hc,uU];exact fW.pure hp hn fun r' _ he=>by subst he;exact nF _ _ hr h
theorem bv0{ops:Array Oper}{o:Oper}{rest:List Oper}{K:AS->Prop}{f:Operand}{as:Array Operand}{ts:Array TypeId}{n:FuncId}{args:List AV}{r:AV}{p:AS×List Oper}{j:Nat}{want c:Bool}(aS:o.op= .call ⟨.value f,as,ts⟩)(hg:o.guard=some (j,want))
  (hw:nQ (nA ops.toList j σ.env) want=some c) (hp:eA P n args (·=r)) (hc:fN (σ.get c f) (dN (σ.get c) as.toList)=some (n,args)) (hn:∀a∈args,bF a) (hr:run P ops.toList rest (σ.put o.dst c r)=p) (h:b8 P true ops p.2 p.1 K):b8 P true ops (o::rest) σ K:=by
 show nC P true ops o σ _
 unfold nC;simp only[hg];rw[hw,uU];simp only[hold];refine .inr ?_;unfold MV;simp only[aS];rw[hc];exact⟨r,fun _=>⟨hn,hp⟩,nF _ _ hr h⟩
end
theorem bv1(a:Bool):yA a a=true:=by cases a<;>rfl
theorem bv2(a:Bool):yA a true=true:=by cases a<;>rfl
theorem bv3(a:Bool):yA true a=a:=by cases a<;>rfl
theorem bv4(a:Bool):yA false a=true:=by cases a<;>rfl
theorem bv5(a b c:Bool):yA (a&&b) c=(yA a c||yA b c):=by cases a<;>cases b<;>cases c<;>rfl
theorem bv6(a b c:Bool):yA a (b&&c)=(yA a b&&yA a c):=by cases a<;>cases b<;>cases c<;>rfl
theorem bv7(b x:Bool):cond b x false=(b&&x):=by cases b<;>rfl
theorem bv8(b x:Bool):cond b true x=(b||x):=by cases b<;>rfl
attribute [go_sem] X9 plainO Ga SB Gb Gc stepG run run.runK
attribute [go_sem] bv7 bv8 bv1 bv2 bv3 bv4 bv5 bv6 WV jL fN yD JH nQ parts Bool.true_or Bool.or_true Zq Bool.or_false Bool.false_and Zb cond_true cond_false Bool.not_not
attribute [go_sem] nA AS.get AS.put lk res Ei Ek El Em MH WR En Eo Ep Er Es Et MI MJ MK Eu ML MM U7 Ej RJ CH Option.isNone_some Option.isNone_none MR RM MS MT Ev WS dN zG E8 chunk deref rowsOf RD qL J2 WG J0 WE zF AV.cells AV.one uR ba1 ba2 Jl pN DV Heap.app jW iG X0 JL iL EH oL X4 nE zI fS Value.oneCell' zQ KN Iv Option.bind_none qE GU iQ kT qX CX List.getElem?_nil Iz ER List.drop_succ_cons sZ KI List.all_nil List.isEmpty_cons List.isEmpty_nil sF BB v7 Yy Yx if_true if_false true_and and_true and_self decide_true decide_false Ig Ix Zw Bool.not_false Bool.and_self fH eM fD fC ne_eq not_false_eq_true not_true_eq_false qZ dJ iI or_false forall_eq_or_imp forall_eq Ia List.replicate_zero YB List.flatten_nil Y9 true_imp_iff forall_const
end Go.AL
namespace Go.AL
open Go.RowKit
theorem bv9{G G':Nat->Option aI}{a:AV}{row:List AV}{o:Nat}{rd:List Nat}(h:deref G a=some (row,o,rd))(hG:∀id∈rd,G' id=G id):deref G' a=some (row,o,rd):=by
 unfold deref at h⊢
 grind
theorem NK{G G':Nat->Option aI}{a:AV}{rows:List (List AV)}{rd:List Nat}(h:rowsOf G a=some (rows,rd))(hG:∀id∈rd,G' id=G id):rowsOf G' a=some (rows,rd):=by
 unfold rowsOf at h⊢;split at h
 ·exact h
 ·exact h
 ·grind
 ·grind
 ·cases h
theorem CO{g g':Operand->Option AV}:∀(xs:List Operand),(∀x∈xs,g' x=g x)->dN g' xs=dN g xs
 |[],_=>rfl
 |x::r,h=>by simp only[dN,h x (by simp),CO r fun y hy=>h y (by simp[hy])]
theorem Ge{g g':Operand->Option AV}:∀(ps:List (Nat×Operand)),(∀p∈ps,g' p.2=g p.2)->zG g' ps=zG g ps
 |[],_=>rfl
 |(i,x)::r,h=>by simp only[zG,h (i,x) (by simp),Ge r fun y hy=>h y (by simp[hy])]
theorem XA{g g':Operand->Option AV}{d:Int}{o:Option Operand}(h:∀x,o=some x->g' x=g x):iG g' d o=iG g d o:=by
 cases o with
 |none=>rfl
 |some x=>simp only[iG,h x rfl]
section
variable {P : Program} {G G' : Nat -> Option aI} {aF : Nat} {a : AV} {wr : List (Nat × Option aI)} {rd : List Nat}
theorem bw0{t:TypeId}{x:Option AV}(h:MI P G t x=some (a,wr,rd))(hG:∀id∈rd,G' id=G id):MI P G' t x=some (a,wr,rd):=by
 unfold MI at h⊢;split at h
 ·split at h
  ·rename_i row o zJ hd
   obtain⟨d,h1,h2⟩:=map_some h;simp only[cQ]at h2;obtain⟨rfl,rfl,rfl⟩:=h2
   grind [bv9]
  ·cases h
 ·cases h
theorem bw1{t:TypeId}{x y:Option AV}(h:MJ P G t x y=some (a,wr,rd))(hG:∀id∈rd,G' id=G id):MJ P G' t x y=some (a,wr,rd):=by
 unfold MJ at h⊢;split at h
 ·grind
 ·cases h
theorem bw2{t:TypeId}{x y:Option AV}(h:MK P G t x y=some (a,wr,rd))(hG:∀id∈rd,G' id=G id):MK P G' t x y=some (a,wr,rd):=by
 unfold MK at h⊢;split at h
 ·grind
 ·exact h
 ·exact h
 ·exact h
 ·cases h
theorem bw3{t:TypeId}{l l' h0 ED:Nat->Option Int}{x:Option AV}(hl:l'=l)(hh:ED=h0)(h:ML P G t l h0 x=some (a,wr,rd))(hG:∀id∈rd,G' id=G id):ML P G' t l' ED x=some (a,wr,rd):=by
 subst hl;subst hh;unfold ML at h⊢;split at h
 ·exact h
 ·exact h
 ·grind
 ·grind
 ·exact h
 ·cases h
theorem bw4{t:TypeId}{l l' h0 ED m m':Nat->Option Int}{x:Option AV}(hl:l'=l)(hh:ED=h0)(hm:m'=m)(h:MM P G t l h0 m x=some (a,wr,rd))(hG:∀id∈rd,G' id=G id):MM P G' t l' ED m' x=some (a,wr,rd):=by
 subst hl;subst hh;subst hm;unfold MM at h⊢;split at h
 ·exact h
 ·grind
 ·cases h
theorem bw5{t:TypeId}{x y:Option AV}(h:MT P G t x y=some (a,wr,rd))(hG:∀id∈rd,G' id=G id):MT P G' t x y=some (a,wr,rd):=by
 unfold MT at h⊢;split at h
 ·rename_i id off len b
  split at h
  ·rename_i e k rows ap bB zJ e' k' hg hb ht
   split at h
   ·rename_i hc
    simp only[bM,cQ]at h;obtain⟨rfl,rfl,rfl⟩:=h;rw[hG id (by simp),hg,NK hb (fun q hq=>hG q (by simp[hq])),ht]
    grind
   ·cases h
  ·cases h
 ·rename_i id i o len b
  split at h
  ·rename_i e s rows ap bB zJ e' hg hb ht
   split at h
   ·rename_i row cS
    split at h
    ·rename_i hc
     simp only[bM,cQ]at h;obtain⟨rfl,rfl,rfl⟩:=h;rw[hG id (by simp),hg,NK hb (fun q hq=>hG q (by simp[hq])),ht]
     grind
    ·cases h
   ·cases h
  ·cases h
 ·cases h
theorem bw6{t:TypeId}{x y:Option AV}(h:MS P G aF t x y=some (a,wr,rd))(hG:∀id∈rd,G' id=G id):MS P G' aF t x y=some (a,wr,rd):=by
 unfold MS at h⊢;split at h
 ·rename_i id n b
  split at h
  ·rename_i e k rows w bB zJ e' k' hg hb ht
   split at h
   ·rename_i zs lU hz qB
    split at h
    ·rename_i hc
     simp only[bM,cQ]at h;obtain⟨rfl,rfl,rfl⟩:=h;rw[hG id (by simp),hg,NK hb (fun q hq=>hG q (by simp[hq])),ht]
     grind
    ·cases h
   ·cases h
  ·cases h
 ·rename_i b
  split at h
  ·rename_i bB zJ e k hb ht
   split at h
   ·rename_i WT
    simp only[bM,cQ]at h;obtain⟨rfl,rfl,rfl⟩:=h;rw[NK hb hG,ht]
    grind
   ·rename_i WT
    split at h
    ·rename_i zs lU hz qB
     split at h
     ·rename_i hc
      simp only[bM,cQ]at h;obtain⟨rfl,rfl,rfl⟩:=h;rw[NK hb hG,ht]
      grind
     ·cases h
    ·cases h
  ·cases h
 ·cases h
theorem bw7{aF:Nat}{t:TypeId}{x:Option AV}(h:MP P G aF t x=some (a,wr,rd))(hG:∀id∈rd,G' id=G id):MP P G' aF t x=some (a,wr,rd):=by
 unfold MP at h⊢
 grind
theorem bw8{x:Option AV}(h:MQ G x=some (a,wr,rd))(hG:∀id∈rd,G' id=G id):MQ G' x=some (a,wr,rd):=by
 unfold MQ at h⊢;split at h
 ·grind
 ·cases h
theorem bw9{t:TypeId}{ok:Bool}{x y:Option AV}(h:MN P G t ok x y=some (a,wr,rd))(hG:∀id∈rd,G' id=G id):MN P G' t ok x y=some (a,wr,rd):=by
 unfold MN at h⊢;split at h
 ·grind
 ·cases h
theorem bx0{t:TypeId}{x y z:Option AV}(h:MO P G t x y z=some (a,wr,rd))(hG:∀id∈rd,G' id=G id):MO P G' t x y z=some (a,wr,rd):=by
 unfold MO at h⊢
 grind
theorem bx1{t:TypeId}{x:Option AV}(h:MR P G t x=some (a,wr,rd))(hG:∀id∈rd,G' id=G id):MR P G' t x=some (a,wr,rd):=by
 unfold MR at h⊢
 grind
theorem bx2{s t:TypeId}{x:Option AV}(h:MH P G s t x=some (a,wr,rd))(hG:∀id∈rd,G' id=G id):MH P G' s t x=some (a,wr,rd):=by
 unfold MH at h⊢;split at h
 ·exact h
 ·unfold WR at h⊢
  cases hd:mP P t isString with
  |true=>
   simp only[hd]at h⊢;split at h
   ·rename_i e rows zJ hs hb
    split at h
    ·rename_i l he hl
     have iW:zJ=rd:=by
      simp only[bM,cQ]at h;exact h.2.2
     subst iW;cases x with
     |none=>cases hb
     |some y=>
      grind [NK]
    ·cases h
   ·cases h
  |false=>
   grind
theorem bx3{g g':Operand->Option AV}{o:Oper}(h:res P g G aF o=some (a,wr,rd))(hg:∀x∈o.op.operands,g' x=g x)(hG:∀id∈rd,G' id=G id):res P g' G' aF o=some (a,wr,rd):=by
 obtain⟨dst,op,ty,pos,after,guard⟩:=o;cases op with
 |move x=>grind [res,Op.operands]
 |assign x=>grind [res,Op.operands]
 |pick c x y=>grind [res,Op.operands]
 |binOp op t x y yt=>grind [res,Op.operands]
 |unOp op t x=>grind [res,Op.operands]
 |convert s t x=>grind [res,Op.operands,bx2]
 |sliceToArrayPointer t x=>grind [res,Op.operands]
 |extract x i=>grind [res,Op.operands]
 |field t x f=>grind [res,Op.operands]
 |fieldAddr t x f=>grind [res,Op.operands]
 |load t x=>grind [res,Op.operands,bw0]
 |store t x y=>simp only[res,Op.operands]at*;grind [bw1]
 |indexAddr t x y=>simp only[res,Op.operands]at*;grind [bw2]
 |index t x y=>grind [res,Op.operands]
 |slice t x lo hi mx=>
  cases mx with
  |some m=>
   cases hi with
   |none=>grind [res]
   |some hi=>
    simp only[res,Op.operands]at*;rw[hg x (by simp)]
    rw[show(fun _=>iG g' 0 lo)=fun(_:Nat)=>iG g 0 lo from by grind [XA],
     show(fun(n:Nat)=>iG g' n (some hi))=fun(n:Nat)=>iG g n (some hi)from by grind [XA],
     show(fun(n:Nat)=>iG g' n (some m))=fun(n:Nat)=>iG g n (some m)from by grind [XA]]
    exact bw4 rfl rfl rfl h hG
  |none=>
   grind [res,Op.operands,bw3,XA]
 |alloc t=>exact h
 |box t x=>grind [res,Op.operands]
 |build t ps=>
  grind [res,Op.operands,Ge]
 |buildSlice t n ps=>
  grind [res,Op.operands,Ge]
 |makeSlice t l c=>grind [res,Op.operands]
 |makeMap t r=>
  grind [res]
 |range t x=>grind [res,Op.operands,bw7]
 |entry x=>grind [res,Op.operands,bw8]
 |lookup t m x ok=>simp only[res,Op.operands]at*;grind [bw9]
 |mapUpdate t m x y=>grind [res,Op.operands,bx0]
 |makeFunc fn f c=>
  grind [res,Op.operands,CO]
 |makeInterface t x=>grind [res,Op.operands]
 |typeAssert x xt t ok=>grind [res,Op.operands]
 |nilCheck x=>grind [res,Op.operands]
 |call c=>
  obtain⟨cal,as,ts⟩:=c;cases cal with
  |builtin b=>
   simp only[res,Op.operands,Call.operands]at*;have hm:as.toList.map g'=as.toList.map g:=sG fun x hx=>hg x (by grind)
   rw[hm];unfold WS at h⊢;split at h
   ·exact bx1 h hG
   ·exact h
   ·exact h
   ·rename_i a' b' t t' _ _
    split at h
    ·rename_i ht;simp only[ht,if_true];grind [bw6]
    grind
   ·exact h
   ·exact bw5 h hG
   ·cases h
  |value f=>grind [res]
  |invoke r m=>grind [res]
 |_=>grind [res]
end
end Go.AL
namespace Go.AL
open Go.RowKit
def tW:AV->List Nat
 | .own id _ _=> [id]
 | .ptr id _ _=> [id]
 | .sub id _ _ _=> [id]
 |_=> []
def l8(f:AV->List Nat):List AV->List Nat
 |[]=> []
 |x::r=>f x++l8 f r
def oJ:AV->List Nat
 | .agg xs=>l8 tW xs
 | .fn _ xs ys=>l8 tW xs++l8 tW ys
 |a=>tW a
theorem JS{f:AV->List Nat}{xs:List AV}{x:AV}{id:Nat}(hx:x∈xs)(h:id∈f x):id∈l8 f xs:=by
 induction xs with
 |nil=>cases hx
 |cons y r ih=>
  simp only[l8,qW]
  grind
def qU:Option aI->Option aI
 |some (.cells e s rows w a)=>some (.cells e s rows false a)
 |b=>b
def wA(G:Nat->Option aI):List Nat->Nat->Option aI
 |[]=>G
 |id::r=>wA (aY G [(id,qU (G id))]) r
theorem bp6(G:Nat->Option aI):wA G []=G:=rfl
theorem Wa(G:Nat->Option aI)(id:Nat)(r:List Nat):wA G (id::r)=wA (aY G [(id,qU (G id))]) r:=rfl
section
variable {E : Env} {W : World}
theorem XB{H:Heap}(hH:RH E W H){id:Nat}{e:TypeId}{s:Nat}{rows:List (List AV)}{w a:Bool}(hg:H.get id=some (.cells e s rows w a)):
  bE E W ⟨E.ι,E.sz,E.U,fun b=>if b=E.ι id then max (E.L b) (rows.length*s)else E.L b⟩ W/\
   RH ⟨E.ι,E.sz,E.U,fun b=>if b=E.ι id then max (E.L b) (rows.length*s)else E.L b⟩ W ⟨H.next,aY H.get [(id,some (.cells e s rows false a))]⟩:=by
 obtain⟨hU,eC⟩:=hH.core.ok id _ hg
 have hv:bE E W ⟨E.ι,E.sz,E.U,fun b=>if b=E.ι id then max (E.L b) (rows.length*s)else E.L b⟩ W:=by
  refine⟨rfl,rfl,rfl,cA _,fun _ h=>h,fun _ _=>⟨rfl,rfl⟩,fun b=> ?_,fun _ _ _=>rfl,fun _ _ _=>rfl,fun b cur e f h=>⟨cur,f,h,rfl⟩,fun b hb hf=> ?_,fun _ h h'=>absurd h' h,fun b r h=>⟨r,h,rfl⟩⟩
  ·grind
  ·grind
 refine⟨hv,hH.next,fun b hb=> ?_,hH.core.eJ,fun aL b' cE=> ?_⟩
 ·simp only[]
  have:=hH.core.eJ id hU;rw[if_neg oM]
  exact hH.core.lim b hb
 ·simp only[aY]at cE
  have qC:∀eP eY,(if eP=id then some (aI.cells e s rows false a)else H.get eP)=some eY->∃b0,H.get eP=some b0/\eY.upto=b0.upto/\(b0.app=false->eY.app=false):=fun eP eY h=>by
   split at h
   ·rename_i heq
    injection h with h
    subst h;subst heq;exact⟨_,hg,rfl,fun h=>h⟩
   grind
  by_cases aC:aL=id
  ·subst aC
   rw[if_pos rfl]at cE;injection cE with cE
   subst cE;obtain⟨h1,h2,⟨cur,h3,h4,h5⟩,h6,h7⟩:=eC;refine⟨hU,h1,h2,⟨cur,h3,h4,fun i j row x hr hx=> ?_⟩,(fun h=>by cases h),fun ha=> ?_⟩
   ·obtain⟨v,oD,fI⟩:=h5 i j row x hr hx
    exact⟨v,oD,fI.mono hv⟩
   ·obtain⟨h8,h9⟩:=h7 ha
    refine⟨?_,fun eP eY aT sC heq=> ?_⟩
    ·grind
    ·obtain⟨b0,fG,mR,u2⟩:=qC eP eY sC
     grind
  ·rw[if_neg aC]at cE
   obtain⟨vZ,G7⟩:=hH.core.ok aL b' cE;refine⟨vZ,?_⟩;cases b' with
   |map es=>
   obtain⟨⟨ms,clock,h1,h2,h3,h4⟩,h5,h6⟩:=G7;have aT:=h6 id _ (wD aC) hg;refine⟨⟨ms,clock,h1,h2,h3,fun i k x hx=> ?_⟩,?_,fun eP eY mY sC=> ?_⟩
   ·obtain⟨e,mJ,oZ,uQ⟩:=h4 i k x hx
    exact⟨e,mJ,oZ,uQ.mono hv⟩
   ·grind
   ·obtain⟨b0,fG,mR,u2⟩:=qC eP eY sC
    grind
   |iter m n seen=>
   obtain⟨⟨h1,h3⟩,h5,h6⟩:=G7;have aT:=h6 id _ (wD aC) hg;refine⟨⟨h1,h3⟩,?_,fun eP eY mY sC=> ?_⟩
   ·grind
   ·obtain⟨b0,fG,mR,u2⟩:=qC eP eY sC
    grind
   |cJ env nt ps assign body st IX=>
   obtain⟨⟨fn,tmps,D,h1,h2,h3⟩,h5,h6⟩:=G7;have aT:=h6 id _ (wD aC) hg;refine⟨⟨fn,tmps,D,h1,h2,fun t c a ht=> ?_⟩,?_,fun eP eY mY sC=> ?_⟩
   ·obtain⟨v,mJ,oZ,uQ⟩:=h3 t c a ht
    exact⟨v,mJ,fun hc=>(oZ hc).mono hv,uQ⟩
   ·grind
   ·obtain⟨b0,fG,mR,u2⟩:=qC eP eY sC
    grind
   |cells e' s' dU w' a'=>
   obtain⟨h1,h2,⟨cur,h3,h4,h5⟩,h6,h7⟩:=G7;refine⟨h1,h2,⟨cur,h3,h4,fun i j row x hr hx=> ?_⟩,fun hw=> ?_,fun ha=> ?_⟩
   ·obtain⟨v,oD,fI⟩:=h5 i j row x hr hx
    exact⟨v,oD,fI.mono hv⟩
   ·obtain⟨h8,h9⟩:=h6 hw
    refine⟨?_,fun eP eY aT sC=> ?_⟩
    ·grind
    ·obtain⟨b0,fG,_,_⟩:=qC eP eY sC
     grind
   ·obtain⟨h8,h9⟩:=h7 ha
    refine⟨?_,fun eP eY aT sC heq=> ?_⟩
    ·simp only[]
     split
     ·rename_i heq
      have:=(h9 id _ (wD aC) hg heq.symm).1
      grind [aI.upto]
     ·exact h8
    ·obtain⟨b0,fG,mR,u2⟩:=qC eP eY sC
     grind
theorem SC:∀(ids:List Nat) {E:Env} {H:Heap},RH E W H->∃L1,bE E W ⟨E.ι,E.sz,E.U,L1⟩ W/\RH ⟨E.ι,E.sz,E.U,L1⟩ W ⟨H.next,wA H.get ids⟩/\
  ∀id,id∈ids->∀(e:TypeId) (s:Nat) (rows:List (List AV)) (w a:Bool),H.get id=some (.cells e s rows w a)->rows.length*s<=L1 (E.ι id)
 |[],E,H,hH=>⟨E.L,bE.refl E W,hH,fun id h=>by cases h⟩
 |id::r,E,H,hH=>by
  have step:∃L0,bE E W ⟨E.ι,E.sz,E.U,L0⟩ W/\RH ⟨E.ι,E.sz,E.U,L0⟩ W ⟨H.next,aY H.get [(id,qU (H.get id))]⟩/\
    ∀(e:TypeId) (s:Nat) (rows:List (List AV)) (w a:Bool),H.get id=some (.cells e s rows w a)->rows.length*s<=L0 (E.ι id):=by
   have qC:∀x,qU x=x->H.get id=x->aY H.get [(id,qU (H.get id))]=H.get:=fun x h1 h2=>by
    grind [aY]
   cases hg:H.get id with
   |none=>
    rw[<-hg,qC none rfl hg];exact⟨E.L,bE.refl E W,hH,fun e s rows w a h=>by grind⟩
   |some b=>
    cases b with
    |map es=>
     rw[<-hg,qC (some (.map es)) rfl hg];exact⟨E.L,bE.refl E W,hH,fun e s rows w a h=>by grind⟩
    |iter a1 a2 a3=>
     rw[<-hg,qC (some (.iter a1 a2 a3)) rfl hg];exact⟨E.L,bE.refl E W,hH,fun e s rows w a h=>by grind⟩
    |cJ a1 a2 a3 a4 a5 a6 a7=>
     rw[<-hg,qC (some (.cJ a1 a2 a3 a4 a5 a6 a7)) rfl hg];exact⟨E.L,bE.refl E W,hH,fun e s rows w a h=>by grind⟩
    |cells e s rows w a=>
     obtain⟨h1,h2⟩:=XB hH hg;refine⟨_,h1,h2,fun e' s' dU w' a' h=> ?_⟩
     grind
  obtain⟨L0,h1,h2,h3⟩:=step;obtain⟨L1,h4,h5,h6⟩:=SC r h2;refine⟨L1,h1.trans h4,h5,fun aL vQ e s rows w a hg=> ?_⟩
  rcases dJ.1 vQ with rfl|vQ
  ·exact tA (h3 e s rows w a hg) (h4.lim _)
  ·by_cases heq:aL=id
   ·subst heq
    exact tA (h3 e s rows w a hg) (h4.lim _)
   ·exact h6 aL vQ e s rows w a (by simp_all [aY])
theorem JT{G:Nat->Option aI}{L1:Nat->Nat}(hG:RC E W G)(hv:bE E W ⟨E.ι,E.sz,E.U,L1⟩ W){a:AV}{v:Value}(r:RV E W a v)
  (hL:∀id,id∈tW a->∀(e:TypeId) (s:Nat) (rows:List (List AV)) (w a:Bool),G id=some (.cells e s rows w a)->rows.length*s<=L1 (E.ι id)):RV ⟨E.ι,E.sz,E.U,L1⟩ W (oL G a) v:=by
 unfold oL;split
 ·rename_i id off len
  split
  ·rename_i rows rd fA
   have hU:=(uJ r).1;simp only[rowsOf]at fA;split at fA
   ·rename_i e s dU w ap dQ
    split at fA
    ·rename_i hle
     simp only[bM,cQ]at fA;obtain⟨rfl,rfl⟩:=fA;rcases(uJ r).2 with⟨cap,lD,eI,AT,e0,f0,jZ,S3⟩|⟨mX,a0,lD⟩
     ·subst lD
      obtain⟨_,mZ,hlen,⟨cur,cV,sU,fO⟩,_,_⟩:=hG.ok id _ dQ;rw[cV]at jZ;injection jZ with jZ
      injection jZ with jZ JN JO
      subst jZ;subst JN;subst JO;have EI:=hL id (by simp[tW]) e s dU w ap dQ
      have tU:∀(i:Nat) row,((dU.drop off).take len)[i]? =some row->dU[off+i]? =some row:=fun i row hr=>by
       grind
      have JE:((dU.drop off).take len).length=len:=by simp;omega
      have hmul:(off+len)*s<=dU.length*s:=mO s hle;refine .snap _ (E.ι id) (off*E.sz id) s len cap (fun i j=>cur.getD ((off+i)*s+j) undef) JE.symm eI (fun i row hr=>hlen _ row (tU i row hr)) ?_ (fun i j row x h1 h2=> ?_) (fun i j row x h1 h2=> ?_)
      ·grind
      ·obtain⟨u,h3,h4⟩:=fO _ j row x (tU i row h1) h2
       rw[cell_of_row W _ _ cur e (0,0) cV,mZ];have he:off*s+(i*s+j)=(off+i)*s+j:=by rw[wE];omega
       simp_all
      ·obtain⟨u,h3,h4⟩:=fO _ j row x (tU i row h1) h2
       simp only[GY,h3,yH];exact h4.mono hv
     ·subst mX;subst lD
      simp only[ER];exact .kP _ _
    grind
   grind
  ·exact r.mono hv
 ·rename_i id i o
  split
  ·rename_i e s rows w ap dQ
   cases r with
   |ptr _ _ _ hU=>
   obtain⟨_,mZ,hlen,⟨cur,cV,sU,fO⟩,_,_⟩:=hG.ok id _ dQ;have EI:=hL id (by simp[tW]) e s rows w ap dQ
   have:=RV.cH (E:=⟨E.ι,E.sz,E.U,L1⟩) (W:=W) rows i o (E.ι id) 0 s (fun i j=>cur.getD (i*s+j) undef) hlen (by grind) (fun i j row x h1 h2=>by
    obtain⟨u,h3,h4⟩:=fO i j row x h1 h2;rw[cell_of_row W _ _ cur e (0,0) cV,vB,h3];simp[h3]) (fun i j row x h1 h2=>by
    obtain⟨u,h3,h4⟩:=fO i j row x h1 h2;simp only[GY,h3,yH]
    exact h4.mono hv)
   grind
  ·exact r.mono hv
 ·rename_i id i o len
  split
  ·rename_i row cS
   obtain⟨e,s,rows,w,ap,dQ,y9⟩:=Vs cS;split
   ·rename_i hle
    cases r with
    |sub _ _ _ _ cap hU eI S3=>
    obtain⟨_,mZ,hlen,⟨cur,cV,sU,fO⟩,_,_⟩:=hG.ok id _ dQ;have EI:=hL id (by simp[tW]) e s rows w ap dQ
    have rU:=hlen i row y9;have bG:i<rows.length:=(fT.1 y9).1;have hm:=Vu (s:=s) bG;rw[mZ];refine Vt (E:=⟨E.ι,E.sz,E.U,L1⟩) (s:=s) cV hle eI (show i*s+o+len<=L1 (E.ι id)by omega) fun j x h1 h2 hx=> ?_
    obtain⟨u,h3,h4⟩:=fO i j row x y9 hx;exact⟨u,h3,h4.mono hv⟩
   ·exact r.mono hv
  ·exact r.mono hv
 ·exact r.mono hv
theorem XD{G:Nat->Option aI}{L1:Nat->Nat}(hG:RC E W G)(hv:bE E W ⟨E.ι,E.sz,E.U,L1⟩ W){a:AV}{v:Value}(r:RV E W a v)
  (hL:∀id,id∈oJ a->∀(e:TypeId) (s:Nat) (rows:List (List AV)) (w a:Bool),G id=some (.cells e s rows w a)->rows.length*s<=L1 (E.ι id)):RV ⟨E.ι,E.sz,E.U,L1⟩ W (nE G a) v:=by
 unfold nE;split
 ·rename_i xs
  cases r with
  |agg _ vs hl hr=>
  refine .agg _ vs (by grind) fun i x v hx lD=> ?_
  rw[kJ]at hx;obtain⟨y,hy,rfl⟩:=map_some hx;exact JT hG hv (hr i y v hy lD) fun id aC=>hL id (JS (fJ hy) aC)
 ·rename_i f xs ys
  cases r with
  |fn _ _ _ vf vc hl dG hr mD=>
  refine .fn _ _ _ vf vc (by grind) (by grind) (fun i x v hx lD=> ?_) (fun i x v hx lD=> ?_)
  ·rw[kJ]at hx
   obtain⟨y,hy,rfl⟩:=map_some hx;exact JT hG hv (hr i y v hy lD) fun id aC=>hL id (GQ _ (JS (fJ hy) aC))
  ·rw[kJ]at hx
   obtain⟨y,hy,rfl⟩:=map_some hx;exact JT hG hv (mD i y v hy lD) fun id aC=>hL id (OQ _ (JS (fJ hy) aC))
 ·rename_i aT Ws
  refine JT hG hv r fun id aC=>hL id ?_
  cases a<;>first|exact aC|grind|grind
theorem fW.Vz{P:Program}{n:FuncId}{bW args:List AV}{Q:AV->Prop}{H:Heap}(h:eA P n args Q)(he:bW.map (nE H.get)=args)(ha:∀a∈args,bF a){K:AV->Heap->Prop}
  (hk:∀r,bF r->Q r->K r ⟨H.next,wA H.get (l8 oJ bW)⟩):fW P n bW H K:=
 ⟨h.1,fun E W vs hH hr=>by
   obtain⟨L1,h1,h2,h3⟩:=SC (W:=W) (l8 oJ bW) hH
   have SD:bP ⟨E.ι,E.sz,E.U,L1⟩ W args vs:=by
    subst he;refine⟨by simpa using hr.1,fun i x v hx hv=> ?_⟩
    rw[kJ]at hx;obtain⟨y,hy,rfl⟩:=map_some hx;exact XD hH.core h1 (hr.2 i y v hy hv) fun id aC=>h3 id (JS (fJ hy) aC)
   exact(h.run ha h2 SD).mono fun e W' ⟨v,qR,r,L',h4,h5,h6,h7,h8⟩=>⟨v,qR,_,r,_,h1.trans h4,h5,h6,hk r h7 h8⟩⟩
end
theorem bx5(x:Option aI):qU (qU x)=qU x:=by
 cases x with
 |none=>rfl
 |some b=>cases b<;>rfl
theorem XE:∀(ids:List Nat) (G:Nat->Option aI),wA G ids=aY G (ids.map fun id=>(id,qU (G id)))
 |[],G=>rfl
 |id::r,G=>by
  rw[Wa,XE r]
  grind [aY,bx5]
theorem bx6{G G':Nat->Option aI}{id off len:Nat}(h:G' id=G id):rowsOf G' (.own id off len)=rowsOf G (.own id off len):=by grind [rowsOf]
theorem XF{G G':Nat->Option aI}{a:AV}(h:∀id∈tW a,G' id=G id):oL G' a=oL G a:=by
 cases a with
 |own id off len=>grind [oL,bx6,tW]
 |ptr id i o=>grind [oL,tW]
 |sub id i o len=>grind [oL,tW]
 |_=>rfl
theorem Gf{G G':Nat->Option aI}:∀(xs:List AV),(∀id∈l8 tW xs,G' id=G id)->xs.map (oL G')=xs.map (oL G)
 |[],_=>rfl
 |x::r,h=>by
  simp only[qE];rw[XF fun id aC=>h id (by grind [l8]),Gf r fun id aC=>h id (by grind [l8])]
theorem bx7{G G':Nat->Option aI}{a:AV}(h:∀id∈oJ a,G' id=G id):nE G' a=nE G a:=by
 cases a with
 |agg xs=>simp only[nE];rw[Gf xs h]
 |fn f xs ys=>grind [nE,Gf,oJ]
 |own id off len=>exact XF (a:= .own id off len) fun id aC=>h id aC
 |ptr id i o=>exact XF (a:= .ptr id i o) fun id aC=>h id aC
 |sub id i o len=>exact XF (a:= .sub id i o len) fun id aC=>h id aC
 |_=>rfl
theorem Gg{G G':Nat->Option aI}:∀(xs:List AV),(∀id∈l8 oJ xs,G' id=G id)->xs.map (nE G')=xs.map (nE G)
 |[],_=>rfl
 |x::r,h=>by
  simp only[qE];rw[bx7 fun id aC=>h id (by grind [l8]),Gg r fun id aC=>h id (by grind [l8])]
end Go.AL
namespace Go.AL
open Go.RowKit
def bJ(G:Nat->Option aI):Nat->AV->AV
 |0,a=>a
 |k+1,.own id off len=>match rowsOf G (.own id off len)with
  |some (rows,_)=> .snap (rows.map fun row=>row.map (bJ G k))
  |none=> .own id off len
 |k+1,.ptr id i o=>match G id with
  |some (.cells _ _ rows _ _)=> .cH (rows.map fun row=>row.map (bJ G k)) i o
  |_=> .ptr id i o
 |k+1,.agg xs=> .agg (xs.map (bJ G k))
 |k+1,.aK xs=> .aK (xs.map (bJ G k))
 |k+1,.fn f xs ys=> .fn f (xs.map (bJ G k)) (ys.map (bJ G k))
 |_+1,a=>a
def gK(G:Nat->Option aI):Nat->AV->List Nat
 |0,_=> []
 |k+1,.own id off len=>id::match rowsOf G (.own id off len)with
  |some (rows,_)=>rows.flatMap fun row=>row.flatMap (gK G k)
  |none=> []
 |k+1,.ptr id i o=>id::match G id with
  |some (.cells _ _ rows _ _)=>rows.flatMap fun row=>row.flatMap (gK G k)
  |_=> []
 |k+1,.agg xs=>xs.flatMap (gK G k)
 |k+1,.aK xs=>xs.flatMap (gK G k)
 |k+1,.fn f xs ys=>xs.flatMap (gK G k)++ys.flatMap (gK G k)
 |_+1,_=> []
theorem XG{G G':Nat->Option aI}:∀(k:Nat) (a:AV),(∀id∈gK G k a,G' id=G id)->bJ G' k a=bJ G k a
 |0,a,h=>rfl
 |k+1,a,h=>by
  have fA:∀rows:List (List AV),(∀id∈rows.flatMap fun row=>row.flatMap (gK G k),G' id=G id)->(rows.map fun row=>row.map (bJ G' k))=rows.map fun row=>row.map (bJ G k):=fun rows h=>by
   refine sG fun row hr=>sG fun x hx=>XG k x fun id aC=>h id ?_
   grind
  have hl:∀xs:List AV,(∀id∈xs.flatMap (gK G k),G' id=G id)->xs.map (bJ G' k)=xs.map (bJ G k):=fun xs h=>
   sG fun x hx=>XG k x fun id aC=>h id (B8.2 ⟨x,hx,aC⟩)
  cases a with
  |own id off len=>
   grind [gK,bJ,rowsOf]
  |ptr id i o=>
   grind [gK,bJ]
  |agg xs=>simp only[bJ];rw[hl xs h]
  |aK xs=>simp only[bJ];rw[hl xs h]
  |fn f xs ys=>
   simp only[bJ];rw[hl xs fun id aC=>h id (GQ _ aC),hl ys fun id aC=>h id (OQ _ aC)]
  |c x=>rfl
  |snap rows=>rfl
  |cH rows i o=>rfl
  |sub=>rfl
  |omap=>rfl
  |jT=>rfl
theorem Gh{G G':Nat->Option aI}:∀(k:Nat) (a:AV),(∀id∈gK G k a,G' id=G id)->gK G' k a=gK G k a
 |0,a,h=>rfl
 |k+1,a,h=>by
  have hl:∀xs:List AV,(∀id∈xs.flatMap (gK G k),G' id=G id)->xs.flatMap (gK G' k)=xs.flatMap (gK G k):=fun xs h=>by
   simp only[List.flatMap];rw[sG fun x hx=>Gh k x fun id aC=>h id (B8.2 ⟨x,hx,aC⟩)]
  have fA:∀rows:List (List AV),(∀id∈rows.flatMap fun row=>row.flatMap (gK G k),G' id=G id)->(rows.flatMap fun row=>row.flatMap (gK G' k))=rows.flatMap fun row=>row.flatMap (gK G k):=fun rows h=>by
   have h1:rows.map (fun row=>row.flatMap (gK G' k))=rows.map fun row=>row.flatMap (gK G k):=sG fun row hr=>hl row fun id aC=>h id (B8.2 ⟨row,hr,aC⟩)
   grind
  cases a with
  |own id off len=>
   grind [gK,rowsOf]
  |ptr id i o=>
   grind [gK]
  |agg xs=>exact hl xs h
  |aK xs=>exact hl xs h
  |fn f xs ys=>
   grind [gK]
  |c x=>rfl
  |snap rows=>rfl
  |cH rows i o=>rfl
  |sub=>rfl
  |omap=>rfl
  |jT=>rfl
theorem JU{E:Env}{W:World}{G:Nat->Option aI}{L:Nat->Nat}(hG:RC E W G)(hL:∀b,E.L b<=L b)(mM:∀id,E.U id->∀(cur:Array Value) (e:TypeId) (f:Nat×Nat),W.heap[E.ι id]? =some (Obj.cells cur e f)->cur.size<=L (E.ι id)):
  ∀(k:Nat) {a:AV} {v:Value},RV E W a v->bF (bJ G k a)->RV (eZ L) W (bJ G k a) v
 |0,a,v,r,h=>r.pI hL h
 |k+1,a,v,r,h=>by
  have hl:∀(xs:List AV) (vs:List Value),(∀(i:Nat) x v,xs[i]? =some x->vs[i]? =some v->RV E W x v)->(∀x∈xs.map (bJ G k),bF x)->∀(i:Nat) x v,(xs.map (bJ G k))[i]? =some x->vs[i]? =some v->RV (eZ L) W x v:=fun xs vs hr hn i x v hx hv=>by
   have hm:=hn x (fJ hx);rw[kJ]at hx;obtain⟨y,hy,rfl⟩:=map_some hx;exact JU hG hL mM k (hr i y v hy hv) hm
  have cS:∀{rows:List (List AV)} {i j:Nat} {row:List AV} {x:AV},(rows.map fun row=>row.map (bJ G k))[i]? =some row->row[j]? =some x->∃lQ x0,rows[i]? =some lQ/\lQ[j]? =some x0/\x=bJ G k x0/\row.length=lQ.length:=fun{rows i j row x} h1 h2=>by
   grind
  have hlen:∀{rows:List (List AV)} {s i:Nat} {row:List AV},(∀(i:Nat) row,rows[i]? =some row->row.length=s)->(rows.map fun row=>row.map (bJ G k))[i]? =some row->row.length=s:=fun{rows s i row} h0 h1=>by
   grind
  cases a with
  |own id off len=>
   simp only[bJ]at h⊢;split at h
   ·rename_i rows rd fA
    have hU:=(uJ r).1;rcases(uJ r).2 with⟨cap,hv,eI,AT,e0,f0,jZ,S3⟩|⟨mX,a0,hv⟩
    ·subst hv
     simp only[rowsOf]at fA;split at fA
     ·rename_i e s dU w ap dQ
      split at fA
      ·rename_i hle
       simp only[bM,cQ]at fA;obtain⟨rfl,rfl⟩:=fA;obtain⟨_,mZ,JV,⟨cur,cV,sU,fO⟩,_,_⟩:=hG.ok id _ dQ;rw[cV]at jZ;injection jZ with jZ
       injection jZ with jZ JN JO
       subst jZ;subst JN;subst JO;have EI:=mM id hU cur e (0,0) cV;rw[fC]at h
       have tU:∀(i:Nat) row,((dU.drop off).take len)[i]? =some row->dU[off+i]? =some row:=fun i row hr=>by
        grind
       have JE:((dU.drop off).take len).length=len:=by simp;omega
       have hmul:(off+len)*s<=dU.length*s:=mO s hle;refine .snap _ (E.ι id) (off*E.sz id) s len cap (fun i j=>cur.getD ((off+i)*s+j) undef) (by grind) eI (fun i row hr=>hlen (fun i row hr=>JV _ row (tU i row hr)) hr) ?_ (fun i j row x h1 h2=> ?_) (fun i j row x h1 h2=> ?_)
       ·grind [eZ]
       ·obtain⟨lQ,x0,h5,h6,rfl,_⟩:=cS h1 h2
        obtain⟨u,h3,h4⟩:=fO _ j lQ x0 (tU i lQ h5) h6;rw[cell_of_row W _ _ cur e (0,0) cV,mZ];have he:off*s+(i*s+j)=(off+i)*s+j:=by rw[wE];omega
        rw[he,h3];simp[h3]
       ·have fM:=h row (fJ h1) x (fJ h2)
        obtain⟨lQ,x0,h5,h6,rfl,_⟩:=cS h1 h2;obtain⟨u,h3,h4⟩:=fO _ j lQ x0 (tU i lQ h5) h6;simp only[GY,h3,yH];exact JU hG hL mM k h4 fM
      grind
     grind
    ·subst mX;subst hv
     have:rows=[]:=by
      simp only[rowsOf]at fA;split at fA
      ·grind
      ·cases fA
     subst this;exact .kP _ _
   ·cases h
  |ptr id i o=>
   simp only[bJ]at h⊢;split at h
   ·rename_i e s rows w ap dQ
    cases r with
    |ptr _ _ _ hU=>
    obtain⟨_,mZ,JV,⟨cur,cV,sU,fO⟩,_,_⟩:=hG.ok id _ dQ;have EI:=mM id hU cur e (0,0) cV;cases h with
    |cH _ _ _ h=>
    have:=RV.cH (E:=eZ L) (W:=W) (rows.map fun row=>row.map (bJ G k)) i o (E.ι id) 0 s (fun i j=>cur.getD (i*s+j) undef) (fun i row hr=>hlen JV hr) (by grind [eZ]) (fun i j row x h1 h2=>by
     obtain⟨lQ,x0,h5,h6,rfl,_⟩:=cS h1 h2;obtain⟨u,h3,h4⟩:=fO i j lQ x0 h5 h6;rw[cell_of_row W _ _ cur e (0,0) cV,vB,h3];simp[h3]) (fun i j row x h1 h2=>by
     have fM:=h row (fJ h1) x (fJ h2);obtain⟨lQ,x0,h5,h6,rfl,_⟩:=cS h1 h2;obtain⟨u,h3,h4⟩:=fO i j lQ x0 h5 h6;simp only[GY,h3,yH]
     exact JU hG hL mM k h4 fM)
    grind
   ·cases h
  |agg xs=>
   simp only[bJ]at h⊢;rw[eM]at h;cases r with
   |agg _ vs wX hr=>
   exact .agg _ vs (by grind) fun i x v hx hv=>hl xs vs.toList (fun i x v hx hv=>hr i x v hx (by grind)) h i x v hx (by grind)
  |aK xs=>
   simp only[bJ]at h⊢;rw[fD]at h;cases r with
   |aK _ vs wX hr=>
   exact .aK _ vs (by grind) fun i x v hx hv=>hl xs vs.toList (fun i x v hx hv=>hr i x v hx (by grind)) h i x v hx (by grind)
  |fn f xs ys=>
   simp only[bJ]at h⊢;cases h with
   |fn _ _ _ uF qT=>
   cases r with
   |fn _ _ _ vf vc AG dG hr mD=>
   exact .fn _ _ _ vf vc (by grind) (by grind) (fun i x v hx hv=>hl xs vf.toList (fun i x v hx hv=>hr i x v hx (by grind)) uF i x v hx (by grind)) (fun i x v hx hv=>hl ys vc.toList (fun i x v hx hv=>mD i x v hx (by grind)) qT i x v hx (by grind))
  |c x=>exact r.pI hL h
  |snap rows=>exact r.pI hL h
  |cH rows i o=>exact r.pI hL h
  |sub=>exact r.pI hL h
  |omap=>exact r.pI hL h
  |jT=>exact r.pI hL h
mutual
def kB:AV->Bool
 | .c _=>true
 | .agg xs=>JW xs
 | .aK xs=>JW xs
 | .snap rows=>rows.isEmpty
 | .fn _ xs ys=>JW xs&&JW ys
 |_=>false
def JW:List AV->Bool
 |[]=>true
 |x::r=>kB x&&JW r
end
theorem SE:∀{xs:List AV},JW xs=true->∀x∈xs,kB x=true
 |[],_,x,hx=>by cases hx
 |y::r,h,x,hx=>by
  simp only[JW,jF]at h;rcases dJ.1 hx with h1|h1
  ·grind
  ·exact SE h.2 x h1
theorem GD{E E':Env}{W:World}{a:AV}{v:Value}(r:RV E W a v):kB a=true->RV E' W a v:=by
 induction r with
 |c x hx=>intro _;exact .c x hx
 |agg xs vs hl _ ih=>intro h;simp only[kB]at h;exact .agg xs vs hl fun i x v hx hv=>ih i x v hx hv (SE h x (fJ hx))
 |aK xs vs hl _ ih=>intro h;simp only[kB]at h;exact .aK xs vs hl fun i x v hx hv=>ih i x v hx hv (SE h x (fJ hx))
 |snap rows b off s n cap vs hn pH hs hL hc hr ih=>
  intro h;simp only[kB,List.isEmpty_iff]at h;subst h;simp only[kT]at hn;subst hn;exact .kP _ _
 |kP a cap=>intro _;exact .kP a cap
 |fn f first cap vf vc hl dG _ _ E4 E5=>
  intro h;simp only[kB,jF]at h;exact .fn f first cap vf vc hl dG (fun i x v hx hv=>E4 i x v hx hv (SE h.1 x (fJ hx))) (fun i x v hx hv=>E5 i x v hx hv (SE h.2 x (fJ hx)))
 |cH=>grind [kB]
 |own=>grind [kB]
 |mB=>grind [kB]
 |sub=>grind [kB]
 |ptr=>grind [kB]
 |omap=>grind [kB]
 |jT=>grind [kB]
def fresh(G:Nat->Option aI):Nat->AV->Bool
 |0,a=>kB a
 |k+1,.own id off len=>match rowsOf G (.own id off len)with
  |some (rows,_)=>rows.all fun row=>row.all (fresh G k)
  |none=>false
 |k+1,.ptr id i o=>match G id with
  |some (.cells _ _ rows _ _)=>rows.all fun row=>row.all (fresh G k)
  |_=>false
 |k+1,.agg xs=>xs.all (fresh G k)
 |k+1,.aK xs=>xs.all (fresh G k)
 |k+1,.fn _ xs ys=>xs.all (fresh G k)&&ys.all (fresh G k)
 |_+1,a=>kB a
theorem SF{E:Env}{W:World}{G:Nat->Option aI}{L:Nat->Nat}(hG:RC E W G):
  ∀(k:Nat) {a:AV} {v:Value},(∀id∈gK G k a,(G id).isSome=true->E.U id->∀(cur:Array Value) (e:TypeId) (f:Nat×Nat),W.heap[E.ι id]? =some (Obj.cells cur e f)->cur.size<=L (E.ι id))->RV E W a v->fresh G k a=true->RV (eZ L) W (bJ G k a) v
 |0,a,v,_,r,h=>GD r h
 |k+1,a,v,mM,r,h=>by
  have hl:∀(xs:List AV) (vs:List Value),(∀id∈xs.flatMap (gK G k),(G id).isSome=true->E.U id->∀(cur:Array Value) (e:TypeId) (f:Nat×Nat),W.heap[E.ι id]? =some (Obj.cells cur e f)->cur.size<=L (E.ι id))->(∀(i:Nat) x v,xs[i]? =some x->vs[i]? =some v->RV E W x v)->(∀x∈xs,fresh G k x=true)->∀(i:Nat) x v,(xs.map (bJ G k))[i]? =some x->vs[i]? =some v->RV (eZ L) W x v:=fun xs vs ho hr hn i x v hx hv=>by
   rw[kJ]at hx;obtain⟨y,hy,rfl⟩:=map_some hx;exact SF hG k (fun id aC=>ho id (B8.2 ⟨y,fJ hy,aC⟩)) (hr i y v hy hv) (hn y (fJ hy))
  have cS:∀{rows:List (List AV)} {i j:Nat} {row:List AV} {x:AV},(rows.map fun row=>row.map (bJ G k))[i]? =some row->row[j]? =some x->∃lQ x0,rows[i]? =some lQ/\lQ[j]? =some x0/\x=bJ G k x0/\row.length=lQ.length:=fun{rows i j row x} h1 h2=>by
   grind
  have hlen:∀{rows:List (List AV)} {s i:Nat} {row:List AV},(∀(i:Nat) row,rows[i]? =some row->row.length=s)->(rows.map fun row=>row.map (bJ G k))[i]? =some row->row.length=s:=fun{rows s i row} h0 h1=>by
   grind
  cases a with
  |own id off len=>
   simp only[bJ];simp only[fresh]at h;split at h
   ·rename_i rows rd fA
    have JX:∀(i j:Nat) row x,rows[i]? =some row->row[j]? =some x->fresh G k x=true:=fun i j row x h1 h2=>iM.1 (iM.1 h row (fJ h1)) x (fJ h2)
    have Gi:∀(i j:Nat) row x,rows[i]? =some row->row[j]? =some x->∀id∈gK G k x,(G id).isSome=true->E.U id->∀(cur:Array Value) (e:TypeId) (f:Nat×Nat),W.heap[E.ι id]? =some (Obj.cells cur e f)->cur.size<=L (E.ι id):=fun i j row x h1 h2 aL aC=>mM aL (by
     simp only[gK,fA]
     exact List.mem_cons_of_mem _ (B8.2 ⟨row,fJ h1,B8.2 ⟨x,fJ h2,aC⟩⟩))
    have hU:=(uJ r).1;rcases(uJ r).2 with⟨cap,hv,eI,AT,e0,f0,jZ,S3⟩|⟨mX,a0,hv⟩
    ·subst hv
     simp only[rowsOf]at fA;split at fA
     ·rename_i e s dU w ap dQ
      split at fA
      ·rename_i hle
       simp only[bM,cQ]at fA;obtain⟨rfl,rfl⟩:=fA;obtain⟨_,mZ,JV,⟨cur,cV,sU,fO⟩,_,_⟩:=hG.ok id _ dQ;rw[cV]at jZ;injection jZ with jZ
       injection jZ with jZ JN JO
       subst jZ;subst JN;subst JO;have EI:=mM id (by grind [gK]) (by grind) hU cur e (0,0) cV
       have tU:∀(i:Nat) row,((dU.drop off).take len)[i]? =some row->dU[off+i]? =some row:=fun i row hr=>by
        grind
       have JE:((dU.drop off).take len).length=len:=by simp;omega
       have hmul:(off+len)*s<=dU.length*s:=mO s hle;refine .snap _ (E.ι id) (off*E.sz id) s len cap (fun i j=>cur.getD ((off+i)*s+j) undef) (by grind) eI (fun i row hr=>hlen (fun i row hr=>JV _ row (tU i row hr)) hr) ?_ (fun i j row x h1 h2=> ?_) (fun i j row x h1 h2=> ?_)
       ·grind [eZ]
       ·obtain⟨lQ,x0,h5,h6,rfl,_⟩:=cS h1 h2
        obtain⟨u,h3,h4⟩:=fO _ j lQ x0 (tU i lQ h5) h6;rw[cell_of_row W _ _ cur e (0,0) cV,mZ];have he:off*s+(i*s+j)=(off+i)*s+j:=by rw[wE];omega
        rw[he,h3];simp[h3]
       ·obtain⟨lQ,x0,h5,h6,rfl,_⟩:=cS h1 h2
        obtain⟨u,h3,h4⟩:=fO _ j lQ x0 (tU i lQ h5) h6;simp only[GY,h3,yH];exact SF hG k (Gi i j lQ x0 h5 h6) h4 (JX i j lQ x0 h5 h6)
      grind
     grind
    ·subst mX;subst hv
     have:rows=[]:=by
      simp only[rowsOf]at fA;split at fA
      ·grind
      ·cases fA
     subst this;exact .kP _ _
   ·cases h
  |ptr id i o=>
   simp only[bJ];simp only[fresh]at h;split at h
   ·rename_i e s rows w ap dQ
    have JX:∀(i j:Nat) row x,rows[i]? =some row->row[j]? =some x->fresh G k x=true:=fun i j row x h1 h2=>iM.1 (iM.1 h row (fJ h1)) x (fJ h2)
    have Gi:∀(i j:Nat) row x,rows[i]? =some row->row[j]? =some x->∀id∈gK G k x,(G id).isSome=true->E.U id->∀(cur:Array Value) (e:TypeId) (f:Nat×Nat),W.heap[E.ι id]? =some (Obj.cells cur e f)->cur.size<=L (E.ι id):=fun i' j row x h1 h2 aL aC=>mM aL (by
     simp only[gK,dQ]
     exact List.mem_cons_of_mem _ (B8.2 ⟨row,fJ h1,B8.2 ⟨x,fJ h2,aC⟩⟩))
    cases r with
    |ptr _ _ _ hU=>
    obtain⟨_,mZ,JV,⟨cur,cV,sU,fO⟩,_,_⟩:=hG.ok id _ dQ;have EI:=mM id (by grind [gK]) (by grind) hU cur e (0,0) cV
    have:=RV.cH (E:=eZ L) (W:=W) (rows.map fun row=>row.map (bJ G k)) i o (E.ι id) 0 s (fun i j=>cur.getD (i*s+j) undef) (fun i row hr=>hlen JV hr) (by grind [eZ]) (fun i j row x h1 h2=>by
     obtain⟨lQ,x0,h5,h6,rfl,_⟩:=cS h1 h2;obtain⟨u,h3,h4⟩:=fO i j lQ x0 h5 h6;rw[cell_of_row W _ _ cur e (0,0) cV,vB,h3];simp[h3]) (fun i j row x h1 h2=>by
     obtain⟨lQ,x0,h5,h6,rfl,_⟩:=cS h1 h2;obtain⟨u,h3,h4⟩:=fO i j lQ x0 h5 h6;simp only[GY,h3,yH]
     exact SF hG k (Gi i j lQ x0 h5 h6) h4 (JX i j lQ x0 h5 h6))
    grind
   ·cases h
  |agg xs=>
   simp only[bJ];simp only[fresh,iM]at h;cases r with
   |agg _ vs wX hr=>
   exact .agg _ vs (by grind) fun i x v hx hv=>hl xs vs.toList (fun id aC=>mM id (by grind [gK])) (fun i x v hx hv=>hr i x v hx (by grind)) h i x v hx (by grind)
  |aK xs=>
   simp only[bJ];simp only[fresh,iM]at h;cases r with
   |aK _ vs wX hr=>
   exact .aK _ vs (by grind) fun i x v hx hv=>hl xs vs.toList (fun id aC=>mM id (by grind [gK])) (fun i x v hx hv=>hr i x v hx (by grind)) h i x v hx (by grind)
  |fn f xs ys=>
   simp only[bJ];simp only[fresh,jF,iM]at h;cases r with
   |fn _ _ _ vf vc AG dG hr mD=>
   exact .fn _ _ _ vf vc (by grind) (by grind) (fun i x v hx hv=>hl xs vf.toList (fun id aC=>mM id (by grind [gK])) (fun i x v hx hv=>hr i x v hx (by grind)) h.1 i x v hx (by grind)) (fun i x v hx hv=>hl ys vc.toList (fun id aC=>mM id (by grind [gK])) (fun i x v hx hv=>mD i x v hx (by grind)) h.2 i x v hx (by grind))
  |c x=>exact GD r h
  |snap rows=>exact GD r h
  |cH rows i o=>exact GD r h
  |sub=>exact GD r h
  |omap=>exact GD r h
  |jT=>exact GD r h
theorem bx8{E:Env}{W:World}{G:Nat->Option aI}{L:Nat->Nat}(hG:RC E W G)(mM:∀id,E.U id->∀(cur:Array Value) (e:TypeId) (f:Nat×Nat),W.heap[E.ι id]? =some (Obj.cells cur e f)->cur.size<=L (E.ι id))(k:Nat){a:AV}{v:Value}(r:RV E W a v)(h:fresh G k a=true):RV (eZ L) W (bJ G k a) v:=
 SF hG k (fun id _ _=>mM id) r h
def nJ(P:Program)(n:FuncId)(args:List AV)(a:AV):Prop:=
 sB P n=true/\∀(L:Nat->Nat) (W:World) (vs:List Value),(∀b,W.heap.size<=b->L b=0)->bP (eZ L) W args vs->
  Calls P n vs.toArray W fun e W'=>∃v,e= .returned v/\∃L',Below W.heap.size W W'/\(∀b,b<W.heap.size->L' b=0)/\(∀b,W'.heap.size<=b->L' b=0)/\RV (eZ L') W' a v/\bF a
theorem nJ.H3{P:Program}{n:FuncId}{args:List AV}{a:AV}(h:eA P n args (·=a))(hk:kB a=true):nJ P n args a:=
 ⟨h.1,fun L W vs hL hr=>(h.2 L W vs hL hr).mono fun e W' ⟨v,he,r,L',h1,h2,h3,h4,h5,h6⟩=>by
   subst h6
   exact⟨v,he,fun _=>0,h1,fun _ _=>rfl,fun _ _=>rfl,GD h4 hk,h5⟩⟩
theorem nJ.TL{P:Program}{n:FuncId}{args:List AV}{a:AV}(h:nJ P n args a):eA P n args (·=a):=
 ⟨h.1,fun L W vs hL hr=>(h.2 L W vs hL hr).mono fun e W' ⟨v,he,L',h1,h2,h3,h4,h5⟩=>
   ⟨v,he,a,fun b=>if b<W.heap.size then L b else L' b,h1,fun b hb=>by simp[hb],fun b hb=>by
     have:=h1.size
     grind,(h4.pI (L:=fun b=>if b<W.heap.size then L b else L' b) (fun b=>by
     simp only[eZ]
     grind) h5),h5,rfl⟩⟩
theorem nJ.Wt{P:Program}{n:FuncId}{bW args:List AV}{a:AV}{G:Nat->Option aI}(k:Nat)(h:nJ P n args a)(he:bW.map (bJ G k)=args)(ha:∀a∈args,bF a){E:Env}{W:World}{H:Heap}(hH:RH E W H)(hG:RC E W G){vs:List Value}(hr:bP E W bW vs):
  Calls P n vs.toArray W fun e W'=>∃v,e= .returned v/\∃L',bE E W ⟨E.ι,E.sz,E.U,L'⟩ W'/\RH ⟨E.ι,E.sz,E.U,L'⟩ W' H/\RV ⟨E.ι,E.sz,E.U,L'⟩ W' a v:=by
 have dO:∀b,W.heap.size<=b->max (E.L b) (match W.heap[b]? with|some (.cells cur _ _)=>cur.size|_=>0)=0:=fun b hb=>by
  rw[hH.core.lim b hb,OW hb];rfl
 refine(h.2 (fun b=>max (E.L b) (match W.heap[b]? with|some (.cells cur _ _)=>cur.size|_=>0)) W vs dO ?_).mono fun e W' ⟨v,qR,L',hb,h2,h3,h4,h5⟩=> ?_
 ·subst he
  refine⟨by simpa using hr.1,fun i x v hx hv=> ?_⟩
  have fM:=ha x (fJ hx);rw[kJ]at hx;obtain⟨y,hy,rfl⟩:=map_some hx;refine JU hG (fun b=>Nat.le_max_left _ _) (fun id hU cur e f hc=> ?_) k (hr.2 i y v hy hv) fM
  grind
 ·subst qR
  have bG:∀b k,k<E.L b->b<W.heap.size:=fun b k hk=>by
   grind
  refine⟨v,rfl,fun b=>if b<W.heap.size then E.L b else L' b,?_⟩
  have SG:∀b,b<W.heap.size->(if b<W.heap.size then E.L b else L' b)=E.L b:=fun b hb=>if_pos hb
  have hv:bE E W ⟨E.ι,E.sz,E.U,fun b=>if b<W.heap.size then E.L b else L' b⟩ W':=by
   refine⟨hb.os,hb.tape,hb.output,hb.size,fun _ h=>h,fun _ _=>⟨rfl,rfl⟩,fun b=> ?_,fun b k hk=>hb.cell (p:=⟨b,k,none⟩) (bG b k hk),fun b cE _=>hb.block b cE,fun b cur e f hc=> ?_,fun b cE _=>SG b cE,fun id h h'=>absurd h' h,fun b r h=>⟨r,by rw[hb.block b (k7.1 h).1];exact h,rfl⟩⟩
   ·grind
   ·exact⟨cur,f,by rw[hb.block b (k7.1 hc).1];exact hc,rfl⟩
  refine⟨hv,⟨hH.next,fun b cE=> ?_,fun id hU=>tX (hH.core.eJ id hU) hb.size,fun id b hg=> ?_⟩,h4.EE fun b=> ?_⟩
  ·have:=hb.size
   grind
  ·obtain⟨hU,eC⟩:=hH.core.ok id b hg
   have sV:=hH.core.eJ id hU;exact⟨hU,eC.mono hv hU (hb.block _ sV) (SG _ sV) fun aL b' _ dR RO=>⟨b',dR,RO,rfl,fun h=>h⟩⟩
  grind
mutual
def xB:AV->Bool
 | .c _=>true
 | .agg xs=>GF xs
 | .aK xs=>GF xs
 | .snap rows=>SH rows
 | .cH rows _ _=>SH rows
 | .fn _ xs ys=>GF xs&&GF ys
 |_=>false
def GF:List AV->Bool
 |[]=>true
 |x::r=>xB x&&GF r
def SH:List (List AV)->Bool
 |[]=>true
 |x::r=>GF x&&SH r
end
mutual
theorem Wu:∀a,xB a=true->bF a
 | .c x,_=> .c x
 | .agg xs,h=> .agg xs (NL xs (by grind [xB]))
 | .aK xs,h=> .aK xs (NL xs (by grind [xB]))
 | .snap rows,h=> .snap rows (Gj rows (by grind [xB]))
 | .cH rows i o,h=> .cH rows i o (Gj rows (by grind [xB]))
 | .fn f xs ys,h=>by
   simp only[xB,jF]at h;exact .fn f xs ys (NL xs h.1) (NL ys h.2)
 | .own ..,h=>by grind [xB]
 | .sub ..,h=>by grind [xB]
 | .ptr ..,h=>by grind [xB]
 | .omap ..,h=>by grind [xB]
 | .jT ..,h=>by grind [xB]
theorem NL:∀xs,GF xs=true->∀x∈xs,bF x
 |[],_,x,hx=>by cases hx
 |y::r,h,x,hx=>by
  simp only[GF,jF]at h;rcases dJ.1 hx with h1|h1
  ·rw[h1];exact Wu y h.1
  ·exact NL r h.2 x h1
theorem Gj:∀rows,SH rows=true->∀row∈rows,∀x∈row,bF x
 |[],_,row,hx=>by cases hx
 |y::r,h,row,hx=>by
  simp only[SH,jF]at h;rcases dJ.1 hx with h1|h1
  ·rw[h1];exact NL y h.1
  ·exact Gj r h.2 row h1
end
end Go.AL
namespace Go.AL
open Go.RowKit
def xG(aF:Nat):AV->AV
 | .own _ o n=> .own aF o n
 |a=>a
def p9(aF:Nat):AV->AV
 | .aK xs=> .aK (xs.map (xG aF))
 |a=>xG aF a
def JY(a:AV):Prop:=(∃o n,a= .own 0 o n)\/bF a
def EZ(a:AV):Prop:=JY a\/∃xs,a= .aK xs/\∀x∈xs,JY x
def EO(b0 k:Nat)(L:Nat->Nat):Env:=⟨fun _=>b0,fun _=>k,fun id=>id=0,L⟩
def rP(P:Program)(n:FuncId)(args:List AV)(a:AV)(el:TypeId)(k:Nat)(rows:List (List AV))(ap:Bool):Prop:=
 sB P n=true/\∀(L:Nat->Nat) (W:World) (vs:List Value),(∀b,W.heap.size<=b->L b=0)->bP (eZ L) W args vs->
  Calls P n vs.toArray W fun e W'=>∃v,e= .returned v/\EZ a/\(∀(i:Nat) row,rows[i]? =some row->row.length=k)/\∃(L':Nat->Nat) (b0:Nat) (cur:Array Value),Below W.heap.size W W'/\(∀b,b<W.heap.size->L' b=0)/\(∀b,W'.heap.size<=b->L' b=0)/\W.heap.size<=b0/\L' b0=0/\
   W'.heap[b0]? =some (Obj.cells cur el (0,0))/\rows.length*k<=cur.size/\(∀(i j:Nat) row x,rows[i]? =some row->row[j]? =some x->∃u,cur[i*k+j]? =some u/\RV (eZ L') W' x u)/\RV (EO b0 k L') W' a v
theorem JZ{b0 k aF:Nat}{L':Nat->Nat}{E':Env}{W':World}(eV:E'.ι aF=b0)(hs:E'.sz aF=k)(hU:E'.U aF)(hL:∀b,L' b<=E'.L b){a:AV}{v:Value}(h:JY a)(r:RV (EO b0 k L') W' a v):RV E' W' (xG aF a) v:=by
 rcases h with⟨o,n,rfl⟩|h
 ·cases r with
  |own _ _ _ cap aC eI dO=>
   have:=RV.own (E:=E') (W:=W') aF o n cap hU eI (by rw[eV,hs];exact dO)
   rw[eV,hs]at this;exact this
  |mB _ _ a aC=>exact .mB _ _ _ hU
 ·have h1:RV (eZ L') W' a v:=r.pI (fun _=>cA _) h
  have h2:xG aF a=a:=by cases h<;>rfl
  rw[h2];exact h1.EE hL
theorem bx9{b0 k aF:Nat}{L':Nat->Nat}{E':Env}{W':World}(eV:E'.ι aF=b0)(hs:E'.sz aF=k)(hU:E'.U aF)(hL:∀b,L' b<=E'.L b){a:AV}{v:Value}(h:EZ a)(r:RV (EO b0 k L') W' a v):RV E' W' (p9 aF a) v:=by
 have XH:∀xs,a= .aK xs->(∀x∈xs,JY x)->RV E' W' (p9 aF a) v:=fun xs he hx=>by
  subst he;cases r with
  |aK _ vs hl hr=>
  refine .aK _ vs (by grind) fun i x v nO hv=> ?_
  rw[kJ]at nO
  obtain⟨y,hy,rfl⟩:∃y,xs[i]? =some y/\xG aF y=x:=by
   grind
  grind [JZ]
 rcases h with h|⟨xs,rfl,hx⟩
 ·have h0:=h
  rcases h with⟨o,n,rfl⟩|h
  ·exact JZ eV hs hU hL h0 r
  ·cases h with
   |aK xs h=>exact XH xs rfl fun x hx=> .inr (h x hx)
   |c x=>exact JZ eV hs hU hL h0 r
   |agg xs h=>exact JZ eV hs hU hL h0 r
   |snap rows h=>exact JZ eV hs hU hL h0 r
   |cH rows i o h=>exact JZ eV hs hU hL h0 r
   |fn f x y h h2=>exact JZ eV hs hU hL h0 r
 grind
theorem rP.run{P:Program}{n:FuncId}{bW args:List AV}{a:AV}{el:TypeId}{k:Nat}{rows:List (List AV)}{ap:Bool}{G:Nat->Option aI}(kk:Nat)(h:rP P n args a el k rows ap)(he:bW.map (bJ G kk)=args)(ha:∀a∈args,bF a){E:Env}{W:World}{H:Heap}{aF:Nat}(gT:¬E.U aF)(hH:RH E W H)(hG:RC E W G){vs:List Value}(hr:bP E W bW vs):
  Calls P n vs.toArray W fun e W'=>∃v,e= .returned v/\∃E',bE E W E' W'/\RC E' W' (aY H.get [(aF,some (.cells el k rows true ap))])/\RV E' W' (p9 aF a) v/\∀id,E'.U id->E.U id\/id=aF:=by
 obtain⟨_,h⟩:=h
 have dO:∀b,W.heap.size<=b->max (E.L b) (match W.heap[b]? with|some (.cells cur _ _)=>cur.size|_=>0)=0:=fun b hb=>by
  rw[hH.core.lim b hb,OW hb];rfl
 refine(h (fun b=>max (E.L b) (match W.heap[b]? with|some (.cells cur _ _)=>cur.size|_=>0)) W vs dO ?_).mono fun e W' ⟨v,qR,eC,hlen,L',b0,cur,hb,h2,h3,D5,hLb,cV,hle,fO,h4⟩=> ?_
 ·subst he
  refine⟨by simpa using hr.1,fun i x v hx hv=> ?_⟩
  have fM:=ha x (fJ hx);rw[kJ]at hx;obtain⟨y,hy,rfl⟩:=map_some hx;refine JU hG (fun b=>Nat.le_max_left _ _) (fun id hU cur e f hc=> ?_) kk (hr.2 i y v hy hv) fM
  grind
 ·subst qR
  have bG:∀b k,k<E.L b->b<W.heap.size:=fun b k hk=>by
   grind
  have cc9:b0<W'.heap.size:=(k7.1 cV).1
  let E':Env:=⟨fun id=>if id=aF then b0 else E.ι id,fun id=>if id=aF then k else E.sz id,fun id=>E.U id\/id=aF,fun b=>if b<W.heap.size then E.L b else L' b⟩
  have eV:∀id,E.U id->E'.ι id=E.ι id:=fun id aC=>by
   grind
  have hs:∀id,E.U id->E'.sz id=E.sz id:=fun id aC=>by
   grind
  have iD:E'.ι aF=b0:=by show(if aF=aF then _ else _)=_;rw[if_pos rfl]
  have eR:E'.sz aF=k:=by show(if aF=aF then _ else _)=_;rw[if_pos rfl]
  have SG:∀b,b<W.heap.size->E'.L b=E.L b:=fun b hb=>if_pos hb
  have hL3:∀b,W.heap.size<=b->E'.L b=L' b:=fun b hb=>if_neg oM
  have Wv:∀b,L' b<=E'.L b:=fun b=>by
   grind
  have pF:E'.L b0=0:=by rw[hL3 b0 D5];exact hLb
  have vP:bE E W E' W':=by
   refine⟨hb.os,hb.tape,hb.output,hb.size,fun _ h=> .inl h,fun id aC=>⟨eV id aC,hs id aC⟩,fun b=> ?_,fun b k hk=>hb.cell (p:=⟨b,k,none⟩) (bG b k hk),fun b cE _=>hb.block b cE,fun b cur e f hc=> ?_,fun b cE _=>SG b cE,fun id h1 h2=> ?_,fun b r h=>⟨r,by rw[hb.block b (k7.1 h).1];exact h,rfl⟩⟩
   ·grind
   ·exact⟨cur,f,by rw[hb.block b (k7.1 hc).1];exact hc,rfl⟩
   ·grind
  have wP:∀id,E.U id->E'.ι id≠b0:=fun id aC heq=>by
   rw[eV id aC]at heq;have:=hH.core.eJ id aC;omega
  refine⟨v,rfl,E',vP,⟨fun b cE=> ?_,fun id aC=> ?_,fun id b hg=> ?_⟩,bx9 iD eR (.inr rfl) Wv eC h4,fun id h=>h⟩
  ·grind
  ·rcases aC with aC|aC
   ·rw[eV id aC];exact tX (hH.core.eJ id aC) hb.size
   grind
  ·simp only[aY]at hg
   by_cases aC:id=aF
   ·subst aC
    rw[if_pos rfl]at hg;injection hg with hg
    subst hg;refine⟨.inr rfl,eR,hlen,⟨cur,by grind,hle,fun i' j row x h1 h2=> ?_⟩,fun _=>⟨by grind,fun aL b' aT dR heq=> ?_⟩,fun _=>⟨by grind,fun aL b' aT dR heq=> ?_⟩⟩
    ·obtain⟨u,h3,h4⟩:=fO i' j row x h1 h2
     exact⟨u,h3,h4.EE Wv⟩
    ·rw[iD]at heq
     simp only[aY,if_neg aT]at dR;exact wP aL (hH.core.ok aL b' dR).1 heq
    ·rw[iD]at heq
     simp only[aY,if_neg aT]at dR;exact absurd heq (wP aL (hH.core.ok aL b' dR).1)
   ·rw[if_neg aC]at hg
    obtain⟨hU,eC⟩:=hH.core.ok id b hg;have sV:=hH.core.eJ id hU;refine⟨.inl hU,eC.mono vP hU (hb.block _ sV) (SG _ sV) fun aL b' aT dR heq=> ?_⟩
    simp only[aY]at dR
    grind
def CP(G:Nat->Option aI)(kk j:Nat)(x:AV):Option AV:=
 if fresh G kk x&&xB (bJ G kk x)&& !(gK G kk x).contains j then some (bJ G kk x)else none
def GG(G:Nat->Option aI)(kk j:Nat):AV->Option AV
 | .own i o n=>cond (Nat.beq i j) (some (.own 0 o n)) (CP G kk j (.own i o n))
 |x=>CP G kk j x
def SI(G:Nat->Option aI)(kk j:Nat):List AV->Option (List AV)
 |[]=>some []
 |x::r=>match GG G kk j x,SI G kk j r with
  |some a,some l=>some (a::l)
  |_,_=>none
def XI(G:Nat->Option aI)(kk j:Nat):AV->Option AV
 | .aK xs=>match SI G kk j xs with
   |some l=>some (.aK l)
   |none=>none
 |a=>GG G kk j a
def Ww:List AV->Option Nat
 |[]=>none
 | .own j _ _::_=>some j
 |_::r=>Ww r
def Wx:AV->Option Nat
 | .own j _ _=>some j
 | .aK xs=>Ww xs
 |_=>none
def GH(G:Nat->Option aI)(kk j:Nat):List AV->Option (List AV)
 |[]=>some []
 |x::r=>match CP G kk j x,GH G kk j r with
  |some a,some l=>some (a::l)
  |_,_=>none
def K0(G:Nat->Option aI)(kk j:Nat):List (List AV)->Option (List (List AV))
 |[]=>some []
 |x::r=>match GH G kk j x,K0 G kk j r with
  |some a,some l=>some (a::l)
  |_,_=>none
structure FO where
 a:AV
 el:TypeId
 k:Nat
 rows:List (List AV)
 ap:Bool
def Gk(G:Nat->Option aI)(kk j:Nat)(r:AV):Option aI->Option FO
 |some (.cells el k k6 true ap)=>match K0 G kk j k6,XI G kk j r with
  |some rows,some a=>some ⟨a,el,k,rows,ap⟩
  |_,_=>none
 |_=>none
def Gl(G:Nat->Option aI)(kk:Nat)(r:AV):Option FO:=
 match Wx r with
 |some j=>Gk G kk j r (G j)
 |none=>none
section
variable {G : Nat -> Option aI} {kk j : Nat}
theorem Wy{x y:AV}(h:CP G kk j x=some y):y=bJ G kk x/\fresh G kk x=true/\bF y/\j∉gK G kk x:=by
 unfold CP at h;split at h
 ·simp_all [Wu]
 ·cases h
theorem Gm:∀{xs ys:List AV},GH G kk j xs=some ys->ys.length=xs.length/\∀(i:Nat) y,ys[i]? =some y->∃x,xs[i]? =some x/\CP G kk j x=some y
 |[],ys,h=>by simp_all [GH]
 |x::r,ys,h=>by
  simp only[GH]at h;split at h
  ·rename_i a l ha hl
   injection h with h
   subst h;obtain⟨h1,h2⟩:=Gm hl
   grind
  ·cases h
theorem XJ:∀{xs ys:List (List AV)},K0 G kk j xs=some ys->ys.length=xs.length/\∀(i:Nat) y,ys[i]? =some y->∃x,xs[i]? =some x/\GH G kk j x=some y
 |[],ys,h=>by simp_all [K0]
 |x::r,ys,h=>by
  simp only[K0]at h;split at h
  ·rename_i a l ha hl
   injection h with h
   subst h;obtain⟨h1,h2⟩:=XJ hl
   grind
  ·cases h
theorem XK:∀{xs ys:List AV},SI G kk j xs=some ys->ys.length=xs.length/\∀(i:Nat) y,ys[i]? =some y->∃x,xs[i]? =some x/\GG G kk j x=some y
 |[],ys,h=>by simp_all [SI]
 |x::r,ys,h=>by
  simp only[SI]at h;split at h
  ·rename_i a l ha hl
   injection h with h
   subst h;obtain⟨h1,h2⟩:=XK hl
   grind
  ·cases h
theorem Wz{x y:AV}(h:GG G kk j x=some y):(∃o n,x= .own j o n/\y= .own 0 o n)\/CP G kk j x=some y:=by
 unfold GG at h;split at h
 ·rename_i i o n
  cases hb:Nat.beq i j with
  |true=>
   rw[hb]at h;have:=Nat.eq_of_beq_eq_true hb
   grind
  |false=>grind
 grind
theorem Xa{x y:AV}(h:GG G kk j x=some y):JY y:=by
 rcases Wz h with⟨o,n,_,rfl⟩|h
 ·exact .inl ⟨o,n,rfl⟩
 ·exact .inr (Wy h).2.2.1
end
theorem by2(kk:Nat){P:Program}{n:FuncId}{fn:Func}{c:Code}{args:List AV}{f:FO}(hf:P.funcs[n]? =some fn)(hb:fn.body=some c)(eW:(fn.name== "runtime.NumGoroutine")=false)(hlen:args.length<=fn.ntmps)
  (hA:fW P n args ⟨0,bN []⟩ fun r H'=>Gl H'.get kk r=some f):rP P n args f.a f.el f.k f.rows f.ap:=by
 refine⟨hA.1,fun L W vs hL hr=> ?_⟩
 have kI:RH (eZ L) W ⟨0,bN []⟩:=⟨fun id h=>h.elim,hL,fun id h=>h.elim,fun id b h=>by cases h⟩
 refine(hA.2 (eZ L) W vs kI hr).mono fun e W' ⟨v,he,E',r,H',hv,hH,iP,h⟩=> ?_
 simp only[]at h;unfold Gl at h;split at h
 case h_2=>cases h
 rename_i j hj;unfold Gk at h;split at h
 case h_2=>cases h
 rename_i el k k6 ap hg;split at h
 case h_2=>cases h
 rename_i rows a fA ha;injection h with h
 subst h;obtain⟨hU,mZ,Ey,⟨cur,cV,hle,fO⟩,hw,_⟩:=hH.core.ok j _ hg;obtain⟨pF,cd0⟩:=hw rfl
 have nU:∀id,E'.U id->W.heap.size<=E'.ι id:=fun id aC=>by
  rcases hv.fresh id (fun h=>h) aC with h1|⟨sS,h1,_⟩
  ·exact h1
  ·exact h1.elim
 let L':Nat->Nat:=fun b=>if b<W.heap.size then 0 else if b=E'.ι j then 0 else(match W'.heap[b]? with|some (.cells cur _ _)=>cur.size|_=>0)
 have hLj:L' (E'.ι j)=0:=by
  show(if _ then 0 else if _ then 0 else _)=0
  rw[if_pos rfl];split<;>rfl
 have by4:∀{x y u},CP H'.get kk j x=some y->RV E' W' x u->RV (eZ L') W' y u:=fun{x y u} hd hx=>by
  obtain⟨rfl,JX,_,hnj⟩:=Wy hd;refine SF hH.core kk (fun id aC hs BX EA e2 f2 pR=> ?_) hx JX
  have aT:id≠j:=fun h=>hnj (h▸aC)
  obtain⟨b',cE⟩:=YD.1 hs
  grind
 have cd1:∀{x y u},GG H'.get kk j x=some y->RV E' W' x u->RV (EO (E'.ι j) k L') W' y u:=fun{x y u} hd hx=>by
  rcases Wz hd with⟨o,n,rfl,rfl⟩|hd
  ·rcases(uJ hx).2 with⟨cap,rfl,eI,EA,e2,f2,h4,h5⟩|⟨mX,a,rfl⟩
   ·have:=RV.own (E:=EO (E'.ι j) k L') (W:=W') 0 o n cap rfl eI ⟨EA,e2,f2,h4,by rw[mZ]at h5;exact h5⟩
    rw[mZ];exact this
   ·subst mX;exact .mB _ _ _ rfl
  ·exact(by4 hd hx).EE fun _=>cA _
 have eC:EZ a/\(∀(i:Nat) row,rows[i]? =some row->row.length=k):=by
  refine⟨?_,fun i row hi=> ?_⟩
  ·unfold XI at ha
   split at ha
   ·rename_i xs
    split at ha
    ·rename_i l hl
     injection ha with ha
     subst ha;refine .inr ⟨l,rfl,fun x hx=> ?_⟩
     obtain⟨i,hi⟩:=CT.1 hx;obtain⟨y,_,h2⟩:=(XK hl).2 i x hi;exact Xa h2
    ·cases ha
   ·exact .inl (Xa ha)
  ·grind [XJ,Gm]
 refine⟨v,he,eC.1,eC.2,L',E'.ι j,cur,⟨hv.os,hv.tape,hv.output,hv.size,fun k hk=>hv.rJ k hk fun id h=>h.elim⟩,fun b cE=>if_pos cE,fun b cE=> ?_,nU j hU,hLj,cV,by grind [XJ],fun i j' row x h1 h2=> ?_,?_⟩
 ·grind
 ·grind [XJ,Gm]
 ·simp only[]
  unfold XI at ha;split at ha
  ·rename_i xs
   split at ha
   ·rename_i l hl
    injection ha with ha
    subst ha;cases iP with
    |aK _ vs' wX cG=>
    refine .aK _ vs' (by grind [XK]) fun i y u hy hu=> ?_
    grind [XK]
   ·cases ha
  grind
def XL:Option aI->Bool
 |some (.cells _ _ _ w _)=>w
 |_=>false
theorem by7{b:Option aI}(h:XL b=false):qU b=b:=by
 unfold XL at h;split at h
 ·subst h;rfl
 simp_all [qU]
theorem Gn(F:Nat->Option aI):∀(ids:List Nat) (G:Nat->Option aI) (k:Nat),aY G (ids.map fun id=>(id,F id)) k=if k∈ids then F k else G k
 |[],G,k=>by simp[aY]
 |i::r,G,k=>by
  simp only[qE,aY];rw[Gn F r]
  grind
theorem by8(ids:List Nat)(G:Nat->Option aI):wA G ids=aY G ((ids.filter fun id=>XL (G id)).map fun id=>(id,qU (G id))):=by
 rw[XE]
 funext k
 rw[Gn (fun id=>qU (G id)),Gn (fun id=>qU (G id))]
 grind [by7]
end Go.AL
namespace Go.AL
open Go.RowKit
def wJ(P:Program)(n:FuncId)(args:List AV)(a:AV)(e:TypeId)(k:Nat)(rows:List (List AV)):Prop:=
 sB P n=true/\∀(E:Env) (W:World) (G:Nat->Option aI) (aF:Nat) (vs:List Value),RC E W G->¬E.U aF->bP E W args vs->
  Calls P n vs.toArray W fun x W'=>∃v,x= .returned v/\∃E',bE E W E' W'/\RC E' W' (aY G [(aF,some (.cells e k rows true true))])/\RV E' W' (p9 aF a) v/\∀id,E'.U id->E.U id\/id=aF
theorem K3{E1 E':Env}{W':World}{i aF:Nat}(eV:E'.ι aF=E1.ι i)(hs:E'.sz aF=E1.sz i)(hU:E'.U aF)(fM:∀{x u},RV E1 W' x u->bF x->RV E' W' x u){a:AV}{v:Value}(h:JY a)(r:RV E1 W' (xG i a) v):RV E' W' (xG aF a) v:=by
 rcases h with⟨o,n,rfl⟩|h
 ·cases r with
  |own _ _ _ cap aC eI dO=>
   have:=RV.own (E:=E') (W:=W') aF o n cap hU eI (by rw[eV,hs];exact dO)
   rw[eV,hs]at this;exact this
  |mB _ _ a aC=>exact .mB _ _ _ hU
 ·have h1:xG i a=a:=by cases h<;>rfl
  have h2:xG aF a=a:=by cases h<;>rfl
  rw[h1]at r;rw[h2];exact fM r h
theorem by9{E1 E':Env}{W':World}{i aF:Nat}(eV:E'.ι aF=E1.ι i)(hs:E'.sz aF=E1.sz i)(hU:E'.U aF)(fM:∀{x u},RV E1 W' x u->bF x->RV E' W' x u){a:AV}{v:Value}(h:EZ a)(r:RV E1 W' (p9 i a) v):RV E' W' (p9 aF a) v:=by
 have XH:∀xs,a= .aK xs->(∀x∈xs,JY x)->RV E' W' (p9 aF a) v:=fun xs he hx=>by
  subst he;cases r with
  |aK _ vs hl hr=>
  refine .aK _ vs (by simpa using hl) fun j x v nO hv=> ?_
  rw[kJ]at nO
  obtain⟨y,hy,rfl⟩:∃y,xs[j]? =some y/\xG aF y=x:=by
   cases hq:xs[j]? with
   |none=>rw[hq]at nO;cases nO
   |some y=>rw[hq]at nO;exact⟨y,rfl,by simpa using nO⟩
  exact K3 eV hs hU fM (hx y (fJ hy)) (hr j (xG i y) v (by rw[kJ,hy];rfl) hv)
 rcases h with h|⟨xs,rfl,hx⟩
 ·have h0:=h
  rcases h with⟨o,n,rfl⟩|h
  ·exact K3 eV hs hU fM h0 r
  ·cases h with
   |aK xs h=>exact XH xs rfl fun x hx=> .inr (h x hx)
   |c x=>exact K3 eV hs hU fM h0 r
   |agg xs h=>exact K3 eV hs hU fM h0 r
   |snap rows h=>exact K3 eV hs hU fM h0 r
   |cH rows i o h=>exact K3 eV hs hU fM h0 r
   |fn f x y h h2=>exact K3 eV hs hU fM h0 r
 ·exact XH xs rfl hx
theorem wJ.run{P:Program}{n:FuncId}{args:List AV}{a:AV}{e:TypeId}{k:Nat}{rows:List (List AV)}(h:wJ P n args a e k rows){H:Heap}:
  fW P n args H fun r H'=>r=p9 H.next a/\H'=⟨H.next+1,aY H.get [(H.next,some (.cells e k rows true true))]⟩:=
 ⟨h.1,fun E W vs hH hr=>(h.2 E W H.get H.next vs hH.core (fun hU=>KK _ (hH.next _ hU)) hr).mono fun x W' ⟨v,he,E',h1,h2,h3,h4⟩=>
   ⟨v,he,E',_,_,h1,⟨fun id aC=>by
     rcases h4 id aC with h5|h5
     ·exact OT (hH.next id h5)
     ·subst h5;exact KL _,h2⟩,h3,rfl,rfl⟩⟩
end Go.AL
namespace Go.AL
open Go.RowKit
structure Entry where
 c:Bool
 a:AV
 wr:List (Nat×Option aI)
 rd:List Nat
def l9(ops:List Oper)(o:Oper)(σ:AS)(c:Bool):Prop:=
 match o.guard with
 |none=>c=true
 |some (j,want)=>nQ (nA ops j σ.env) want=some c
def xR(P:Program)(n:FuncId)(args:List AV)(id:Nat)(p6:TypeId)(k0:Nat)(k6:List (List AV))(el:TypeId)(k:Nat)(rows:List (List AV)):Prop:=
 sB P n=true/\∀(E:Env) (W:World) (G:Nat->Option aI) (aF:Nat) (vs:List Value),RC E W G->G id=some (.cells p6 k0 k6 true true)->¬E.U aF->bP E W args vs->
  Calls P n vs.toArray W fun e W'=>∃v,e= .returned v/\∃E',bE E W E' W'/\RC E' W' (aY G [(id,none),(aF,some (.cells el k rows true true))])/\RV E' W' (.own aF 0 rows.length) v/\∀aL,E'.U aL->E.U aL\/aL=aF
theorem bz0(G:Nat->Option aI)(a b:List (Nat×Option aI)):aY G (a++b)=aY (aY G a) b:=by
 induction a generalizing G with
 |nil=>rfl
 |cons x a ih=>exact ih _
inductive B0 (P:Program) (ops:List Oper) (o:Oper) (σ:AS) (aF:Nat) (e:Entry):Prop
 |call (f:Operand) (as:Array Operand) (ts:Array TypeId) (n:FuncId) (args:List AV) (aS:o.op= .call ⟨.value f,as,ts⟩) (hg:l9 ops o σ e.c) (hc:fN (σ.get e.c f) (dN (σ.get e.c) as.toList)=some (n,args))
   (hp:e.c=true->(∀a∈args,bF a)/\eA P n args (·=e.a)) (hw:e.wr=[])
 |pick (x0 x y:Operand) (b p q:Bool) (aS:o.op= .pick x0 x y) (hg:l9 ops o σ e.c) (hb:jL (σ.get e.c x0)=some b) (w9:yD (jL (σ.get (e.c&&b) x)) (jL (σ.get (e.c&& !b) y))=some (p,q)) (ha:e.a= .c (.bool (cond b p q))) (hw:e.wr=[])
 |NA (f:Operand) (as:Array Operand) (ts:Array TypeId) (n:FuncId) (args:List AV) (el:TypeId) (k:Nat) (rows:List (List AV)) (aS:o.op= .call ⟨.value f,as,ts⟩) (hg:l9 ops o σ e.c) (fV:e.c=true) (hc:fN (σ.get true f) (dN (σ.get true) as.toList)=some (n,args))
   (hp:r5 P n args el k rows) (ha:e.a= .own aF 0 rows.length) (hw:e.wr=[(aF,some (.cells el k rows true true))])
 |XM (f:Operand) (as:Array Operand) (ts:Array TypeId) (n:FuncId) (args:List AV) (id:Nat) (p6:TypeId) (k0:Nat) (k6:List (List AV)) (el:TypeId) (k:Nat) (rows:List (List AV)) (aS:o.op= .call ⟨.value f,as,ts⟩) (hg:l9 ops o σ e.c) (fV:e.c=true) (hc:fN (σ.get true f) (dN (σ.get true) as.toList)=some (n,args))
   (oB:σ.H.get id=some (.cells p6 k0 k6 true true)) (hp:xR P n args id p6 k0 k6 el k rows) (ha:e.a= .own aF 0 rows.length) (hw:e.wr=[(id,none),(aF,some (.cells el k rows true true))]) (iW:id∈e.rd)
 |XN (f:Operand) (as:Array Operand) (ts:Array TypeId) (n:FuncId) (args:List AV) (a:AV) (el:TypeId) (k:Nat) (rows:List (List AV)) (aS:o.op= .call ⟨.value f,as,ts⟩) (hg:l9 ops o σ e.c) (fV:e.c=true) (hc:fN (σ.get true f) (dN (σ.get true) as.toList)=some (n,args))
   (hp:wJ P n args a el k rows) (ha:e.a=p9 aF a) (hw:e.wr=[(aF,some (.cells el k rows true true))])
 |X7 (f:Operand) (as:Array Operand) (ts:Array TypeId) (n:FuncId) (bW args:List AV) (aS:o.op= .call ⟨.value f,as,ts⟩) (hg:l9 ops o σ e.c) (fV:e.c=true) (hc:fN (σ.get true f) (dN (σ.get true) as.toList)=some (n,bW))
   (he:bW.map (nE σ.H.get)=args) (fM:∀a∈args,bF a) (hp:eA P n args (·=e.a)) (hw:e.wr=((l8 oJ bW).map fun id=>(id,qU (σ.H.get id)))\/e.wr=((l8 oJ bW).filter fun id=>XL (σ.H.get id)).map fun id=>(id,qU (σ.H.get id))) (iW:∀id∈l8 oJ bW,id∈e.rd)
 |XO (f:Operand) (as:Array Operand) (ts:Array TypeId) (n:FuncId) (bW args:List AV) (el:TypeId) (k:Nat) (rows:List (List AV)) (aS:o.op= .call ⟨.value f,as,ts⟩) (hg:l9 ops o σ e.c) (fV:e.c=true) (hc:fN (σ.get true f) (dN (σ.get true) as.toList)=some (n,bW))
   (he:bW.map (nE σ.H.get)=args) (hp:r5 P n args el k rows) (ha:e.a= .own aF 0 rows.length) (hw:e.wr=((l8 oJ bW).map fun id=>(id,qU (σ.H.get id)))++[(aF,some (.cells el k rows true true))]) (iW:∀id∈l8 oJ bW,id∈e.rd)
 |K4 (f:Operand) (as:Array Operand) (ts:Array TypeId) (n:FuncId) (bW args:List AV) (k:Nat) (aS:o.op= .call ⟨.value f,as,ts⟩) (hg:l9 ops o σ e.c) (fV:e.c=true) (hc:fN (σ.get true f) (dN (σ.get true) as.toList)=some (n,bW))
   (he:bW.map (bJ σ.H.get k)=args) (fM:∀a∈args,bF a) (hp:nJ P n args e.a) (hw:e.wr=[]) (iW:∀x∈bW,∀id∈gK σ.H.get k x,id∈e.rd)
 |XP (f:Operand) (as:Array Operand) (ts:Array TypeId) (n:FuncId) (bW args:List AV) (kk:Nat) (a:AV) (el:TypeId) (k:Nat) (rows:List (List AV)) (ap:Bool) (aS:o.op= .call ⟨.value f,as,ts⟩) (hg:l9 ops o σ e.c) (fV:e.c=true) (hc:fN (σ.get true f) (dN (σ.get true) as.toList)=some (n,bW))
   (he:bW.map (bJ σ.H.get kk)=args) (fM:∀a∈args,bF a) (hp:rP P n args a el k rows ap) (ha:e.a=p9 aF a) (hw:e.wr=[(aF,some (.cells el k rows true ap))]) (iW:∀x∈bW,∀id∈gK σ.H.get kk x,id∈e.rd)
 |skip (hg:l9 ops o σ e.c) (hc:e.c=false) (hw:e.wr=[])
 |res (hg:l9 ops o σ e.c) (hr:res P (σ.get e.c) σ.H.get aF o=some (e.a,e.wr,e.rd)) (hw:e.wr=[]\/e.c=true)
def AS.app(σ:AS)(dst:Option Tmp)(e:Entry):AS:=({σ with H:=⟨σ.H.next,aY σ.H.get e.wr⟩}:AS).put dst e.c e.a
section
variable {P : Program} {ops : Array Oper} {o : Oper} {σ aN : AS} {aF : Nat} {e : Entry}
theorem get_congr{c:Bool}{x:Operand}(h:∀t,x= .tmp t->lk aN.env t=lk σ.env t):aN.get c x=σ.get c x:=by
 cases x with
 |tmp t=>simp only[AS.get,h t rfl]
 |_=>rfl
theorem B4{c:Bool}(h:l9 ops.toList o σ c)(ha:∀t∈o.looksAt ops,lk aN.env t=lk σ.env t):l9 ops.toList o aN c:=by
 unfold l9 at h⊢;split at h
 ·exact h
 ·rename_i j want hg
  rw[<-h];congr 1;unfold nA
  grind [Oper.looksAt]
theorem B0.congr(h:B0 P ops.toList o σ aF e)(ha:∀t∈o.looksAt ops,lk aN.env t=lk σ.env t)(hr:∀id∈e.rd,aN.H.get id=σ.H.get id):B0 P ops.toList o aN aF e:=by
 have dQ:∀c,∀x∈o.op.operands,aN.get c x=σ.get c x:=fun c x hx=>get_congr fun t ht=>by
  subst ht;refine ha t ?_;unfold Oper.looksAt;exact GQ _ (List.mem_filterMap.2 ⟨.tmp t,by grind,rfl⟩)
 cases h with
 |call f as ts n args aS hg hc hp hw=>
  refine .call f as ts n args aS (B4 hg ha) ?_ hp hw
  grind [Op.operands,Call.operands,CO]
 |pick x0 x y b p q aS hg hb w9 he hw=>
  refine .pick x0 x y b p q aS (B4 hg ha) ?_ ?_ he hw
  ·grind [Op.operands]
  grind [Op.operands]
 |X7 f as ts n bW args aS hg fV hc he fM hp hw iW=>
  refine .X7 f as ts n bW args aS (B4 hg ha) fV ?_ ?_ fM hp ?_ iW
  ·grind [Op.operands,Call.operands,CO]
  ·grind [Gg]
  grind [List.map_congr_left,List.filter_congr]
 |XO f as ts n bW args el k rows aS hg fV hc he hp sD hw iW=>
  refine .XO f as ts n bW args el k rows aS (B4 hg ha) fV ?_ ?_ hp sD ?_ iW
  ·grind [Op.operands,Call.operands,CO]
  ·grind [Gg]
  simp_all
 |NA f as ts n args el k rows aS hg fV hc hp sD hw=>
  refine .NA f as ts n args el k rows aS (B4 hg ha) fV ?_ hp sD hw
  grind [Op.operands,Call.operands,CO]
 |XM f as ts n args id p6 k0 k6 el k rows aS hg fV hc oB hp sD hw iW=>
  refine .XM f as ts n args id p6 k0 k6 el k rows aS (B4 hg ha) fV ?_ (by grind) hp sD hw iW
  grind [Op.operands,Call.operands,CO]
 |XN f as ts n args a el k rows aS hg fV hc hp sD hw=>
  refine .XN f as ts n args a el k rows aS (B4 hg ha) fV ?_ hp sD hw
  grind [Op.operands,Call.operands,CO]
 |K4 f as ts n bW args k aS hg fV hc he fM hp hw iW=>
  refine .K4 f as ts n bW args k aS (B4 hg ha) fV ?_ ?_ fM hp hw fun x hx id aC=> ?_
  ·grind [Op.operands,Call.operands,CO]
  ·grind [List.map_congr_left,XG]
  ·rw[Gh k x fun id aC=>hr id (iW x hx id aC)]at aC
   grind
 |XP f as ts n bW args kk a el k rows ap aS hg fV hc he fM hp sD hw iW=>
  refine .XP f as ts n bW args kk a el k rows ap aS (B4 hg ha) fV ?_ ?_ fM hp sD hw fun x hx id aC=> ?_
  ·grind [Op.operands,Call.operands,CO]
  ·grind [List.map_congr_left,XG]
  ·rw[Gh kk x fun id aC=>hr id (iW x hx id aC)]at aC
   grind
 |skip hg hc hw=>exact .skip (B4 hg ha) hc hw
 |res hg kQ hw=>exact .res (B4 hg ha) (bx3 kQ (dQ e.c) hr) hw
theorem B5{E:Env}{W:World}{act:Act}(hr:Rel E W σ act){c:Bool}(h:l9 ops.toList o σ c):Region.wanted o (yielded ops act.tmps)=c:=by
 unfold l9 at h;split at h
 ·grind [Region.wanted]
 ·rename_i j want hg
  obtain⟨c',b,hb,rfl⟩:=Uy h
  obtain⟨t,ht,qJ⟩:∃t,(ops[j]?).bind (·.dst)=some t/\lk σ.env t=some (c',.c (.bool b)):=by
   grind [nA]
  obtain⟨v,h1,h2,h3⟩:=hr.env t _ _ qJ
  have hy:yielded ops act.tmps j=if c'=true then some b else none:=by
   unfold yielded;rw[ht];simp only[Iv,h1];cases c'
   ·rw[h3 rfl];rfl
   ·have h4:=h2 rfl
    cases h4;rfl
  simp only[Region.wanted,hg,hy];cases c'<;>cases b<;>cases want<;>rfl
theorem B0.run(h:B0 P ops.toList o σ aF e)(hd:fS σ.nt o=true){E:Env}{W:World}{act:Act}(hr:Rel E W σ act)(gT:¬E.U aF)(bG:aF<σ.H.next){next:Act->World->Prop}{Q:Exit->Act->World->Prop}{ro:Option Nat}
  (hn:∀E' W' cK,eU E W act E' W' cK->Rel E' W' (σ.app o.dst e) cK->(∀id,E'.U id->E.U id\/id=aF)->next cK W'):
  if Region.wanted o (yielded ops act.tmps)=true then o.wpIn (l7 ro) 3 P act W next Q else next (act.put o.dst undef) W:=by
 have Gp:e.wr=[]->σ.app o.dst e=σ.put o.dst e.c e.a:=fun hw=>by unfold AS.app;rw[hw];rfl
 have skip:e.c≠true->e.wr=[]->next (act.put o.dst undef) W:=fun hc hw=>
  hn E W _ (eU.of (bE.refl E W) (Act.put_defers _ _ _)) (by rw[Gp hw];exact hr.put (nR hd) (fun h=>absurd h hc) (fun _=>rfl)) fun _ h=> .inl h
 cases h with
 |call f as ts n args aS hg hc hp hw=>
  rw[B5 hr hg];by_cases fV:e.c=true
  ·rw[if_pos fV]
   obtain⟨fM,hp⟩:=hp fV;obtain⟨first,cap,mC,hf,has,rfl⟩:=yC hc
   have h1:=hr.get fV hf;have h2:=uT (E:=E) (W:=W) (ρ:=act.eval) (fun x b hb=>hr.get fV hb) _ _ has
   generalize nD:act.eval f=fv at h1;cases h1 with
   |fn _ _ _ vf vc hl dG h3 h4=>
   have lE:bP E W (first++mC++cap) (vf.toList++as.toList.map act.eval++vc.toList):=by
    refine(bP.append ?_ h2).append ?_
    ·exact⟨oM,fun i x v hx hv=>h3 i x v hx (by grind)⟩
    ·exact⟨oM,fun i x v hx hv=>h4 i x v hx (by grind)⟩
   have eQ:(execOp act.eval o).run P W= .ok (.enter n (vf.toList++as.toList.map act.eval++vc.toList).toArray) W:=by
    simp only[execOp,aS,resolve,nD,Deferred.ofValue,Sem.run_bind,Sem.run_pure,Result.andThen_ok,invoke];rw[yE hp.1];congr 2;apply zT;simp
   refine⟨fun _ _=>trivial,?_⟩
   rw[Oper.semAt_eq _ _ _ (fun c h=>by grind),eQ]
   refine⟨yB,zK ((hp.run fM hr.heap lE).mono fun e' W' ⟨v,he,r,L',hv,hH,iP,Tq,hq⟩=> ?_)⟩
   subst he;subst hq;refine hn _ W' _ (eU.of hv (Act.put_defers _ _ _)) ?_ fun _ h=> .inl h
   rw[Gp hw];exact(hr.mono hv hH).put (dst:=o.dst) (nR hd) (c:=e.c) (fun _=>iP) (fun h=>by grind)
  grind
 |pick x0 x y b p q aS hg hb w9 he hw=>
  rw[B5 hr hg];by_cases fV:e.c=true
  ·rw[if_pos fV]
   obtain⟨hp,hq⟩:=Ff w9;have hp:=zL hp;have hq:=zL hq;refine RS fV aS (zL hb) (a:=e.a) (fun Fj=>⟨e.c&&b,by grind,?_⟩) (fun Fk=>⟨e.c&& !b,by grind,?_⟩) hd hr fun v bL=>hn E W _ (eU.of (bE.refl E W) (Act.put_defers _ _ _)) (by grind) fun _ h=> .inl h
   ·grind
   grind
  grind
 |X7 f as ts n bW args aS hg fV hc he fM hp hw iW=>
  rw[B5 hr hg,if_pos fV];obtain⟨first,cap,mC,hf,has,rfl⟩:=yC hc
  have h1:=hr.get rfl hf;have h2:=uT (E:=E) (W:=W) (ρ:=act.eval) (fun x b hb=>hr.get rfl hb) _ _ has
  generalize nD:act.eval f=fv at h1;cases h1 with
  |fn _ _ _ vf vc hl dG h3 h4=>
  have lE:bP E W (first++mC++cap) (vf.toList++as.toList.map act.eval++vc.toList):=by
   refine(bP.append ?_ h2).append ?_
   ·exact⟨oM,fun i x v hx hv=>h3 i x v hx (by grind)⟩
   ·exact⟨oM,fun i x v hx hv=>h4 i x v hx (by grind)⟩
  have eQ:(execOp act.eval o).run P W= .ok (.enter n (vf.toList++as.toList.map act.eval++vc.toList).toArray) W:=by
   simp only[execOp,aS,resolve,nD,Deferred.ofValue,Sem.run_bind,Sem.run_pure,Result.andThen_ok,invoke];rw[yE hp.1];congr 2;apply zT;simp
  refine⟨fun _ _=>trivial,?_⟩
  rw[Oper.semAt_eq _ _ _ (fun c h=>by grind),eQ]
  generalize first++mC++cap=bW at lE he hw iW
  obtain⟨L1,g1,g2,g3⟩:=SC (W:=W) (l8 oJ bW) hr.heap
  have SD:bP ⟨E.ι,E.sz,E.U,L1⟩ W args (vf.toList++as.toList.map act.eval++vc.toList):=by
   subst he;refine⟨by simpa using lE.1,fun i x v hx hv=> ?_⟩
   rw[kJ]at hx;obtain⟨y,hy,rfl⟩:=map_some hx;exact XD hr.heap.core g1 (lE.2 i y v hy hv) fun id aC=>g3 id (JS (fJ hy) aC)
  refine⟨yB,zK ((hp.run fM g2 SD).mono fun e' W' ⟨v,qR,r,L',h5,h6,h7,h8,h9⟩=> ?_)⟩
  subst qR;subst h9
  have kI:RH ⟨E.ι,E.sz,E.U,L'⟩ W' ⟨σ.H.next,aY σ.H.get e.wr⟩:=by
   rcases hw with hw|hw
   ·grind [XE]
   ·grind [by8]
  have bL:=(hr.mono (g1.trans h5) kI).put (dst:=o.dst) (nR hd) (c:=e.c) (a:=e.a) (fun _=>h7) (fun h=>by grind)
  exact hn _ W' _ (eU.of (g1.trans h5) (Act.put_defers _ _ _)) bL fun _ h=> .inl h
 |XO f as ts n bW args el k rows aS hg fV hc he hp sD hw iW=>
  rw[B5 hr hg,if_pos fV];obtain⟨first,cap,mC,hf,has,rfl⟩:=yC hc
  have h1:=hr.get rfl hf;have h2:=uT (E:=E) (W:=W) (ρ:=act.eval) (fun x b hb=>hr.get rfl hb) _ _ has
  generalize nD:act.eval f=fv at h1;cases h1 with
  |fn _ _ _ vf vc hl dG h3 h4=>
  have lE:bP E W (first++mC++cap) (vf.toList++as.toList.map act.eval++vc.toList):=by
   refine(bP.append ?_ h2).append ?_
   ·exact⟨oM,fun i x v hx hv=>h3 i x v hx (by grind)⟩
   ·exact⟨oM,fun i x v hx hv=>h4 i x v hx (by grind)⟩
  have eQ:(execOp act.eval o).run P W= .ok (.enter n (vf.toList++as.toList.map act.eval++vc.toList).toArray) W:=by
   simp only[execOp,aS,resolve,nD,Deferred.ofValue,Sem.run_bind,Sem.run_pure,Result.andThen_ok,invoke];rw[yE hp.1];congr 2;apply zT;simp
  refine⟨fun _ _=>trivial,?_⟩
  rw[Oper.semAt_eq _ _ _ (fun c h=>by grind),eQ]
  generalize first++mC++cap=bW at lE he hw iW
  obtain⟨L1,g1,g2,g3⟩:=SC (W:=W) (l8 oJ bW) hr.heap
  have SD:bP ⟨E.ι,E.sz,E.U,L1⟩ W args (vf.toList++as.toList.map act.eval++vc.toList):=by
   subst he;refine⟨by simpa using lE.1,fun i x v hx hv=> ?_⟩
   rw[kJ]at hx;obtain⟨y,hy,rfl⟩:=map_some hx;exact XD hr.heap.core g1 (lE.2 i y v hy hv) fun id aC=>g3 id (JS (fJ hy) aC)
  refine⟨yB,zK ((hp.2 ⟨E.ι,E.sz,E.U,L1⟩ W _ aF _ g2.core gT SD).mono fun e' W' ⟨v,qR,E',hv,hG,iP,hU⟩=> ?_)⟩
  subst qR
  have kI:RH E' W' ⟨σ.H.next,aY σ.H.get e.wr⟩:=⟨fun id aC=>by
   rcases hU id aC with h5|h5
   ·exact hr.heap.next id h5
   grind,by grind [bz0,XE]⟩
  have bL:=(hr.mono (g1.trans hv) kI).put (dst:=o.dst) (nR hd) (c:=e.c) (a:=e.a) (fun _=>by rw[sD];exact iP) (fun h=>by grind)
  exact hn E' W' _ (eU.of (g1.trans hv) (Act.put_defers _ _ _)) bL hU
 |NA f as ts n args el k rows aS hg fV hc hp sD hw=>
  rw[B5 hr hg,if_pos fV];obtain⟨first,cap,mC,hf,has,rfl⟩:=yC hc
  have h1:=hr.get rfl hf;have h2:=uT (E:=E) (W:=W) (ρ:=act.eval) (fun x b hb=>hr.get rfl hb) _ _ has
  generalize nD:act.eval f=fv at h1;cases h1 with
  |fn _ _ _ vf vc hl dG h3 h4=>
  have lE:bP E W (first++mC++cap) (vf.toList++as.toList.map act.eval++vc.toList):=by
   refine(bP.append ?_ h2).append ?_
   ·exact⟨oM,fun i x v hx hv=>h3 i x v hx (by grind)⟩
   ·exact⟨oM,fun i x v hx hv=>h4 i x v hx (by grind)⟩
  have eQ:(execOp act.eval o).run P W= .ok (.enter n (vf.toList++as.toList.map act.eval++vc.toList).toArray) W:=by
   simp only[execOp,aS,resolve,nD,Deferred.ofValue,Sem.run_bind,Sem.run_pure,Result.andThen_ok,invoke];rw[yE hp.1];congr 2;apply zT;simp
  refine⟨fun _ _=>trivial,?_⟩
  rw[Oper.semAt_eq _ _ _ (fun c h=>by grind),eQ]
  refine⟨yB,zK ((hp.2 E W σ.H.get aF _ hr.heap.core gT lE).mono fun e' W' ⟨v,he,E',hv,hG,iP,hU⟩=> ?_)⟩
  subst he
  have kI:RH E' W' ⟨σ.H.next,aY σ.H.get e.wr⟩:=⟨fun id aC=>by
   rcases hU id aC with h5|h5
   ·exact hr.heap.next id h5
   grind,by grind⟩
  have bL:=(hr.mono hv kI).put (dst:=o.dst) (nR hd) (c:=e.c) (a:=e.a) (fun _=>by rw[sD];exact iP) (fun h=>by grind)
  exact hn E' W' _ (eU.of hv (Act.put_defers _ _ _)) bL hU
 |XM f as ts n args id p6 k0 k6 el k rows aS hg fV hc oB hp sD hw iW=>
  rw[B5 hr hg,if_pos fV];obtain⟨first,cap,mC,hf,has,rfl⟩:=yC hc
  have h1:=hr.get rfl hf;have h2:=uT (E:=E) (W:=W) (ρ:=act.eval) (fun x b hb=>hr.get rfl hb) _ _ has
  generalize nD:act.eval f=fv at h1;cases h1 with
  |fn _ _ _ vf vc hl dG h3 h4=>
  have lE:bP E W (first++mC++cap) (vf.toList++as.toList.map act.eval++vc.toList):=by
   refine(bP.append ?_ h2).append ?_
   ·exact⟨oM,fun i x v hx hv=>h3 i x v hx (by grind)⟩
   ·exact⟨oM,fun i x v hx hv=>h4 i x v hx (by grind)⟩
  have eQ:(execOp act.eval o).run P W= .ok (.enter n (vf.toList++as.toList.map act.eval++vc.toList).toArray) W:=by
   simp only[execOp,aS,resolve,nD,Deferred.ofValue,Sem.run_bind,Sem.run_pure,Result.andThen_ok,invoke];rw[yE hp.1];congr 2;apply zT;simp
  refine⟨fun _ _=>trivial,?_⟩
  rw[Oper.semAt_eq _ _ _ (fun c h=>by grind),eQ]
  refine⟨yB,zK ((hp.2 E W σ.H.get aF _ hr.heap.core oB gT lE).mono fun e' W' ⟨v,he,E',hv,hG,iP,hU⟩=> ?_)⟩
  subst he
  have kI:RH E' W' ⟨σ.H.next,aY σ.H.get e.wr⟩:=⟨fun id aC=>by
   rcases hU id aC with h5|h5
   ·exact hr.heap.next id h5
   grind,by grind⟩
  have bL:=(hr.mono hv kI).put (dst:=o.dst) (nR hd) (c:=e.c) (a:=e.a) (fun _=>by rw[sD];exact iP) (fun h=>by grind)
  exact hn E' W' _ (eU.of hv (Act.put_defers _ _ _)) bL hU
 |XN f as ts n args a el k rows aS hg fV hc hp sD hw=>
  rw[B5 hr hg,if_pos fV];obtain⟨first,cap,mC,hf,has,rfl⟩:=yC hc
  have h1:=hr.get rfl hf;have h2:=uT (E:=E) (W:=W) (ρ:=act.eval) (fun x b hb=>hr.get rfl hb) _ _ has
  generalize nD:act.eval f=fv at h1;cases h1 with
  |fn _ _ _ vf vc hl dG h3 h4=>
  have lE:bP E W (first++mC++cap) (vf.toList++as.toList.map act.eval++vc.toList):=by
   refine(bP.append ?_ h2).append ?_
   ·exact⟨oM,fun i x v hx hv=>h3 i x v hx (by grind)⟩
   ·exact⟨oM,fun i x v hx hv=>h4 i x v hx (by grind)⟩
  have eQ:(execOp act.eval o).run P W= .ok (.enter n (vf.toList++as.toList.map act.eval++vc.toList).toArray) W:=by
   simp only[execOp,aS,resolve,nD,Deferred.ofValue,Sem.run_bind,Sem.run_pure,Result.andThen_ok,invoke];rw[yE hp.1];congr 2;apply zT;simp
  refine⟨fun _ _=>trivial,?_⟩
  rw[Oper.semAt_eq _ _ _ (fun c h=>by grind),eQ]
  refine⟨yB,zK ((hp.2 E W σ.H.get aF _ hr.heap.core gT lE).mono fun e' W' ⟨v,he,E',hv,hG,iP,hU⟩=> ?_)⟩
  subst he
  have kI:RH E' W' ⟨σ.H.next,aY σ.H.get e.wr⟩:=⟨fun id aC=>by
   rcases hU id aC with h5|h5
   ·exact hr.heap.next id h5
   grind,by grind⟩
  have bL:=(hr.mono hv kI).put (dst:=o.dst) (nR hd) (c:=e.c) (a:=e.a) (fun _=>by rw[sD];exact iP) (fun h=>by grind)
  exact hn E' W' _ (eU.of hv (Act.put_defers _ _ _)) bL hU
 |K4 f as ts n bW args k aS hg fV hc he fM hp hw iW=>
  rw[B5 hr hg,if_pos fV];obtain⟨first,cap,mC,hf,has,rfl⟩:=yC hc
  have h1:=hr.get rfl hf;have h2:=uT (E:=E) (W:=W) (ρ:=act.eval) (fun x b hb=>hr.get rfl hb) _ _ has
  generalize nD:act.eval f=fv at h1;cases h1 with
  |fn _ _ _ vf vc hl dG h3 h4=>
  have lE:bP E W (first++mC++cap) (vf.toList++as.toList.map act.eval++vc.toList):=by
   refine(bP.append ?_ h2).append ?_
   ·exact⟨oM,fun i x v hx hv=>h3 i x v hx (by grind)⟩
   ·exact⟨oM,fun i x v hx hv=>h4 i x v hx (by grind)⟩
  have eQ:(execOp act.eval o).run P W= .ok (.enter n (vf.toList++as.toList.map act.eval++vc.toList).toArray) W:=by
   simp only[execOp,aS,resolve,nD,Deferred.ofValue,Sem.run_bind,Sem.run_pure,Result.andThen_ok,invoke];rw[yE hp.1];congr 2;apply zT;simp
  refine⟨fun _ _=>trivial,?_⟩
  rw[Oper.semAt_eq _ _ _ (fun c h=>by grind),eQ]
  refine⟨yB,zK ((hp.Wt k he fM hr.heap hr.heap.core lE).mono fun e' W' ⟨v,qR,L',hv,hH,iP⟩=> ?_)⟩
  subst qR;refine hn _ W' _ (eU.of hv (Act.put_defers _ _ _)) ?_ fun _ h=> .inl h
  rw[Gp hw];exact(hr.mono hv hH).put (dst:=o.dst) (nR hd) (c:=e.c) (fun _=>iP) (fun h=>by grind)
 |XP f as ts n bW args kk a el k rows ap aS hg fV hc he fM hp sD hw iW=>
  rw[B5 hr hg,if_pos fV];obtain⟨first,cap,mC,hf,has,rfl⟩:=yC hc
  have h1:=hr.get rfl hf;have h2:=uT (E:=E) (W:=W) (ρ:=act.eval) (fun x b hb=>hr.get rfl hb) _ _ has
  generalize nD:act.eval f=fv at h1;cases h1 with
  |fn _ _ _ vf vc hl dG h3 h4=>
  have lE:bP E W (first++mC++cap) (vf.toList++as.toList.map act.eval++vc.toList):=by
   refine(bP.append ?_ h2).append ?_
   ·exact⟨oM,fun i x v hx hv=>h3 i x v hx (by grind)⟩
   ·exact⟨oM,fun i x v hx hv=>h4 i x v hx (by grind)⟩
  have eQ:(execOp act.eval o).run P W= .ok (.enter n (vf.toList++as.toList.map act.eval++vc.toList).toArray) W:=by
   simp only[execOp,aS,resolve,nD,Deferred.ofValue,Sem.run_bind,Sem.run_pure,Result.andThen_ok,invoke];rw[yE hp.1];congr 2;apply zT;simp
  refine⟨fun _ _=>trivial,?_⟩
  rw[Oper.semAt_eq _ _ _ (fun c h=>by grind),eQ]
  refine⟨yB,zK ((hp.run kk he fM gT hr.heap hr.heap.core lE).mono fun e' W' ⟨v,qR,E',hv,hG,iP,hU⟩=> ?_)⟩
  subst qR
  have kI:RH E' W' ⟨σ.H.next,aY σ.H.get e.wr⟩:=⟨fun id aC=>by
   rcases hU id aC with h5|h5
   ·exact hr.heap.next id h5
   grind,by grind⟩
  have bL:=(hr.mono hv kI).put (dst:=o.dst) (nR hd) (c:=e.c) (a:=e.a) (fun _=>by rw[sD];exact iP) (fun h=>by grind)
  exact hn E' W' _ (eU.of hv (Act.put_defers _ _ _)) bL hU
 |skip hg hc hw=>
  rw[B5 hr hg,if_neg (by grind)]
  grind
 |res hg kQ hw=>
  rw[B5 hr hg];by_cases fV:e.c=true
  ·rw[if_pos fV]
   obtain⟨W',v,E',eQ,hv,hG,iP,hU⟩:=Uv kQ E W act.eval hr.heap.core gT (fun x b hb=>hr.get fV hb)
   have vZ:∀id,E'.U id->E.U id\/id=aF:=fun id h=>(hU id h).imp (fun h=>h) (fun h=>h.1)
   have kI:RH E' W' ⟨σ.H.next,aY σ.H.get e.wr⟩:=⟨fun id aC=>by
    rcases vZ id aC with h1|h1
    ·exact hr.heap.next id h1
    grind,hG⟩
   have bL:=(hr.mono hv kI).put (dst:=o.dst) (nR hd) (c:=e.c) (fun _=>iP) (fun h=>by grind)
   have RQ:=hn E' W' _ (eU.of hv (Act.put_defers _ _ _)) bL vZ;refine⟨fun _ _=>trivial,?_⟩
   rw[Oper.semAt_eq _ _ _ (Vc kQ)];rcases eQ with h1|⟨h1,h2⟩
   ·rw[h1];exact RQ
   ·rw[h1];subst h2;exact RQ
  grind
end
def top(p:Nat->Bool):Nat->Option Nat
 |0=>none
 |n+1=>if p n then some n else top p n
theorem K5{p q:Nat->Bool}:∀{n:Nat},(∀i,i<n->p i=q i)->top p n=top q n
 |0,_=>rfl
 |n+1,h=>by simp only[top,h n (KL n),K5 fun i hi=>h i (OT hi)]
theorem Gq{p:Nat->Bool}{j:Nat}:∀{n:Nat},j<n->p j=true->(∀i,i<n->p i=true->i<=j)->top p n=some j
 |0,h,_,_=>by omega
 |n+1,h,hp,hm=>by
  simp only[top];by_cases hn:p n=true
  ·grind
  ·have aT:j≠n:=fun e=>by grind
   simp only[hn,if_false,qZ];exact Gq oM hp fun i hi=>hm i oM
theorem Gr{p:Nat->Bool}{j:Nat}:∀{n:Nat},j<=n->(∀i,i<n->p i=true->i<j)->top p n=top p j
 |0,h,_=>by
  grind
 |n+1,h,hm=>by
  by_cases hj:j=n+1
  ·grind
  ·simp only[top]
   have hn:¬p n=true:=fun hp=>by grind
   simp only[hn,if_false,qZ];exact Gr oM fun i hi=>hm i oM
def zM:List (Nat×Option aI)->Nat->Option (Option aI)
 |[],_=>none
 |(i,b)::r,k=>match zM r k with
  |some x=>some x
  |none=>if k=i then some b else none
theorem Gt:∀(wr:List (Nat×Option aI)) (G:Nat->Option aI) (k:Nat),aY G wr k=(zM wr k).getD (G k)
 |[],G,k=>rfl
 |(i,b)::r,G,k=>by
  simp only[aY,zM];rw[Gt r]
  grind
def nG(ops:Array Oper)(es:List Entry)(σ0:AS)(D:Nat->Bool):Nat->AS
 |0=>σ0
 |k+1=>if D k then(match ops[k]?,es[k]? with
  |some o,some e=>(nG ops es σ0 D k).app o.dst e
  |_,_=>nG ops es σ0 D k)else nG ops es σ0 D k
def wt(ops:Array Oper)(es:List Entry)(t:Nat)(i:Nat):Bool:=
 match ops[i]?,es[i]? with
 |some o,some _=>o.dst==some t
 |_,_=>false
def Gu(es:List Entry)(i:Nat):Option (Bool×AV):=(es[i]?).map fun e=>(e.c,e.a)
def wk(ops:Array Oper)(es:List Entry)(k:Nat)(i:Nat):Bool:=
 match ops[i]?,es[i]? with
 |some _,some e=>(zM e.wr k).isSome
 |_,_=>false
def Gv(es:List Entry)(k i:Nat):Option aI:=((es[i]?).bind fun e=>zM e.wr k).getD none
section
variable {ops : Array Oper} {es : List Entry} {σ0 : AS}
theorem Xb(σ:AS)(dst:Option Tmp)(e:Entry):(σ.app dst e).nt=σ.nt:=by unfold AS.app;rw[AS.rK]
theorem Xc(σ:AS)(dst:Option Tmp)(e:Entry):(σ.app dst e).H.next=σ.H.next:=by unfold AS.app AS.put;grind
theorem Xd(σ:AS)(dst:Option Tmp)(e:Entry):(σ.app dst e).H.get=aY σ.H.get e.wr:=by unfold AS.app AS.put;grind
theorem Xe(σ:AS)(dst:Option Tmp)(e:Entry)(t:Nat):lk (σ.app dst e).env t=if dst=some t then some (e.c,e.a)else lk σ.env t:=by
 unfold AS.app AS.put;cases dst with
 |none=>simp
 |some d=>
  simp only[lk,bM]
  grind
theorem GI(D:Nat->Bool):∀k,(nG ops es σ0 D k).nt=σ0.nt
 |0=>rfl
 |k+1=>by
  simp only[nG];split
  ·split
   ·rw[Xb];exact GI D k
   ·exact GI D k
  ·exact GI D k
theorem SJ(D:Nat->Bool):∀k,(nG ops es σ0 D k).H.next=σ0.H.next
 |0=>rfl
 |k+1=>by
  simp only[nG];split
  ·split
   ·rw[Xc];exact SJ D k
   ·exact SJ D k
  ·exact SJ D k
theorem SK(D:Nat->Bool)(t:Nat):∀k,lk (nG ops es σ0 D k).env t=match top (fun i=>D i&&wt ops es t i) k with
  |some i=>Gu es i
  |none=>lk σ0.env t
 |0=>rfl
 |k+1=>by
  have ih:=SK D t k;simp only[nG,top];by_cases hD:D k=true
  case neg=>
   grind
  case pos=>
   simp only[hD,if_true,Ix];cases ho:ops[k]? with
   |none=>simp_all [wt]
   |some o=>
    cases he:es[k]? with
    |none=>simp_all [wt]
    |some e=>
     simp only[wt,ho,he,Xe,beq_iff_eq];by_cases hd:o.dst=some t
     ·grind [Gu]
     ·simp only[hd,if_false];exact ih
theorem SL(D:Nat->Bool)(q:Nat):∀k,(nG ops es σ0 D k).H.get q=match top (fun i=>D i&&wk ops es q i) k with
  |some i=>Gv es q i
  |none=>σ0.H.get q
 |0=>rfl
 |k+1=>by
  have ih:=SL D q k;simp only[nG,top];by_cases hD:D k=true
  case neg=>
   grind
  case pos=>
   simp only[hD,if_true,Ix];cases ho:ops[k]? with
   |none=>simp_all [wk]
   |some o=>
    cases he:es[k]? with
    |none=>simp_all [wk]
    |some e=>
     simp only[wk,ho,he,Xd,Gt];cases hw:zM e.wr q with
     |none=>simp only[Zv,qZ,if_false,Zu];exact ih
     |some b=>grind [Gv]
end
theorem Rel.ext{E:Env}{W:World}{σ aN:AS}{act:Act}(h:Rel E W σ act)(hl:∀t,lk aN.env t=lk σ.env t)(hg:∀id,aN.H.get id=σ.H.get id)(hn:aN.H.next=σ.H.next)(ht:aN.nt=σ.nt):Rel E W aN act:=by
 have hG:aN.H.get=σ.H.get:=funext hg
 exact⟨h.defers,by rw[ht];exact h.size,fun t c a ha=>h.env t c a (by grind),⟨by rw[hn];exact h.heap.next,by rw[hG];exact h.heap.core⟩⟩
end Go.AL
namespace Go.AL
open Go.RowKit
def wC(o:Oper):List Nat:=(o.after.toList.filter (fun e=>Region.binds .any e)).map (·.on)
inductive Reach (ops:List Oper):Nat->Nat->Prop
 |step {i j:Nat} {o:Oper} (h:ops[j]? =some o) (hi:i∈wC o):Reach ops i j
 |trans {i k j:Nat} {o:Oper} (h:ops[j]? =some o) (hk:k∈wC o) (hr:Reach ops i k):Reach ops i j
def SM(ops:List Oper)(D:Nat->Bool):Prop:=∀(j:Nat) o,ops[j]? =some o->D j=true->∀k∈wC o,D k=true
theorem Reach.closed{ops:List Oper}{D:Nat->Bool}(hc:SM ops D){i j:Nat}(h:Reach ops i j):D j=true->D i=true:=by
 induction h with
 |step h hi=>exact fun hj=>hc _ _ h hj _ hi
 |trans h hk _ ih=>exact fun hj=>ih (hc _ _ h hj _ hk)
def Xf(o:Oper)(acc:List Nat):Nat:=(wC o).foldl (fun s k=>s|||2 ^ k|||acc.getD k 0) 0
def Gw:List Oper->List Nat->List Nat
 |[],acc=>acc
 |o::r,acc=>Gw r (acc++[Xf o acc])
def tab(ops:List Oper):List Nat:=Gw ops []
theorem Xg{acc:List Nat}{i:Nat}:∀(l:List Nat) (s:Nat),(l.foldl (fun s k=>s|||2 ^ k|||acc.getD k 0) s).testBit i=true->s.testBit i=true\/∃k∈l,i=k\/(acc.getD k 0).testBit i=true
 |[],s,h=> .inl h
 |k::l,s,h=>by
  simp only[EP]at h;rcases Xg l _ h with h|⟨k',h1,h2⟩
  ·simp only[Nat.testBit_or,GN]at h
   rcases h with(h|h)|h
   ·exact .inl h
   ·rw[Nat.testBit_two_pow]at h
    have h':k=i:=of_decide_eq_true h;exact .inr ⟨k,by simp,.inl h'.symm⟩
   ·exact .inr ⟨k,by simp,.inr h⟩
  ·exact .inr ⟨k',by simp[h1],h2⟩
theorem Xh{ops:List Oper}:∀(r:List Oper) (acc:List Nat),ops.drop acc.length=r->(∀(j m i:Nat),acc[j]? =some m->m.testBit i=true->Reach ops i j)->∀(j m i:Nat),(Gw r acc)[j]? =some m->m.testBit i=true->Reach ops i j
 |[],acc,_,h=>h
 |o::r,acc,hd,h=>by
  have bG:acc.length<ops.length:=by
   rcases qY acc.length ops.length with h|h
   ·exact h
   ·rw[TA h]at hd;cases hd
  have ho:ops[acc.length]? =some o:=by
   have:=vA (xs:=ops) (i:=acc.length) (j:=0);rw[hd]at this;simpa using this.symm
  refine Xh r (acc++[Xf o acc]) ?_ ?_
  ·rw[cU,List.length_singleton,<-Iu,hd];rfl
  ·intro j m i hj hb
   by_cases xQ:j<acc.length
   ·rw[rM xQ]at hj;exact h j m i hj hb
   ·rw[nI oM]at hj
    have hj0:j-acc.length=0:=by
     rcases Ir (j-acc.length)with h0|h0
     ·exact h0
     ·rw[ES (by simp;omega)]at hj;cases hj
    have hje:j=acc.length:=oM
    subst hje;simp at hj;subst hj;rcases Xg _ _ hb with h0|⟨k,hk,iJ⟩
    ·simp at h0
    ·rcases iJ with rfl|iJ
     ·exact .step ho hk
     ·cases J9:acc[k]? with
      |none=>simp[List.getD,J9]at iJ
      |some m'=>
       simp[List.getD,J9]at iJ;exact .trans ho hk (h k m' i J9 iJ)
theorem XQ{ops:List Oper}{i j:Nat}(h:((tab ops).getD j 0).testBit i=true):Reach ops i j:=by
 cases hm:(tab ops)[j]? with
 |none=>simp[List.getD,hm]at h
 |some m=>
  simp[List.getD,hm]at h;exact Xh ops [] rfl (fun j m i hj=>by simp at hj) j m i hm h
def SN(ops:Array Oper)(o:Oper):List Tmp:=o.dst.toList++o.looksAt ops
def CQ(ops:Array Oper)(x y:Oper):Bool:=(match x.dst with|some d=>(SN ops y).contains d|none=>false)||(match y.dst with|some d=>(SN ops x).contains d|none=>false)
def Xi(ops:Array Oper)(tb:List Nat):Bool:=
 ((List.range ops.size).all fun j=>match ops[j]? with
   |some o=>(wC o).all (·<j)
   |none=>true)&&
 (List.range ops.size).all fun j=>(List.range j).all fun i=>match ops[i]?,ops[j]? with
   |some x,some y=> !(CQ ops x y)||(tb.getD j 0).testBit i
   |_,_=>true
def zN(ops:Array Oper):Bool:=Xi ops (tab ops.toList)
def GJ(e:Entry)(k:Nat):Bool:=e.rd.contains k||e.wr.any fun p=>p.1==k
def zO(a b:Entry):Bool:=(a.wr.any fun p=>GJ b p.1)||(b.wr.any fun p=>GJ a p.1)
def xC(tb:List Nat):Nat->List (Nat×Entry)->List Entry->Bool
 |_,_,[]=>true
 |j,prev,e::r=>prev.all (fun p=> !(zO p.2 e)||(tb.getD j 0).testBit p.1)&&xC tb (j+1) ((j,e)::prev) r
theorem Gx{tb:List Nat}:∀(r:List Entry) (j:Nat) (prev:List (Nat×Entry)),xC tb j prev r=true->
  (∀p∈prev,∀(k:Nat) e,r[k]? =some e->zO p.2 e=true->(tb.getD (j+k) 0).testBit p.1=true)/\(∀(i k:Nat) a b,i<k->r[i]? =some a->r[k]? =some b->zO a b=true->(tb.getD (j+k) 0).testBit (j+i)=true)
 |[],j,prev,_=>⟨fun p _ k e h=>by simp at h,fun i k a b _ h=>by simp at h⟩
 |e::r,j,prev,h=>by
  simp only[xC,jF,iM]at h;obtain⟨h1,h2⟩:=h;obtain⟨h3,h4⟩:=Gx r (j+1) ((j,e)::prev) h2;refine⟨fun p hp k e' he hc=> ?_,fun i k a b iJ ha hb hc=> ?_⟩
  ·cases k with
   |zero=>
    simp at he;subst he;have:=h1 p hp;simp[hc]at this;simpa using this
   |succ k=>
    have:=h3 p (by simp[hp]) k e' (by simpa using he) hc
    rw[show j+(k+1)=j+1+k by omega];exact this
  ·cases k with
   |zero=>omega
   |succ k=>
    cases i with
    |zero=>
     simp at ha;subst ha;have:=h3 (j,e) (by simp) k b (by simpa using hb) hc
     rw[show j+(k+1)=j+1+k by omega];exact this
    |succ i=>
     have:=h4 i k a b oM (by simpa using ha) (by simpa using hb) hc
     rw[show j+(k+1)=j+1+k by omega,show j+(i+1)=j+1+i by omega];exact this
inductive fX (P:Program) (ops:List Oper) (N0:Nat):Nat->List Oper->AS->List Entry->AS->Prop
 |nil (i:Nat) (σ:AS):fX P ops N0 i [] σ [] σ
 |cons (i:Nat) (o:Oper) (r:List Oper) (σ:AS) (e:Entry) (es:List Entry) (aN:AS) (h:B0 P ops o σ (N0+i) e) (hr:fX P ops N0 (i+1) r (σ.app o.dst e) es aN):fX P ops N0 i (o::r) σ (e::es) aN
section
variable {P : Program} {ops : Array Oper} {es : List Entry} {σ0 : AS} {N0 : Nat}
def cM(l:Array Bool)(i:Nat):Bool:=l.getD i false
end
theorem Xj{ops:Array Oper}(h:zN ops=true):(∀(j:Nat) o,ops[j]? =some o->∀k∈wC o,k<j)/\
  ∀(i j:Nat) x y,i<j->ops[i]? =some x->ops[j]? =some y->CQ ops x y=true->Reach ops.toList i j:=by
 unfold zN Xi at h;simp only[jF,iM,List.mem_range]at h;refine⟨fun j o ho k hk=> ?_,fun i j x y kZ hx hy hc=> ?_⟩
 ·have h1:=h.1 j (k7.1 ho).1
  rw[ho]at h1;simpa using iM.1 h1 k hk
 ·have h1:=h.2 j (k7.1 hy).1 i kZ
  rw[hx,hy]at h1;simp only[hc,Zw,Zq]at h1;exact XQ h1
end Go.AL
namespace Go.AL
open Go.RowKit
def Gy:Option jI->Option Entry
 |some (a,wr,rd)=>some ⟨true,a,wr,rd⟩
 |none=>none
def Gz(c:Bool):Option jI->Option Entry
 |some (a,[],rd)=>some ⟨c,a,[],rd⟩
 |_=>none
def Ha(c b:Bool):Option (Bool×Bool)->Option Entry
 |some (p,q)=>some ⟨c,.c (.bool (cond b p q)),[],[]⟩
 |none=>none
def SO(σ:AS)(c:Bool)(x y:Operand):Option Bool->Option Entry
 |some b=>Ha c b (yD (jL (σ.get (c&&b) x)) (jL (σ.get (c&& !b) y)))
 |none=>none
def Hb(P:Program)(o:Oper)(σ:AS)(aF:Nat):Option Bool->Option Entry
 |some true=>match o.op with
  | .pick b x y=>SO σ true x y (jL (σ.get true b))
  |_=>Gz true (res P (σ.get true) σ.H.get aF o)
 |some false=>some ⟨false,.c (.bool false),[],[]⟩
 |none=>none
def XR(P:Program)(ops:List Oper)(o:Oper)(σ:AS)(aF:Nat):Option Entry:=
 match o.op with
 | .call ⟨.value _,_,_⟩=>none
 |_=>match o.guard with
  |none=>match o.op with
   | .pick b x y=>SO σ true x y (jL (σ.get true b))
   |_=>Gy (res P (σ.get true) σ.H.get aF o)
  |some (j,want)=>Hb P o σ aF (nQ (nA ops j σ.env) want)
theorem Xk{σ:AS}{c:Bool}{x y:Operand}{b:Option Bool}{e:Entry}(h:SO σ c x y b=some e):∃b0 p q,b=some b0/\yD (jL (σ.get (c&&b0) x)) (jL (σ.get (c&& !b0) y))=some (p,q)/\e=⟨c,.c (.bool (cond b0 p q)),[],[]⟩:=by
 unfold SO at h;split at h
 ·rename_i b0
  unfold Ha at h;split at h
  ·rename_i p q w9
   injection h with h
   exact⟨b0,p,q,rfl,w9,h.symm⟩
  ·cases h
 ·cases h
theorem bz3{P:Program}{ops:List Oper}{o:Oper}{σ:AS}{aF:Nat}{e:Entry}(h:XR P ops o σ aF=some e):B0 P ops o σ aF e:=by
 unfold XR at h;split at h
 ·cases h
 ·rename_i uF
  split at h
  ·rename_i hg
   split at h
   ·rename_i b x y aS
    obtain⟨b0,p,q,h1,h2,rfl⟩:=Xk h;exact .pick b x y b0 p q aS (by unfold l9;rw[hg]) h1 h2 rfl rfl
   ·unfold Gy at h
    split at h
    ·rename_i a wr rd kQ
     injection h with h
     subst h;exact .res (by unfold l9;rw[hg]) kQ (.inr rfl)
    ·cases h
  ·rename_i j want hg
   unfold Hb at h;split at h
   ·rename_i hc
    split at h
    ·rename_i b x y aS
     obtain⟨b0,p,q,h1,h2,rfl⟩:=Xk h;exact .pick b x y b0 p q aS (by unfold l9;rw[hg];exact hc) h1 h2 rfl rfl
    ·unfold Gz at h
     split at h
     ·rename_i a rd kQ
      injection h with h
      subst h;exact .res (by unfold l9;rw[hg];exact hc) kQ (.inl rfl)
     ·cases h
   ·rename_i hc
    injection h with h
    subst h;exact .skip (by unfold l9;rw[hg];exact hc) rfl rfl
   ·cases h
def Xl(e:Entry)(p:List Entry×AS×Nat×List Oper):List Entry×AS×Nat×List Oper:=(e::p.1,p.2)
def GK(P:Program)(ops:List Oper)(N0:Nat):Nat->List Oper->AS->List Entry×AS×Nat×List Oper
 |i,[],σ=>([],σ,i,[])
 |i,o::r,σ=>Hc (GK P ops N0 (i+1) r) i o r σ (XR P ops o σ (N0+i))
where
 Hc (f:AS->List Entry×AS×Nat×List Oper) (i:Nat) (o:Oper) (r:List Oper) (σ:AS):Option Entry->List Entry×AS×Nat×List Oper
  |some e=>Xl e (f (σ.app o.dst e))
  |none=>([],σ,i,o::r)
theorem Xm{P:Program}{ops:List Oper}{N0:Nat}{Xn:List Entry}{dV:AS}:∀{l:List Oper} {i:Nat} {σ:AS} {p:List Entry×AS×Nat×List Oper},GK P ops N0 i l σ=p->fX P ops N0 p.2.2.1 p.2.2.2 p.2.1 Xn dV->fX P ops N0 i l σ (p.1++Xn) dV
 |[],i,σ,p,hr,h=>by simp only[GK]at hr;subst hr;exact h
 |o::r,i,σ,p,hr,h=>by
  simp only[GK]at hr;unfold GK.Hc at hr;split at hr
  ·rename_i e he
   subst hr;exact .cons i o r σ e _ dV (bz3 he) (Xm rfl h)
  ·subst hr;exact h
theorem K6{P:Program}{ops:List Oper}{N0 i:Nat}{σ:AS}:fX P ops N0 i [] σ [] σ:= .nil i σ
theorem bz4{P:Program}{ops:List Oper}{N0 i:Nat}{o:Oper}{r:List Oper}{σ dV:AS}{es:List Entry}{f:Operand}{as:Array Operand}{ts:Array TypeId}{n:FuncId}{args:List AV}{a:AV}(aS:o.op= .call ⟨.value f,as,ts⟩)(hg:o.guard=none)
  (hp:eA P n args (·=a)) (hc:fN (σ.get true f) (dN (σ.get true) as.toList)=some (n,args)) (hn:∀a∈args,bF a) (h:fX P ops N0 (i+1) r (σ.app o.dst ⟨true,a,[],[]⟩) es dV):fX P ops N0 i (o::r) σ (⟨true,a,[],[]⟩::es) dV:=
 .cons i o r σ _ es dV (.call f as ts n args aS (by unfold l9;rw[hg]) hc (fun _=>⟨hn,hp⟩) rfl) h
theorem bz5{P:Program}{ops:List Oper}{N0 i:Nat}{o:Oper}{r:List Oper}{σ dV:AS}{es:List Entry}{f:Operand}{as:Array Operand}{ts:Array TypeId}{n:FuncId}{args:List AV}{a:AV}{j:Nat}{want c:Bool}(aS:o.op= .call ⟨.value f,as,ts⟩)(hg:o.guard=some (j,want))
  (hw:nQ (nA ops j σ.env) want=some c) (hp:eA P n args (·=a)) (hc:fN (σ.get c f) (dN (σ.get c) as.toList)=some (n,args)) (hn:∀a∈args,bF a) (h:fX P ops N0 (i+1) r (σ.app o.dst ⟨c,a,[],[]⟩) es dV):fX P ops N0 i (o::r) σ (⟨c,a,[],[]⟩::es) dV:=
 .cons i o r σ _ es dV (.call f as ts n args aS (by unfold l9;rw[hg];exact hw) hc (fun _=>⟨hn,hp⟩) rfl) h
structure Holds(σ:AS)(env:List (Nat×Bool×AV))(H:Heap):Prop where
 env:∀t a,lk env t=some a->lk σ.env t=some a
 next:σ.H.next<=H.next
 get:∀id b,H.get id=some b->σ.H.get id=some b
theorem kU{P:Program}{σ:AS}{Q:Exit->AS->Prop}{c:Code}{env:List (Nat×Bool×AV)}{H:Heap}(hh:Holds σ env H)(h:AW P c ⟨env,H,σ.nt⟩ Q):AW P c σ Q:=fun ro E W act dP hr=>
 h ro E W act dP ⟨hr.defers,hr.size,fun t c a ha=>hr.env t c a (hh.env t _ ha),⟨fun id aC=>tX (hr.heap.next id aC) hh.next,hr.heap.core.M8 fun id b hb=>⟨b,hh.get id b hb,aI.le_refl b⟩⟩⟩
theorem PQ{P:Program}{σ:AS}{Q:Exit->AS->Prop}{c:Code}(S:Nat->List (Nat×Bool×AV)->Heap->Prop)(n:Nat)(h0:∃env H,S n env H/\Holds σ env H)
  (round:∀n env H,S n env H->AW P c ⟨env,H,σ.nt⟩ (cF (fun aN=>∃m,m<n/\∃env H,S m env H/\Holds aN env H) Q)):AW P (.loop c) σ Q:=by
 have key:AW P (.loop c) σ (fun e aN=>aN.nt=σ.nt->Q e aN):=by
  refine bo2 (fun n aN=>aN.nt=σ.nt/\∃env H,S n env H/\Holds aN env H) n ⟨rfl,h0⟩ ?_
  rintro n aN ⟨cL,env,H,hS,hh⟩;have hr:=round n env H hS;rw[<-cL]at hr;intro ro E W act dP bL;refine wpIn_mono (kU hh hr ro E W act dP bL) fun e a w ⟨E',dV,h1,h2,h3,h4⟩=>⟨E',dV,h1,h2,h3,?_⟩
  cases e with
  |normal=>
   obtain⟨m,hm,h5⟩:=h4;exact⟨m,hm,h3.trans cL,h5⟩
  |_=>exact fun _=>h4
 intro ro E W act dP bL;exact wpIn_mono (key ro E W act dP bL) fun e a w ⟨E',aN,h1,h2,h3,h4⟩=>⟨E',aN,h1,h2,h3,h4 h3⟩
theorem holds_nil{σ:AS}{H:Heap}(hn:σ.H.next<=H.next)(hg:∀id b,H.get id=some b->σ.H.get id=some b):Holds σ [] H:=⟨fun t a h=>by simp[lk]at h,hn,hg⟩
theorem tE{σ:AS}{env:List (Nat×Bool×AV)}{H:Heap}{t:Nat}{a:Bool×AV}(h:lk σ.env t=some a)(hr:Holds σ env H):Holds σ ((t,a)::env) H:=
 ⟨fun t' a' h'=>by
   simp only[lk]at h';split at h'
   ·rename_i ht;subst ht;rw[<-h'];exact h
   ·exact hr.env t' a' h',hr.next,hr.get⟩
attribute [go_sem] Gy Gz Ha SO Hb XR Xl GK GK.Hc AS.app OS List.contains_cons List.contains_nil Zj List.any_nil GJ zO xC
end Go.AL
namespace Go.AL
open Go.RowKit
theorem Hd{ops:Array Oper}{es:List Entry}{σ0:AS}{D D':Nat->Bool}:∀{k:Nat},(∀i,i<k->D i=D' i)->nG ops es σ0 D k=nG ops es σ0 D' k
 |0,_=>rfl
 |k+1,h=>by
  have h1:=Hd (ops:=ops) (es:=es) (σ0:=σ0) (k:=k) fun i hi=>h i oM
  grind [nG]
section
variable {P : Program} {ops : Array Oper} {es : List Entry} {σ0 : AS} {N0 : Nat}
theorem Xo{E0:Env}{W0:World}{A0:Act}{ro:Option Nat}{Q:Exit->Act->World->Prop}{k0:Nat}(z8:k0<=ops.size)(hlen:es.length=k0)(SP:∀j,k0<=j->j<ops.size->∀i,i<j->Reach ops.toList i j)(MW:∀(j:Nat) o e,ops[j]? =some o->es[j]? =some e->B0 P ops.toList o (nG ops es σ0 (fun _=>true) j) (N0+j) e)
  (K7:∀(j:Nat) o,ops[j]? =some o->∀k∈wC o,k<j)
  (cd2:∀(i j:Nat) x y,i<j->ops[i]? =some x->ops[j]? =some y->CQ ops x y=true->Reach ops.toList i j)
  (cd3:∀(i j:Nat) a b,i<j->es[i]? =some a->es[j]? =some b->zO a b=true->Reach ops.toList i j)
  (hd:ops.toList.all (fS σ0.nt)=true) (cd4:N0+k0<=σ0.H.next)
  (hQ:∀(fuel:Nat) (l:Array Bool) (E:Env) (W:World) (act:Act),l.size=ops.size->(List.range ops.size).countP (fun i=> !cM l i)<=fuel->(∀i,cM l i=decide (i<k0))->eU E0 W0 A0 E W act->Rel E W (nG ops es σ0 (fun _=>true) k0) act->wpAnyIn (l7 ro) 3 P .any ops Q fuel l act W):
  ∀(fuel:Nat) (l:Array Bool) (E:Env) (W:World) (act:Act),l.size=ops.size->(List.range ops.size).countP (fun i=> !cM l i)<=fuel->SM ops.toList (cM l)->(∀i,k0<=i->cM l i=false)->eU E0 W0 A0 E W act->Rel E W (nG ops es σ0 (cM l) k0) act->
   (∀id,E.U id->id<N0\/∃i,cM l i=true/\id=N0+i)->wpAnyIn (l7 ro) 3 P .any ops Q fuel l act W:=by
 --some of J8 first are not listed:one of cd6 is ready
 have NM:∀(l:Array Bool),l.size=ops.size->SM ops.toList (cM l)->∀i,i<k0->cM l i=false->∃j,j<k0/\j∈Region.ready .any ops l:=by
  intro l hl hc i
  induction i using Nat.strongRecOn with
  |_ i ih=>
   intro hi XS;by_cases lC:∀k∈wC (ops[i]' oM),cM l k=true
   ·refine⟨i,hi,?_⟩
    rw[mem_ready]
    have dQ:l.getD i true=false:=by
     have:i<l.size:=oM
     simp[cM,this]at XS;simp[this,XS]
    refine⟨dQ,ops[i]' oM,OV oM,fun e he hb=> ?_⟩
    exact lC e.on (mF.2 ⟨e,KM.2 ⟨by grind,hb⟩,rfl⟩)
   grind
 intro fuel
 induction fuel with
 |zero=>
  grind [Hd,List.countP_pos_iff]
 |succ fuel ih=>
  intro l E W act hl K8 hc cd7 hv hr hU;by_cases lC:∀i,i<k0->cM l i=true
  ·grind [Hd]
  have ⟨i0,V3,bz6⟩:∃i,i<k0/\cM l i=false:=by
   grind
  obtain⟨j0,hj0,cd8⟩:=NM l hl hc i0 V3 bz6;refine⟨(fun iW=>by grind),fun j hj=> ?_⟩
  obtain⟨h0,o,ho,SQ⟩:=mem_ready.1 hj;have J6:j<ops.size:=(k7.1 ho).1
  have xQ:cM l j=false:=by
   have:j<l.size:=oM
   simp[this]at h0;simp[cM,this,h0]
  have rA:ops.toList[j]? =some o:=by simpa using ho
  have NN:∀k∈wC o,cM l k=true:=fun k hk=>by
   obtain⟨e,he,rfl⟩:=mF.1 hk;obtain⟨mJ,oZ⟩:=KM.1 he;exact SQ e (by grind) oZ
  have He:∀i,Reach ops.toList i j->cM l i=true:=fun i h=>by
   cases h with
   |step h hi=>grind
   |trans h hk hr=>rw[rA]at h;injection h with h;subst h;exact hr.closed hc (NN _ hk)
  have cd9:∀i,Reach ops.toList j i->cM l i=false:=fun i h=>by
   cases XS:cM l i
   ·rfl
   ·have:=h.closed hc XS;grind
  have ID:j<k0:=by
   rcases qY j k0 with h|h
   ·exact h
   ·grind
  obtain⟨e,he⟩:∃e,es[j]? =some e:=⟨es[j]' oM,gY oM⟩
  --of two ce0 ce1 one ce2,ce3 is done
  have Xp:∀i,i<ops.size->(∀x y,ops[i]? =some x->ops[j]? =some y->(i<j->Reach ops.toList i j)/\(j<i->Reach ops.toList j i))->i≠j->cM l i=decide (i<j):=by
   intro i hi bz7 aT;obtain⟨x,hx⟩:∃x,ops[i]? =some x:=⟨ops[i],OV hi⟩;obtain⟨h1,h2⟩:=bz7 x o hx ho;rcases Nat.lt_or_gt_of_ne aT with h|h
   ·grind
   ·grind
  have bz8:∀i x,i<ops.size->ops[i]? =some x->i≠j->(CQ ops x o=true\/CQ ops o x=true)->cM l i=decide (i<j):=fun i x hi hx aT Hg=>
   Xp i hi (fun x' y' nO SR=>by
    rw[hx]at nO;injection nO with nO;subst nO
    rw[ho]at SR;injection SR with SR;subst SR
    have bz9:∀a b:Oper,CQ ops a b=CQ ops b a:=fun a b=>by unfold CQ;rw[Bool.or_comm]
    have hb:CQ ops x o=true:=Hg.elim id fun h=>by grind
    grind) aT
  have bA0:∀i a,i<ops.size->es[i]? =some a->i≠j->(zO a e=true\/zO e a=true)->cM l i=decide (i<j):=fun i a hi ha aT Hg=>
   Xp i hi (fun x' y' nO SR=>by
    have bz9:∀a b:Entry,zO a b=zO b a:=fun a b=>by unfold zO;rw[Bool.or_comm]
    have hb:zO a e=true:=Hg.elim id fun h=>by grind
    grind) aT
  have Xq:∀i t,wt ops es t i=true->∃x,ops[i]? =some x/\x.dst=some t:=fun i t h=>by
   unfold wt at h;split at h
   ·grind
   ·cases h
  have bA1:∀i q,wk ops es q i=true->∃a,es[i]? =some a/\(zM a.wr q).isSome=true:=fun i q h=>by
   unfold wk at h;split at h
   ·grind
   ·cases h
  have Xr:∀(wr:List (Nat×Option aI)) q,(zM wr q).isSome=true->∃p∈wr,p.1=q:=by
   intro wr q
   induction wr with
   |nil=>grind [zM]
   |cons p r ih=>
    intro h;obtain⟨pi,pb⟩:=p;simp only[zM]at h;cases hw:zM r q with
    |some x=>
     obtain⟨p',h1,h2⟩:=ih (by grind)
     grind
    |none=>
     simp only[hw]at h;by_cases hqp:q=pi
     ·exact⟨(pi,pb),by simp,hqp.symm⟩
     grind
  --Hh
  have Hh:∀t∈SN ops o,∀i,i<ops.size->i≠j->wt ops es t i=true->cM l i=decide (i<j):=fun t ht i hi aT hw=>by
   obtain⟨x,hx,hxd⟩:=Xq i t hw;refine bz8 i x hi hx aT (.inl ?_);unfold CQ
   grind
  have bA4:∀q,GJ e q=true->∀i,i<ops.size->i≠j->wk ops es q i=true->cM l i=decide (i<j):=fun q hq i hi aT hw=>by
   obtain⟨a,ha,hs⟩:=bA1 i q hw;obtain⟨p,hp,rfl⟩:=Xr _ _ hs;refine bA0 i a hi ha aT (.inl ?_);unfold zO;have:(a.wr.any fun p=>GJ e p.1)=true:=CU.2 ⟨p,hp,hq⟩
   simp[this]
  have hE:=MW j o e ho he
  have hE':B0 P ops.toList o (nG ops es σ0 (cM l) k0) (N0+j) e:=by
   refine hE.congr (fun t ht=> ?_) fun q hq=> ?_
   ·rw[SK,SK]
    have Hi:top (fun i=>cM l i&&wt ops es t i) k0=top (fun i=>decide (i<j)&&wt ops es t i) k0:=K5 fun i hi=>by
     cases hw:wt ops es t i
     ·simp
     ·by_cases aT:i=j
      ·grind
      ·rw[Hh t (by grind [SN]) i oM aT hw]
    rw[Hi,Gr (p:=fun i=>decide (i<j)&&wt ops es t i) (j:=j) (Y2 ID) (fun i _ h=>by grind)]
    rw[K5 (n:=j) (q:=fun i=>(fun _=>true) i&&wt ops es t i) fun i hi=>by simp[hi]]
   ·rw[SL,SL]
    have Hi:top (fun i=>cM l i&&wk ops es q i) k0=top (fun i=>decide (i<j)&&wk ops es q i) k0:=K5 fun i hi=>by
     cases hw:wk ops es q i
     ·simp
     ·by_cases aT:i=j
      ·grind
      ·rw[bA4 q (by grind [GJ]) i oM aT hw]
    rw[Hi,Gr (p:=fun i=>decide (i<j)&&wk ops es q i) (j:=j) (Y2 ID) (fun i _ h=>by grind)]
    rw[K5 (n:=j) (q:=fun i=>(fun _=>true) i&&wk ops es q i) fun i hi=>by simp[hi]]
  have IK:fS σ0.nt o=true:=iM.1 hd o (by grind)
  have gT:¬E.U (N0+j):=fun h=>by
   rcases hU _ h with h1|⟨i,h1,h2⟩
   ·omega
   grind
  have wX:(l.setIfInBounds j true).size=ops.size:=by simpa using hl
  have pS:∀i,cM (l.setIfInBounds j true) i=(cM l i||decide (i=j)):=fun i=>by
   unfold cM;by_cases kZ:i=j
   ·subst kZ
    have:i<l.size:=oM
    simp[this]
   ·simp[bI2 (wD kZ),kZ]
  have eQ:=B0.run (Q:=Q) (ro:=ro) hE' (by grind [GI]) hr gT (by rw[SJ];omega) (next:=wpAnyIn (l7 ro) 3 P .any ops Q fuel (l.setIfInBounds j true)) (fun E' W' cK lD cG vZ=>by
   refine ih (l.setIfInBounds j true) E' W' cK wX ?_ ?_ (fun i hi=>by grind) (hv.trans lD) ?_ ?_
   ·have bG:(List.range ops.size).countP (fun i=> !cM (l.setIfInBounds j true) i)<(List.range ops.size).countP (fun i=> !cM l i):=by
     have key:∀n,j<n->(List.range n).countP (fun i=> !cM (l.setIfInBounds j true) i)<(List.range n).countP (fun i=> !cM l i):=by
      intro n
      induction n with
      |zero=>omega
      |succ n XT=>
       intro Xs;rw[GV,TE,TE];by_cases aT:j=n
       ·subst aT
        have hle:(List.range j).countP (fun i=> !cM (l.setIfInBounds j true) i)<=(List.range j).countP (fun i=> !cM l i):=Zy fun i _ h=>by
         grind
        grind
       ·have:=XT oM
        have hn:cM (l.setIfInBounds j true) n=cM l n:=by rw[pS];simp[wD aT]
        simp only[Zz,aa0,hn];omega
     exact key _ J6
    omega
   ·intro i x hx hi k hk
    rw[pS]at hi⊢;simp only[GN,decide_eq_true_eq]at hi⊢;rcases hi with hi|hi
    ·exact .inl (hc i x hx hi k hk)
    grind
   ·refine cG.ext (fun t=> ?_) (fun q=> ?_) (by grind [Xc,SJ]) (by rw[Xb,GI,GI])
    ·rw[Xe,SK,SK]
     by_cases CR:o.dst=some t
     ·rw[if_pos CR]
      have Hj:wt ops es t j=true:=by unfold wt;simp[ho,he,CR]
      rw[Gq (j:=j) ID (by grind) fun i hi h=> ?_]
      ·simp[Gu,he]
      ·simp only[jF]at h
       by_cases aT:i=j
       ·omega
       ·have h1:=Hh t (by unfold SN;grind) i oM aT h.2
        grind
     ·rw[if_neg CR]
      have Hj:wt ops es t j=false:=by
       cases hw:wt ops es t j
       ·rfl
       ·obtain⟨x,hx,hxd⟩:=Xq j t hw
        grind
      rw[K5 fun i hi=> ?_]
      by_cases aT:i=j
      ·grind
      ·simp[pS,aT]
    ·rw[Xd,Gt,SL,SL]
     cases hw:zM e.wr q with
     |some b=>
      have Hj:wk ops es q j=true:=by unfold wk;simp[ho,he,hw]
      rw[Gq (j:=j) ID (by grind) fun i hi h=> ?_]
      ·simp[Gv,he,hw]
      ·simp only[jF]at h
       by_cases aT:i=j
       ·omega
       ·obtain⟨p,hp,w9⟩:=Xr e.wr q (by grind)
        have hk:GJ e q=true:=by
         unfold GJ;have:(e.wr.any fun p=>p.1==q)=true:=CU.2 ⟨p,hp,by simp[w9]⟩
         simp[this]
        grind
     |none=>
      have Hj:wk ops es q j=false:=by unfold wk;simp[ho,he,hw]
      simp only[Zu];rw[K5 fun i hi=> ?_]
      by_cases aT:i=j
      ·grind
      ·simp[pS,aT]
   ·intro id aC
    rcases vZ id aC with h1|h1
    ·rcases hU id h1 with h2|⟨i,h2,h3⟩
     ·omega
     grind
    grind)
  unfold wpOpIn;simp only[ho];by_cases hw:Region.wanted o (yielded ops act.tmps)=true
  ·grind
  ·simp only[hw]at eQ⊢
   exact⟨fun _ _=>trivial,eQ⟩
end
theorem fX.pO{P:Program}{ops:Array Oper}{N0 k0:Nat}{σ0:AS}(hk:k0<=ops.size){i:Nat}{r:List Oper}{σ aN:AS}{es:List Entry}(h:fX P ops.toList N0 i r σ es aN):
  ∀pre:List Entry,pre.length=i->(ops.toList.take k0).drop i=r->i<=k0->σ=nG ops (pre++es) σ0 (fun _=>true) i->
   (pre++es).length=k0/\aN=nG ops (pre++es) σ0 (fun _=>true) k0/\
   ∀(j:Nat) o e,i<=j->ops[j]? =some o->(pre++es)[j]? =some e->B0 P ops.toList o (nG ops (pre++es) σ0 (fun _=>true) j) (N0+j) e:=by
 induction h with
 |nil i σ=>
  intro pre hp hd hi Xt
  have hlen:k0=i:=by
   have:=congrArg List.length hd;simp at this;omega
  grind
 |cons i o r σ e es aN he _ ih=>
  intro pre hp hd hi Xt
  have yO:(ops.toList.take k0)[i]? =some o:=by
   have:=vA (xs:=ops.toList.take k0) (i:=i) (j:=0);rw[hd]at this;simpa using this.symm
  have iJ:i<k0:=by
   have:=(fT.1 yO).1;simp at this;omega
  have ho:ops[i]? =some o:=by
   rw[pK,if_pos iJ]at yO;simpa using yO
  have bG:i<ops.size:=(k7.1 ho).1;have Vj:pre++e::es=(pre++[e])++es:=by simp
  have rW:(pre++e::es)[i]? =some e:=by rw[nI oM];simp[hp]
  have iR:σ.app o.dst e=nG ops ((pre++[e])++es) σ0 (fun _=>true) (i+1):=by
   simp only[nG,if_true];rw[<-Vj];simp only[ho,rW];rw[<-Xt]
  obtain⟨h1,h2,h3⟩:=ih (pre++[e]) (by simp[hp]) (by rw[<-Iu,hd];rfl) oM iR
  grind
section
variable {P : Program} {ops : Array Oper} {N0 : Nat}
theorem Xu{Q:Exit->Act->World->Prop}{K:AS->Prop}{nt k0:Nat}(K7:∀(j:Nat) o,ops[j]? =some o->∀k∈wC o,k<j)(SP:∀j,k0<=j->j<ops.size->∀i,i<j->Reach ops.toList i j)
  (hd:ops.toList.all (fS nt)=true) {E0:Env} {W0:World} {A0:Act} {ro:Option Nat} (hQ:∀E W act σ,eU E0 W0 A0 E W act->Rel E W σ act->σ.nt=nt->K σ->Q .normal act W):
  ∀(d m:Nat),ops.size-m=d->m<=ops.size->k0<=m->∀(fuel:Nat) (l:Array Bool) (E:Env) (W:World) (act:Act) (σ:AS),l.size=ops.size->(List.range ops.size).countP (fun i=> !cM l i)<=fuel->(∀i,cM l i=decide (i<m))->
   eU E0 W0 A0 E W act->Rel E W σ act->σ.nt=nt->b8 P true ops (ops.toList.drop m) σ K->wpAnyIn (l7 ro) 3 P .any ops Q fuel l act W
 |0,m,hm,hle,hk,fuel,l,E,W,act,σ,hl,K8,hex,hv,hr,cL,h=>by
  have y5:m=ops.size:=oM
  have iW:Region.ready .any ops l=[]:=by
   cases bA6:Region.ready .any ops l with
   |nil=>rfl
   |cons i rest=>
    exfalso;have MG:i∈Region.ready .any ops l:=by rw[bA6];simp
    grind [mem_ready,cM]
  rw[y5,TA (by simp)]at h
  have hq:=hQ E W act σ hv hr cL h;cases fuel with
  |zero=>exact⟨iW,hq⟩
  |succ fuel=>exact⟨fun _=>hq,fun j hj=>by grind⟩
 |d+1,m,hm,hle,hk,fuel,l,E,W,act,σ,hl,K8,hex,hv,hr,cL,h=>by
  have y5:m<ops.size:=oM
  have gZ:SM ops.toList (cM l):=fun j o ho hj k hk=>by
   grind
  have Hk:m∈Region.ready .any ops l:=by
   rw[mem_ready];have h1:cM l m=false:=by rw[hex];simp
   have dQ:l.getD m true=false:=by
    have:m<l.size:=oM
    simp[cM,this]at h1;simp[this,h1]
   refine⟨dQ,ops[m],OV y5,fun e he hb=> ?_⟩
   have hk:e.on∈wC ops[m]:=mF.2 ⟨e,KM.2 ⟨by grind,hb⟩,rfl⟩
   have:=K7 m _ (OV y5) e.on hk
   show cM l e.on=true
   rw[hex];simpa using this
  have h2:0<(List.range ops.size).countP (fun i=> !cM l i):=Zx.2 ⟨m,by grind,by grind⟩
  obtain⟨fuel,rfl⟩:∃f,fuel=f+1:=⟨fuel-1,oM⟩
  refine⟨(fun iW=>by grind),fun j hj=> ?_⟩
  obtain⟨h0,o,ho,SQ⟩:=mem_ready.1 hj;have J6:j<ops.size:=(k7.1 ho).1
  have xQ:cM l j=false:=by
   have:j<l.size:=oM
   simp[this]at h0;simp[cM,this,h0]
  have rA:ops.toList[j]? =some o:=by simpa using ho
  have NN:∀k∈wC o,cM l k=true:=fun k hk=>by
   obtain⟨e,he,rfl⟩:=mF.1 hk;obtain⟨mJ,oZ⟩:=KM.1 he;exact SQ e (by grind) oZ
  have He:∀i,Reach ops.toList i j->cM l i=true:=fun i h=>by
   cases h with
   |step h hi=>grind
   |trans h hk hr=>rw[rA]at h;injection h with h;subst h;exact hr.closed gZ (NN _ hk)
  have Hl:j=m:=by
   have h3:m<=j:=by rw[hex]at xQ;simpa using xQ
   rcases qY m j with h4|h4
   ·grind
   ·omega
  subst Hl;rw[OP oM]at h
  have Hm:ops.toList[j]' oM=o:=by
   rw[gY oM]at rA
   exact YC rA
  rw[Hm]at h
  have pS:∀i,cM (l.setIfInBounds j true) i=(cM l i||decide (i=j)):=fun i=>by
   unfold cM;by_cases kZ:i=j
   ·simp_all
   simp_all [wD]
  have IK:fS σ.nt o=true:=by rw[cL];exact iM.1 hd o (by grind)
  have eQ:=Fl (ro:=ro) (next:=wpAnyIn (l7 ro) 3 P .any ops Q fuel (l.setIfInBounds j true)) (Q:=Q) h IK hr (fun E' W' aN cK lD cG Hn hK=>by
   refine Xu K7 SP hd hQ d (j+1) oM oM oM fuel _ E' W' cK aN (by grind) ?_ (fun i=> ?_) (hv.trans lD) cG (Hn.trans cL) hK
   ·have key:∀n,j<n->(List.range n).countP (fun i=> !cM (l.setIfInBounds j true) i)<(List.range n).countP (fun i=> !cM l i):=by
     intro n
     induction n with
     |zero=>omega
     |succ n XT=>
      intro Xs;rw[GV,TE,TE];by_cases aT:j=n
      ·subst aT
       have hle:(List.range j).countP (fun i=> !cM (l.setIfInBounds j true) i)<=(List.range j).countP (fun i=> !cM l i):=Zy fun i _ h=>by
        grind
       grind
      grind
    grind
   grind)
  unfold wpOpIn;simp only[ho];by_cases hw:Region.wanted o (yielded ops act.tmps)=true
  ·grind
  ·simp only[hw]at eQ⊢
   exact⟨fun _ _=>trivial,eQ⟩
end
def K9(ops:List Oper)(k:Nat):Bool:=decide (k<=ops.length)&&(List.range ops.length).all fun j=>decide (j<k)||(List.range j).all fun i=>((tab ops).getD j 0).testBit i
theorem Xv{ops:Array Oper}{k:Nat}(h:K9 ops.toList k=true):k<=ops.size/\∀j,k<=j->j<ops.size->∀i,i<j->Reach ops.toList i j:=by
 unfold K9 at h;simp only[jF,decide_eq_true_eq,iM,List.mem_range,GN]at h
 grind [XQ]
theorem Xw{P:Program}{σ aN:AS}{Q:Exit->AS->Prop}{id:Nat}{ops:Array Oper}{es:List Entry}(k0:Nat)(hm:P.follows .mixedOrders=true)(hs:zN ops=true)(ht:K9 ops.toList k0=true)(hd:ops.toList.all (fS σ.nt)=true)
  (hr:fX P ops.toList σ.H.next 0 (ops.toList.take k0) {σ with H:=⟨σ.H.next+ops.size,σ.H.get⟩} es aN) (sE:xC (tab ops.toList) 0 [] es=true) (h:b8 P true ops (ops.toList.drop k0) aN (Q .normal)):AW P (.region id ops true) σ Q:=fun ro E W act dP bL=>by
 obtain⟨h1,h2⟩:=Xj hs;obtain⟨hk,SS⟩:=Xv ht;obtain⟨h3,h4,h5⟩:=hr.pO hk (σ0:={σ with H:=⟨σ.H.next+ops.size,σ.H.get⟩}) [] rfl rfl (qV _) rfl
 simp only[sF]at h3 h4 h5;have SU:=(Gx es 0 [] sE).2;simp only[vB]at SU
 have SV:∀i,cM (Array.replicate ops.size false) i=false:=fun i=>by
  unfold cM;by_cases wN:i<ops.size<;>simp[wN]
 refine wpIn_region_any hm ?_
 refine Xo (N0:=σ.H.next) (σ0:={σ with H:=⟨σ.H.next+ops.size,σ.H.get⟩}) (es:=es) (E0:=E) (W0:=W) (A0:=act) hk h3 SS (fun j o e ho he=>h5 j o e (qV _) ho he) h1 h2 (fun i j a b kZ ha hb hc=>XQ (SU i j a b kZ ha hb hc)) hd (by grind)
  (fun fuel l E' W' cK hl K8 hex hv cG=>Xu (K:=Q .normal) (nt:=σ.nt) h1 SS hd (E0:=E) (W0:=W) (fun E2 W2 Xx y2 fI mD JK hK=>⟨E2,y2,fI,mD,JK,hK⟩) (ops.size-k0) k0 rfl hk (cA _) fuel l E' W' cK aN hl K8 hex hv (by grind) (by rw[h4,GI]) h)
  ops.size (Array.replicate ops.size false) E W.drew act (by simp) ?_ ?_ (fun i _=>SV i) (eU.of (bE.drew E W) rfl) ?_ ?_
 ·simp_all
 ·intro j o _ hj
  grind
 ·have heq:∀k,nG ops es {σ with H:=⟨σ.H.next+ops.size,σ.H.get⟩} (cM (Array.replicate ops.size false)) k={σ with H:=⟨σ.H.next+ops.size,σ.H.get⟩}:=by
   intro k
   induction k with
   |zero=>rfl
   |succ k ih=>simp_all [nG]
  rw[heq];exact⟨bL.defers.mono (bE.drew E W),bL.size,fun t c a ha=>let ⟨v,h1,h2,h3⟩:=bL.env t c a ha;⟨v,h1,fun hc=>(h2 hc).mono (bE.drew E W),h3⟩,⟨fun id aC=>tX (bL.heap.next id aC) (Nat.le_add_right _ _),bL.heap.core.drew⟩⟩
 ·exact fun id aC=> .inl (bL.heap.next id aC)
theorem SX{P:Program}{σ aN:AS}{Q:Exit->AS->Prop}{id:Nat}{ops:Array Oper}{es:List Entry}(hm:P.follows .mixedOrders=true)(hs:zN ops=true)(hd:ops.toList.all (fS σ.nt)=true)
  (hr:fX P ops.toList σ.H.next 0 ops.toList {σ with H:=⟨σ.H.next+ops.size,σ.H.get⟩} es aN) (sE:xC (tab ops.toList) 0 [] es=true) (h:Q .normal aN):AW P (.region id ops true) σ Q:=
 Xw ops.size hm hs (by simp+contextual [K9]) hd (by rw[cN (by simp)];exact hr) sE (by rw[TA (by simp)];exact h)
end Go.AL
