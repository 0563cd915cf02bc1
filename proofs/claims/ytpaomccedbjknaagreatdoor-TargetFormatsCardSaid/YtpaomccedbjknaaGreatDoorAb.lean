/- Target: contracts of its functions (Ab). No condition but those named. -/
import Derived.Test.YtpaomccedbjknaaGreatDoorAa
import Derived.Test.YtpaomccedbjknaaGreatDoorLe
set_option linter.all false
namespace Go.Proofs.YtpaomccedbjknaaGreatDoor
open Go.Proofs Go.AL Tryz
abbrev PC(n:FuncId)(args:List AV)(r:AV):Prop:=eA prog n args (·=r)
abbrev FC(n:FuncId)(args:List AV)(r:AV):Prop:=nJ prog n args r
abbrev aQ:=(Int×Int×Int×Int)×(Int×Int×Int×Int)
abbrev uV(x:Int):AV:= .c (.int .u8 x)
def aP(s:aQ):List AV:=[uV s.1.1,uV s.1.2.1,uV s.1.2.2.1,uV s.1.2.2.2,uV s.2.1,uV s.2.2.1,uV s.2.2.2.1,uV s.2.2.2.2]
def bS:aQ:=((0,0,0,0),(0,0,0,0))
def kD(x:Int×aQ):List AV:=zV x.1::aP x.2
theorem TG(s:aQ):∀x∈aP s,bF x:=by
 intro x hx;simp only[aP,dJ,iI,or_false]at hx;rcases hx with rfl|rfl|rfl|rfl|rfl|rfl|rfl|rfl<;>exact .c _
@[go_sem] theorem bQ9(s:aQ):(∀x,x∈aP s->bF x)=True:=eq_true (TG s)
@[go_sem] theorem aa3(s:aQ):(aP s).length=8:=rfl
@[go_sem] theorem aa4(s:aQ):(aP s).all AV.one=true:=rfl
@[go_sem] theorem bR0(s:aQ):(aP s).take 8=aP s:=rfl
@[go_sem] theorem bR1(s:aQ):(aP s).drop 8=[]:=rfl
@[go_sem] theorem bR2(G:Nat->Option aI)(s:aQ):(aP s).map (oL G)=aP s:=rfl
instance :rN aP 8:=⟨aa3,aa4,TG⟩
instance :rN kD 9:=⟨fun _=>rfl,fun _=>rfl,fun a x hx=>by
 simp only[kD,dJ]at hx;rcases hx with rfl|hx
 ·exact .c _
 ·exact TG _ x hx⟩
def aO(x:Int):List AV:=[uV x]
instance :rN aO 1:=⟨fun _=>rfl,fun _=>rfl,fun _ x hx=>by simp[aO]at hx;subst hx;exact .c _⟩
@[go_sem] theorem bR3:eX prog 67=some (aP bS):=by kernel_rfl
theorem aa5(x:Int)(s:aQ):[zV x::aP s]=aB kD [(x,s)]:=rfl
theorem aa6(a:List aQ)(s:aQ):aB aP a++[aP s]=aB aP (a++[s]):=kK a s
theorem aa7(a:List aQ)(i:Nat)(s:aQ):(aB aP a).set i (aP s)=aB aP (a.set i s):=KO a i s
theorem aa8(n:Nat)(s:aQ):List.replicate n (aP s)=aB aP (List.replicate n s):=YF n s
theorem aa9(a:List Int)(x:Int):aB aO a++[[uV x]]=aB aO (a++[x]):=kK a x
theorem ab0(l:List Int)(i:Nat)(x:Int):(aB aO l).set i [uV x]=aB aO (l.set i x):=KO l i x
theorem ab1(n:Nat)(x:Int):List.replicate n [uV x]=aB aO (List.replicate n x):=YF (f:=aO) n x
attribute [go_sem] aa5 aa6 aa7 aa8 aa9 ab0 ab1 aO kD gP zP yG List.take_replicate XZ cA
attribute [go_sem] TH KP vC zW ab2 ab3 ab4 ab5
structure eD where
 aR:List Int
 gQ:Int
 data:Int
 dY:Int
 dK:Int
 jM:Int
def cC(r:eD):List AV:=[.snap (aB aW r.aR),zV r.gQ,zV r.data,zV r.dY,zV r.dK,zV r.jM]
theorem Jc(r:eD):bF (.agg (cC r)):=eM.2 fun x hx=>by
 simp only[cC,dJ,iI,or_false]at hx;rcases hx with rfl|rfl|rfl|rfl|rfl|rfl<;>first|exact .c _|exact gJ _
end Go.Proofs.YtpaomccedbjknaaGreatDoor
namespace Go.Proofs.YtpaomccedbjknaaGreatDoor
open Go.Proofs Go.AL Tryz
set_option maxRecDepth 100000
set_option maxHeartbeats 8000000
attribute [local irreducible] bT AW b8 cF dB hold
theorem gI(l:List Int)(k:Nat)(h:k<l.length):(aB aW l)[k]? =some (aW (l.getD k 0)):=tB 0 h
def fY(n:Int):Bool:=decide (0<=n)&&decide (n<=1073741824)
theorem Jd(n:Int):PC 83 [zV n] (bV (fY n)):=by
 refine aZ func83 ntmps83 (.c _) ?_;exact zEa
theorem ab6(n:Int):PC 93 [zV n] (bV (fY n)):=by
 refine aZ func93 ntmps93 (.c _) ?_;exact zEa
def yI(l:List Int):Int:=l.foldl (fun s x=>IntKind.i64.wrap (s+x)) 0
theorem Je{l:List Int}{k:Nat}(h:k<l.length):yI (l.take (k+1))=IntKind.i64.wrap (yI (l.take k)+l.getD k 0):=by
 unfold yI;rw[CS h,Hz];simp[h]
theorem TI(l:List Int)(hl:l.length<=1000000):PC 86 [.snap (aB aW l)] (zV (yI l)):=by
 refine aZ func86 ntmps86 (.c _) ?_;refine aM ?_;have hg:=gI l;refine nS l.length 0 [] (fun k=> [(8,true,zV k),(7,true,zV l.length),(6,true,.snap (aB aW l)),(3,true,zV (yI (l.take k)))]) aG (fun k m hk hm=> ?_) (fun m hm=> ?_)
 ·have h1:=Je hk
  refine aM ?_;exact⟨m,hm,aG⟩
 ·refine aM ?_
  exact cR
theorem YG(l:List Int)(hl:l.length<=1000000):PC 22 [.snap (aB aW l)] (zV (yI l)):=by
 refine aZ func22 ntmps22 (.c _) ?_;refine aM ?_;have hg:=gI l;refine nS l.length 0 [] (fun k=> [(4,true,zV k),(0,true,.snap (aB aW l)),(3,true,zV (yI (l.take k)))]) aG (fun k m hk hm=> ?_) (fun m hm=> ?_)
 ·have h1:=Je hk
  refine aM ?_;exact⟨m,hm,aG⟩
 ·refine aM ?_
  exact cR
def pL(n:Int):Bool:=decide (n<1)||decide (4096<n)
theorem ab7(n:Int):PC 155 [zV n] (bV (pL n)):=by
 refine aZ func155 ntmps155 (.c _) ?_;exact zEa
theorem ab8(l:List Int)(hl:l.length<=1000000):PC 227 [.snap (aB aW l),.fn (.func 155) [] []] (zV (match l.findIdx? pL with|some i=>(i:Int)|none=> -1)):=by
 refine aZ func227 ntmps227 (.c _) ?_;refine aM ?_;have hg:=gI l;have c1:=ab7;refine dC (α:=Unit) l.length (fun k _=> [(8,true,zV k),(7,true,zV l.length),(0,true,.snap (aB aW l)),(1,true,.fn (.func 155) [] [])]) (fun _ _=> []) (fun k m _=>∀i,i<k->pL (l.getD i 0)=false) ⟨0,(),fun i hi=>by omega,aG⟩ (fun k m _ hk hR=> ?_) (fun m _ hR=> ?_)
 ·refine aM ?_
  refine YH (fun h=> ?_) (fun h=> ?_)
  ·have hf:l.findIdx? pL=some k:=by
    rw[KG];exact⟨hk,by simpa[hk]using h,fun j hj=>by have:=hR j hj;simp[show j<l.length by omega]at this;simpa using this⟩
   exact zEa
  ·refine aM ?_
   refine⟨m,(),fun i hi=> ?_,aG⟩
   by_cases iJ:i=k
   ·subst iJ;exact h
   ·exact hR i oM
 ·have hf:l.findIdx? pL=none:=by
   rw[KH];intro x hx;obtain⟨i,hi⟩:=CT.1 hx;obtain⟨h1,h2⟩:=fT.1 hi;have:=hR i h1;simp[h1,h2]at this;exact this
  exact zEa
def pM(o:Option Nat):Int:=match o with|some i=>(i:Int)|none=> -1
theorem ab9(l:List Int):decide (0<=pM (l.findIdx? pL))=l.any pL:=by
 cases h:l.findIdx? pL with
 |none=>
  rw[KH]at h;simp only[pM];symm;simpa using h
 |some i=>
  rw[KG]at h;obtain⟨h1,h2,_⟩:=h;simp only[pM];have:l.any pL=true:=CU.2 ⟨_,EN h1,h2⟩;rw[this];simp
theorem ac0(l:List Int)(hl:l.length<=1000000):PC 227 [.snap (aB aW l),.fn (.func 155) [] []] (zV (pM (l.findIdx? pL))):=ab8 l hl
theorem ac1(l:List Int)(hl:l.length<=1000000):PC 154 [.snap (aB aW l),.fn (.func 155) [] []] (bV (l.any pL)):=by
 refine aZ func154 ntmps154 (.c _) ?_;have c1:=ac0 l hl;have h1:=ab9 l;exact zEa
def cZ(l:List Int):Int:=if l.length<1\/8<l.length then 6 else if l.any pL then 2 else 0
theorem Jf(l:List Int)(hl:l.length<=1000000):PC 74 [.snap (aB aW l)] (zV (cZ l)):=by
 refine aZ func74 ntmps74 (.c _) ?_;have c1:=ac1 l hl;unfold cZ;by_cases h1:l.length<1
 ·refine aM ?_
  exact cR
 ·by_cases h2:8<l.length
  ·refine aM ?_
   exact cR
  ·cases h3:l.any pL
   ·refine aM ?_
    exact cR
   ·refine aM ?_
    exact cR
theorem TJ(l:List Int)(hl:l.length<=1000000):PC 21 [.snap (aB aW l)] (zV (cZ l)):=by
 refine aZ func21 ntmps21 (.c _) ?_;have hg:=gI l;unfold cZ;by_cases h1:l.length<1
 ·refine aM ?_
  exact cR
 ·by_cases h2:8<l.length
  ·refine aM ?_
   exact cR
  ·refine aM ?_
   refine dC (α:=Unit) l.length (fun k _=> [(3,true,zV k),(0,true,.snap (aB aW l))]) (fun _ _=> []) (fun k m _=>∀i,i<k->pL (l.getD i 0)=false) ⟨0,(),fun i hi=>by omega,aG⟩ (fun k m _ hk hR=> ?_) (fun m _ hR=> ?_)
   ·have h4:=eB 0 hk
    by_cases g1:l.getD k 0<1
    ·have h3:l.any pL=true:=CU.2 ⟨_,h4,by unfold pL;rw[TH g1];rfl⟩
     exact zEa
    ·by_cases g2:4096<l.getD k 0
     ·have h3:l.any pL=true:=CU.2 ⟨_,h4,by unfold pL;rw[TH g2];simp⟩
      exact zEa
     ·refine aM ?_
      refine⟨m,(),fun i hi=> ?_,aG⟩
      by_cases iJ:i=k
      ·subst iJ;unfold pL;rw[KP g1,KP g2];rfl
      ·exact hR i oM
   ·have h3:l.any pL=false:=by
     rw[Y0];intro x hx;obtain⟨i,hi⟩:=CT.1 hx;obtain⟨h1,h2⟩:=fT.1 hi;have:=hR i h1;simp[h1,h2]at this;simp[this]
    exact zEa
def jG(n:Int):List aQ:=List.replicate n.toNat bS
def bA(v:List aQ):List AV:=[.snap (aB aP v)]
instance :rN bA 1:=⟨fun _=>rfl,fun _=>rfl,fun _ x hx=>by simp[bA]at hx;subst hx;exact gJ _⟩
theorem ac2(a:List (List aQ))(v:List aQ):aB bA a++[[.snap (aB aP v)]]=aB bA (a++[v]):=kK a v
attribute [go_sem] ac2 bA
theorem ac3(n:Int)(h0:0<=n)(h1:n<=1000000):PC 76 [zV n] (.snap (aB aP (jG n))):=by
 refine aZ func76 ntmps76 (gJ _) ?_;refine aM ?_;unfold jG;exact cR
theorem TK{α β:Type}(f:α->β)(d:α){l:List α}{k:Nat}(h:k<l.length):(l.map f).take (k+1)=(l.map f).take k++[f (l.getD k d)]:=by
 rw[CS (by simpa using h)]
 simp[h]
theorem ac4(l:List Int)(hl:l.length<=1000)(h:∀x∈l,0<=x/\x<=1000000):PC 75 [.snap (aB aW l),.fn (.func 76) [] []] (.snap (aB bA (l.map jG))):=by
 refine aZ func75 ntmps75 (gJ _) ?_;have hg:=gI l;have c1:=ac3;refine aM ?_;refine dC (α:=Nat) l.length (fun k id=> [(13,true,zV k),(12,true,zV l.length),(11,true,.snap (aB aW l)),(1,true,.fn (.func 76) [] []),(5,true,.own id 0 k)]) (fun k id=> [(id,some (.cells 58 1 (aB bA ((l.map jG).take k)) true true))]) (fun k m id=>id<m) ⟨1,0,oM,aG⟩ (fun k m id hk hR=> ?_) (fun m id hR=> ?_)
 ·have h2:=h _ (eB 0 hk)
  have h3:=h2.1;have h4:=h2.2;have h5:=TK jG 0 hk;have h6:((l.map jG).take k).length=k:=by simp;omega
  refine aM ?_;exact⟨m+2,m+1,oM,aG⟩
 ·have h6:(l.map jG).take l.length=l.map jG:=cN (by simp)
  exact zEa
theorem GZ{l:List Int}(h:cZ l=0):1<=l.length/\l.length<=8/\∀x∈l,1<=x/\x<=4096:=by
 unfold cZ at h;split at h
 ·cases h
 ·rename_i h1
  split at h
  ·cases h
  ·rename_i h2
   refine⟨oM,oM,fun x hx=> ?_⟩
   have h3:l.any pL=false:=by simpa using h2
   rw[Y0]at h3;have:=h3 x hx;simp[pL]at this;omega
def sum(l:List Int):Int:=l.foldl (·+ ·) 0
theorem sum_cons(x:Int)(l:List Int):sum (x::l)=x+sum l:=by
 have key:∀(l:List Int) (a:Int),l.foldl (·+ ·) a=a+l.foldl (·+ ·) 0:=by
  intro l
  induction l with
  |nil=>intro a;simp
  |cons y r ih=>intro a;rw[EP,EP,ih,ih (0+y)];omega
 show(x::l).foldl (·+ ·) 0=x+l.foldl (·+ ·) 0
 rw[EP,key];omega
theorem Jg{l:List Int}(h:l.length<=1000)(hx:∀x∈l,0<=x/\x<=1000000):yI l=sum l/\0<=sum l/\sum l<=l.length*1000000:=by
 have key:∀(l:List Int) (a:Int),0<=a->a+l.length*1000000<=6000000000000000000->(∀x∈l,0<=x/\x<=1000000)->l.foldl (fun s x=>IntKind.i64.wrap (s+x)) a=a+sum l/\0<=sum l/\sum l<=l.length*1000000:=by
  intro l
  induction l with
  |nil=>intro a _ _ _;simp[sum]
  |cons y r ih=>
   intro a h1 h2 h4;have hy:=h4 y (by simp)
   simp only[iQ]at h2⊢;rw[EP,sum_cons,IntWalk.i64_in (a+y) oM]
   obtain⟨h5,h6,h7⟩:=ih (a+y) oM oM fun x hx=>h4 x (by simp[hx])
   rw[h5];omega
 have:=key l 0 oM oM hx
 unfold yI;omega
theorem BD{l:List Int}(h:cZ l=0):yI l=sum l/\1<=sum l/\sum l<=32768:=by
 obtain⟨h1,h2,h3⟩:=GZ h;have h4:=Jg (l:=l) oM fun x hx=>by have:=h3 x hx;omega
 refine⟨h4.1,?_,?_⟩
 ·cases l with
  |nil=>simp at h1
  |cons x r=>
   have h5:=h3 x (by simp)
   have h6:=Jg (l:=r) (by simp at h2;omega) fun x hx=>by have:=h3 x (by simp[hx]);omega
   rw[sum_cons];omega
 ·have key:∀l:List Int,(∀x∈l,1<=x/\x<=4096)->sum l<=l.length*4096:=by
   intro l
   induction l with
   |nil=>intro _;simp[sum]
   |cons y r ih=>
    intro h;have h5:=h y (by simp)
    have h6:=ih fun x hx=>h x (by simp[hx])
    rw[sum_cons,iQ];omega
  have:=key l h3;omega
def mG(l:List Int):List (List aQ):=if cZ l=0 then l.map jG else []
theorem OX(l:List Int)(hl:l.length<=1000000):PC 20 [.snap (aB aW l)] (.aK [.snap (aB bA (mG l)),zV (cZ l)]):=by
 refine aZ func20 ntmps20 (by simp only[go_sem]) ?_
 have c1:=Jf l hl;unfold mG;by_cases h:cZ l=0
 ·obtain⟨h1,h2,h3⟩:=GZ h
  have c2:=ac4 l oM fun x hx=>by have:=h3 x hx;omega
  exact zEa
 ·refine aM ?_
  simp only[yJ];exact cR
theorem YI(l:List Int)(h:l≠[])(hl:l.length<=1000000):r5 prog 123 [.snap (aB aW l)] 3 1 (aB aW l):=by
 refine EU func123 ntmps123 (by simp only[go_sem]) (oN l) ?_
 have h1:=qF h;refine aM ?_;exact⟨1,by simp only[go_sem],by simp only[go_sem]⟩
theorem Jh(a:Option Addr)(cap:Nat):PC 123 [.c (.slice a 0 cap)] (.snap (aB aW [])):=by
 refine aZ func123 ntmps123 (gJ _) ?_;cases a with
 |none=>
  refine aM ?_;simp only[yJ];exact cR
 |some a=>
  refine aM ?_;simp only[yJ];exact cR
theorem yK(l:List Int)(hl:l.length<=1000000):PC 123 [.snap (aB aW l)] (.snap (aB aW l)):=by
 by_cases h:l=[]
 ·subst h
  exact eA.nil (pre:=[]) (post:=[]) Jh
 ·refine aZ func123 ntmps123 (gJ l) ?_
  have h1:=qF h;exact zEa
def rO(l:List Int)(s d:Int):Int:=
 if cZ l=0 then(if s<0\/4080<s\/d<0\/4096-sum l<d then 2 else if s<d+sum l/\d<s+16 then 1 else 0)else cZ l
theorem ac5(r:eD)(hl:r.aR.length<=1000000):FC 160 [.cH [cC r] 0 0] (zV (IntKind.i64.wrap (r.data+yI r.aR))):=by
 refine nJ.H3 ?_ rfl;refine aZ func160 ntmps160 (.c _) ?_;have c1:=TI r.aR hl;unfold cC;exact zEa
theorem YJ(r:eD)(hl:r.aR.length<=1000000):FC 81 [.cH [cC r] 0 0] (zV (rO r.aR r.gQ r.data)):=by
 refine nJ.H3 ?_ rfl;refine aZ func81 ntmps81 (.c _) ?_;have c1:=OX r.aR hl;have c2:=TI r.aR hl;have c3:=(ac5 r hl).TL;unfold cC at c3⊢;unfold rO;by_cases h:cZ r.aR=0
 ·obtain⟨h1,h2,h3⟩:=BD h
  have h5:IntKind.i64.wrap (4096-sum r.aR)=4096-sum r.aR:=IntWalk.i64_in _ oM
  by_cases g1:r.gQ<0
  ·refine aM ?_
   exact cR
  by_cases g2:4080<r.gQ
  ·refine aM ?_
   exact cR
  by_cases g3:r.data<0
  ·refine aM ?_
   exact cR
  by_cases g4:4096-sum r.aR<r.data
  ·refine aM ?_
   exact cR
  have h6:IntKind.i64.wrap (r.data+sum r.aR)=r.data+sum r.aR:=IntWalk.i64_in _ oM
  have h7:IntKind.i64.wrap (r.gQ+16)=r.gQ+16:=IntWalk.i64_in _ oM
  by_cases g5:r.gQ<r.data+sum r.aR
  ·by_cases g6:r.data<r.gQ+16
   ·refine aM ?_
    exact cR
   ·refine aM ?_
    exact cR
  ·refine aM ?_
   exact cR
 ·refine aM ?_
  exact cR
theorem ac6(l:List Int)(s d:Int)(hl:l.length<=1000000):PC 92 [.snap (aB aW l),zV s,zV d] (zV (rO l s d)):=by
 refine aZ func92 ntmps92 (.c _) ?_;have c1:=TJ l hl;have c2:=YG l hl;unfold rO;by_cases h:cZ l=0
 ·obtain⟨h1,h2,h3⟩:=BD h
  refine aM ?_;refine YH (fun h4=> ?_) (fun h4=> ?_)
  ·have h6:s<0\/4080<s\/d<0\/4096-sum l<d:=by
    simp only[h1,GN,decide_eq_true_eq]at h4;by_cases g3:d<0
    ·exact .inr (.inr (.inl g3))
    by_cases g4:4096<d
    ·omega
    rw[IntWalk.i64_in (4096-d) oM]at h4
    omega
   exact zEa
  ·have h6:¬(s<0\/4080<s\/d<0\/4096-sum l<d):=by
    simp only[h1,Bool.or_eq_false_iff,decide_eq_false_iff_not]at h4;rw[IntWalk.i64_in (4096-d) oM]at h4
    omega
   have h7:IntKind.i64.wrap (d+sum l)=d+sum l:=IntWalk.i64_in _ oM
   have h8:IntKind.i64.wrap (s+16)=s+16:=IntWalk.i64_in _ oM
   by_cases g5:s<d+sum l
   ·by_cases g6:d<s+16
    ·refine aM ?_
     exact cR
    ·refine aM ?_
     exact cR
   ·refine aM ?_
    exact cR
 ·refine aM ?_
  exact cR
def mQ(r:eD):Int:=
 if rO r.aR r.gQ r.data=0 then(if fY r.dY=true/\fY r.dK=true/\fY r.jM=true then(if r.jM≠0/\r.jM<=r.dK then 12 else 0)else 2)else rO r.aR r.gQ r.data
theorem H4(r:eD)(hl:r.aR.length<=1000000):FC 210 [.cH [cC r] 0 0] (zV (mQ r)):=by
 refine nJ.H3 ?_ rfl;refine aZ func210 ntmps210 (.c _) ?_;have c1:=(YJ r hl).TL;have c2:=Jd;unfold cC at c1⊢;unfold mQ;by_cases h:rO r.aR r.gQ r.data=0
 ·cases g1:fY r.dY
  ·refine aM ?_
   exact cR
  cases g2:fY r.dK
  ·refine aM ?_
   exact cR
  cases g3:fY r.jM
  ·refine aM ?_
   exact cR
  by_cases g4:r.jM=0
  ·rw[g4]at c1 g3
   exact zEa
  by_cases g5:r.jM<=r.dK
  ·refine aM ?_
   exact cR
  ·refine aM ?_
   exact cR
 ·refine aM ?_
  exact cR
theorem gB(l:List Int)(k:Nat)(h:k<l.length):(aB aO l)[k]? =some (aO (l.getD k 0)):=tB 0 h
theorem H5(l:List Int):∀row∈aB aO l,∀x∈row,∃v,x= .c v:=by
 intro row hr x hx;simp only[aB,mF]at hr;obtain⟨a,_,rfl⟩:=hr;simp[aO]at hx;exact⟨_,hx⟩
theorem ac7(G:Nat->Option aI)(k:Nat)(l:List Int):(aB aO l).map (fun row=>row.map (bJ G k))=aB aO l:=KQ (fun a x hx=>by simp[aO]at hx;exact⟨_,hx⟩) G k l
theorem ac8(G:Nat->Option aI)(k:Nat)(l:List Int):(aB aO l).flatMap (fun row=>row.flatMap (gK G k))=[]:=ac9 (fun a x hx=>by simp[aO]at hx;exact⟨_,hx⟩) G k l
attribute [go_sem] ac7 ac8
def vg(n:Nat):List Int:=if h:n<128 then [(n:Int)]else((n % 128+128:Nat):Int)::vg (n/128)
termination_by n
decreasing_by omega
theorem KR{n:Nat}(h:n<128):vg n=[(n:Int)]:=by rw[vg];simp[h]
theorem OY{n:Nat}(h:¬n<128):vg n=((n % 128+128:Nat):Int)::vg (n/128):=by rw[vg];simp[h]
theorem OZ:∀(f n:Nat),n<128 ^ (f+1)->(vg n).length<=f+1
 |0,n,h=>by rw[KR (by simpa using h)];simp
 |f+1,n,h=>by
  by_cases hn:n<128
  ·rw[KR hn];simp
  ·rw[OY hn,iQ]
   have:=OZ f (n/128) (by rw[Nat.pow_succ]at h;omega)
   omega
def iY(n:Int):Nat:=if n<0\/9007199254740991<n then 0 else n.toNat
def aV(n:Int):List Int:=vg (iY n)
theorem Ji{x:Int}(h0:0<=x)(h1:x<128):bits .or .u8 x 128=x+128:=by
 have key:∀i:Fin 128,bits .or .u8 ((i.val:Nat):Int) 128=((i.val:Nat):Int)+128:=by decide
 have:=key ⟨x.toNat,oM⟩
 simp only at this
 rwa[show((x.toNat:Nat):Int)=x by omega]at this
theorem YK(l:List Int)(h:l≠[])(hl:l.length<=1000000):r5 prog 179 [.snap (aB aO l)] 5 1 (aB aO l):=by
 refine EU func179 ntmps179 (by simp only[go_sem]) (oN l) ?_
 have h1:=qF h;refine aM ?_;exact⟨1,by simp only[go_sem],by simp only[go_sem]⟩
structure Out where
 n:Nat
 out:List Int
 o:AV
 t:List (Nat×Option aI)
def KS(b:List Int)(n0:Nat)(m:Nat)(a:Out):Prop:=
 a.n<=9007199254740991/\a.out++vg a.n=b++vg n0/\((a.o= .c (.slice none 0 0)/\a.t=[]/\a.out=[])\/∃id,id<m/\a.o= .own id 0 a.out.length/\a.t=[(id,some (.cells 5 1 (aB aO a.out) true true))])
def ad0(r:AV)(H:Heap)(l:List Int):Prop:=∃i,r= .own i 0 l.length/\H.get i=some (.cells 5 1 (aB aO l) true true)
theorem TM(b:List Int)(n:Int)(hb:b.length<=100000)(o:AV)(t:List (Nat×Option aI))(N:Nat)(h:KS b (iY n) N ⟨iY n,b,o,t⟩):fW prog 178 [o,zV n] ⟨N,bN t⟩ fun r H=>ad0 r H (b++aV n):=by
 refine YL func178 ntmps178 ?_;have gZ:iY n<=9007199254740991:=by unfold iY;split<;>omega
 refine aM ?_;refine YM [(0,true,o),(1,true,zV (iY n))] N t ?_ ?_
 ·by_cases h1:n<0
  ·have h2:iY n=0:=by unfold iY;rw[if_pos (.inl h1)]
   refine aM ?_;exact⟨rfl,aG⟩
  by_cases h3:9007199254740991<n
  ·have h2:iY n=0:=by unfold iY;rw[if_pos (.inr h3)]
   refine aM ?_;exact⟨rfl,aG⟩
  ·have h2:(iY n:Int)=n:=by unfold iY;rw[if_neg oM];omega
   refine aM ?_;exact⟨rfl,aG⟩
 refine aM ?_;refine P0 (α:=Out) (fun a=> [(0,true,a.o),(1,true,zV (a.n:Int))]) (fun a=>a.t) (KS b (iY n)) (fun a=>a.n) ⟨iY n,b,o,t⟩ ⟨N,h,aG⟩ ?_
 rintro m ⟨k,out,o,t⟩ ⟨hk,hinv,ho⟩;simp only[]at hk hinv ho⊢
 have hl:out.length<=100008:=by
  have h1:=congrArg List.length hinv;have h2:=OZ 7 (iY n) oM
  simp only[cU]at h1;omega
 by_cases h4:k<128
 ·have h5:¬(128:Int)<=k:=oM
  rw[KR h4]at hinv;have h6:b++aV n=out++[(k:Int)]:=hinv.symm;clear hinv h;rw[h6];rcases ho with⟨rfl,rfl,rfl⟩|⟨id,aC,rfl,rfl⟩
  ·refine aM ?_
   exact⟨m+1,rfl,eN⟩
  ·refine aM ?_
   exact⟨m+1,eN,eN⟩
 ·have h5:(128:Int)<=k:=oM
  rw[OY h4]at hinv;have h6:=Ji (x:=(k:Int) % 128) oM oM
  have h7:((k:Int)).tdiv 128=((k/128:Nat):Int):=rfl;have h8:(k:Int) % 128+128=((k % 128+128:Nat):Int):=oM
  have hs:KS b (iY n) (m+2) ⟨k/128,out++[((k % 128+128:Nat):Int)],.own (m+1) 0 (out++[((k % 128+128:Nat):Int)]).length,[(m+1,some (.cells 5 1 (aB aO (out++[((k % 128+128:Nat):Int)])) true true))]⟩:=
   ⟨by simp only[];omega,by simp only[];rw[nH];exact hinv,.inr ⟨m+1,oM,rfl,rfl⟩⟩
  clear hinv h;rcases ho with⟨rfl,rfl,rfl⟩|⟨id,aC,rfl,rfl⟩
  ·refine aM ?_
   exact⟨m+2,_,by simp only[];omega,hs,aG⟩
  ·refine aM ?_
   exact⟨m+2,_,by simp only[];omega,hs,aG⟩
end Go.Proofs.YtpaomccedbjknaaGreatDoor
