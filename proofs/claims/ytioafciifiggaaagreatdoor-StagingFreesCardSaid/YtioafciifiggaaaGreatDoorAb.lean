/- Staging. No condition. -/
import Derived.Test.YtioafciifiggaaaGreatDoorL0
import Derived.Test.YtioafciifiggaaaGreatDoorAa
import Derived.Test.YtioafciifiggaaaGreatDoorLe
import Derived.KernelRfl
import Derived.Laws.BitsLemmas
set_option linter.all false
namespace Go.Proofs.YtioafciifiggaaaGreatDoor
open Go.Proofs Go.AL
abbrev PC(n:FuncId)(args:List AV)(r:AV):Prop:=eU Tryz.prog n args (·=r)
abbrev FC(n:FuncId)(args:List AV)(r:AV):Prop:=tL Tryz.prog n args r
abbrev aH:=(Int×Int×Int×Int)×(Int×Int×Int×Int)
abbrev uV(x:Int):AV:= .c (.int .u8 x)
def aS(s:aH):List AV:=[uV s.1.1,uV s.1.2.1,uV s.1.2.2.1,uV s.1.2.2.2,uV s.2.1,uV s.2.2.1,uV s.2.2.2.1,uV s.2.2.2.2]
def aE:aH:=((0,0,0,0),(0,0,0,0))
def iP(x:Int×aH):List AV:=zV x.1::aS x.2
theorem ZB(s:aH):∀x∈aS s,bK x:=by
 intro x hx;simp only[aS,cG,jF,or_false]at hx;rcases hx with rfl|rfl|rfl|rfl|rfl|rfl|rfl|rfl<;>exact .c _
@[go_sem] theorem cy3(s:aH):(∀x,x∈aS s->bK x)=True:=eq_true (ZB s)
@[go_sem] theorem aI1(s:aH):(aS s).length=8:=rfl
@[go_sem] theorem aI2(s:aH):(aS s).all AV.one=true:=rfl
@[go_sem] theorem cy4(s:aH):(aS s).take 8=aS s:=rfl
@[go_sem] theorem cy5(s:aH):(aS s).drop 8=[]:=rfl
@[go_sem] theorem cy6(G:Nat->Option aI)(s:aH):(aS s).map (sA G)=aS s:=rfl
instance :wF aS 8:=⟨aI1,aI2,ZB⟩
instance :wF iP 9:=⟨fun _=>rfl,fun _=>rfl,fun a x hx=>by
 simp only[iP,cG]at hx;rcases hx with rfl|hx
 ·exact .c _
 ·exact ZB _ x hx⟩
def aN(x:Int):List AV:=[uV x]
instance :wF aN 1:=⟨fun _=>rfl,fun _=>rfl,fun _ x hx=>by simp[aN]at hx;subst hx;exact .c _⟩
@[go_sem] theorem cy7:fT Tryz.prog 124=some (aS aE):=by kernel_rfl
theorem aI3(x:Int)(s:aH):[zV x::aS s]=aA iP [(x,s)]:=rfl
theorem aI4(a:List aH)(s:aH):aA aS a++[aS s]=aA aS (a++[s]):=sP a s
theorem aI5(a:List aH)(i:Nat)(s:aH):(aA aS a).set i (aS s)=aA aS (a.set i s):=TR a i s
theorem aI6(n:Nat)(s:aH):List.replicate n (aS s)=aA aS (List.replicate n s):=Gj n s
theorem aI7(a:List Int)(x:Int):aA aN a++[[uV x]]=aA aN (a++[x]):=sP a x
theorem aI8(n:Nat)(x:Int):List.replicate n [uV x]=aA aN (List.replicate n x):=Gj (f:=aN) n x
attribute [go_sem] aI3 aI4 aI5 aI6 aI7 aI8 aN iP lI l4 s6 List.take_replicate YW cE
attribute [go_sem] Ue ZC xG CT aI9 aJ0 aJ1 aJ2
end Go.Proofs.YtioafciifiggaaaGreatDoor
namespace Go.Proofs.YtioafciifiggaaaGreatDoor
open Go.Proofs Go.AL
set_option maxRecDepth 100000
set_option maxHeartbeats 1000000
attribute [local irreducible] cH AW b9 dR eH hold
theorem gI(l:List Int)(k:Nat)(h:k<l.length):(aA bD l)[k]? =some (bD (l.getD k 0)):=pD 0 h
def xH(n:Int):Bool:=decide (n<1)||decide (4096<n)
theorem aJ3(n:Int):PC 273 [zV n] (bV (xH n)):=by
 refine bI Tryz.func273 Tryz.ntmps273 (.c _) ?_;refine aG ?_;exact aC
theorem aJ4(l:List Int)(hl:l.length<=1000000):PC 274 [.snap (aA bD l),.fn (.func 273) [] []] (zV (match l.findIdx? xH with|some i=>(i:Int)|none=> -1)):=by
 refine bI Tryz.func274 Tryz.ntmps274 (.c _) ?_;refine aG ?_;have hg:=gI l;have c1:=aJ3;refine fK (α:=Unit) l.length (fun k _=> [(8,true,zV k),(7,true,zV l.length),(0,true,.snap (aA bD l)),(1,true,.fn (.func 273) [] [])]) (fun _ _=> []) (fun k m _=>∀i,i<k->xH (l.getD i 0)=false) ⟨0,(),fun i hi=>by omega,aT⟩ (fun k m _ hk hR=> ?_) (fun m _ hR=> ?_)
 ·refine aG ?_
  refine Uf (fun h=> ?_) (fun h=> ?_)
  ·have hf:l.findIdx? xH=some k:=by
    rw[K8];exact⟨hk,by simpa[hk]using h,fun j hj=>by have:=hR j hj;simp[show j<l.length by omega]at this;simpa using this⟩
   refine aG ?_;exact aC
  ·refine aG ?_
   refine⟨m,(),fun i hi=> ?_,aT⟩
   by_cases iH:i=k
   ·subst iH;exact h
   ·exact hR i (by omega)
 ·have hf:l.findIdx? xH=none:=by
   rw[K9];intro x hx;obtain⟨i,hi⟩:=FY.1 hx;obtain⟨h1,h2⟩:=dV.1 hi;have:=hR i h1;simp[h1,h2]at this;exact this
  refine aG ?_;exact aC
def sB(o:Option Nat):Int:=match o with|some i=>(i:Int)|none=> -1
theorem aJ5(l:List Int):decide (0<=sB (l.findIdx? xH))=l.any xH:=by
 cases h:l.findIdx? xH with
 |none=>
  rw[K9]at h;simp only[sB];symm;simpa using h
 |some i=>
  rw[K8]at h;obtain⟨h1,h2,_⟩:=h;simp only[sB];have:l.any xH=true:=vX.2 ⟨_,FZ h1,h2⟩;rw[this];simp
theorem aJ6(l:List Int)(hl:l.length<=1000000):PC 274 [.snap (aA bD l),.fn (.func 273) [] []] (zV (sB (l.findIdx? xH))):=aJ4 l hl
theorem aJ7(l:List Int)(hl:l.length<=1000000):PC 231 [.snap (aA bD l),.fn (.func 273) [] []] (bV (l.any xH)):=by
 refine bI Tryz.func231 Tryz.ntmps231 (.c _) ?_;have c1:=aJ6 l hl;have h1:=aJ5 l;refine aG ?_;exact aC
def pX(l:List Int):Int:=if l.length<1\/8<l.length then 6 else if l.any xH then 2 else 0
theorem Ug(l:List Int)(hl:l.length<=1000000):PC 228 [.snap (aA bD l)] (zV (pX l)):=by
 refine bI Tryz.func228 Tryz.ntmps228 (.c _) ?_;have c1:=aJ7 l hl;unfold pX;by_cases h1:l.length<1
 ·refine aG ?_
  exact aC
 ·by_cases h2:8<l.length
  ·refine aG ?_
   exact aC
  ·cases h3:l.any xH
   ·refine aG ?_
    exact aC
   ·refine aG ?_
    exact aC
def qR(n:Int):List aH:=List.replicate n.toNat aE
def tM(v:List aH):List AV:=[.snap (aA aS v)]
instance :wF tM 1:=⟨fun _=>rfl,fun _=>rfl,fun _ x hx=>by simp[tM]at hx;subst hx;exact kL _⟩
theorem aJ8(a:List (List aH))(v:List aH):aA tM a++[[.snap (aA aS v)]]=aA tM (a++[v]):=sP a v
attribute [go_sem] aJ8 tM
theorem aJ9(n:Int)(h0:0<=n)(h1:n<=1000000):PC 230 [zV n] (.snap (aA aS (qR n))):=by
 refine bI Tryz.func230 Tryz.ntmps230 (kL _) ?_;refine aG ?_;unfold qR;exact aC
theorem Uh{α β:Type}(f:α->β)(d:α){l:List α}{k:Nat}(h:k<l.length):(l.map f).take (k+1)=(l.map f).take k++[f (l.getD k d)]:=by
 rw[I0 (by simpa using h)]
 simp[h]
theorem aK0(l:List Int)(hl:l.length<=1000)(h:∀x∈l,0<=x/\x<=1000000):PC 229 [.snap (aA bD l),.fn (.func 230) [] []] (.snap (aA tM (l.map qR))):=by
 refine bI Tryz.func229 Tryz.ntmps229 (kL _) ?_;have hg:=gI l;have c1:=aJ9;refine aG ?_;refine fK (α:=Nat) l.length (fun k id=> [(13,true,zV k),(12,true,zV l.length),(11,true,.snap (aA bD l)),(1,true,.fn (.func 230) [] []),(5,true,.own id 0 k)]) (fun k id=> [(id,some (.cells 22 1 (aA tM ((l.map qR).take k)) true true))]) (fun k m id=>id<m) ⟨1,0,by omega,aT⟩ (fun k m id hk hR=> ?_) (fun m id hR=> ?_)
 ·have h2:=h _ (cQ 0 hk)
  have h3:=h2.1;have h4:=h2.2;have h5:=Uh qR 0 hk;have h6:((l.map qR).take k).length=k:=by simp;omega
  refine aG ?_;exact⟨m+2,m+1,by omega,aT⟩
 ·have h6:(l.map qR).take l.length=l.map qR:=eD (by simp)
  refine aG ?_;exact aC
theorem ZD{l:List Int}(h:pX l=0):1<=l.length/\l.length<=8/\∀x∈l,1<=x/\x<=4096:=by
 unfold pX at h;split at h
 ·cases h
 ·rename_i h1
  split at h
  ·cases h
  ·rename_i h2
   refine⟨by omega,by omega,fun x hx=> ?_⟩
   have h3:l.any xH=false:=by simpa using h2
   rw[TF]at h3;have:=h3 x hx;simp[xH]at this;omega
def sum(l:List Int):Int:=l.foldl (·+ ·) 0
theorem sum_cons(x:Int)(l:List Int):sum (x::l)=x+sum l:=by
 have key:∀(l:List Int) (a:Int),l.foldl (·+ ·) a=a+l.foldl (·+ ·) 0:=by
  intro l
  induction l with
  |nil=>intro a;simp
  |cons y r ih=>intro a;rw[CL,CL,ih,ih (0+y)];omega
 show(x::l).foldl (·+ ·) 0=x+l.foldl (·+ ·) 0
 rw[CL,key];omega
def CU(l:List Int):List (List aH):=if pX l=0 then l.map qR else []
theorem Ui(l:List Int)(hl:l.length<=1000000):PC 186 [.snap (aA bD l)] (.aU [.snap (aA tM (CU l)),zV (pX l)]):=by
 refine bI Tryz.func186 Tryz.ntmps186 (by simp only[go_sem]) ?_
 have c1:=Ug l hl;unfold CU;by_cases h:pX l=0
 ·obtain⟨h1,h2,h3⟩:=ZD h
  have c2:=aK0 l (by omega) fun x hx=>by have:=h3 x hx;omega
  refine aG ?_;exact aC
 ·refine aG ?_
  simp only[G6];exact aC
theorem ZE(l:List Int)(h:l≠[])(hl:l.length<=1000000):sC Tryz.prog 78 [.snap (aA bD l)] 3 1 (aA bD l):=by
 refine G7 Tryz.func78 Tryz.ntmps78 (by simp only[go_sem]) (oB l) ?_
 have h1:=wG h;refine aG ?_;exact⟨1,by simp only[go_sem],by simp only[go_sem]⟩
theorem aK1(a:Option Addr)(cap:Nat):PC 78 [.c (.slice a 0 cap)] (.snap (aA bD [])):=by
 refine bI Tryz.func78 Tryz.ntmps78 (kL _) ?_;cases a with
 |none=>
  refine aG ?_;simp only[G6];exact aC
 |some a=>
  refine aG ?_;simp only[G6];exact aC
theorem ZF(l:List Int)(hl:l.length<=1000000):PC 78 [.snap (aA bD l)] (.snap (aA bD l)):=by
 by_cases h:l=[]
 ·subst h
  exact eU.nil (pre:=[]) (post:=[]) aK1
 ·refine bI Tryz.func78 Tryz.ntmps78 (kL l) ?_
  have h1:=wG h;refine aG ?_;exact aC
theorem gB(l:List Int)(k:Nat)(h:k<l.length):(aA aN l)[k]? =some (aN (l.getD k 0)):=pD 0 h
theorem OE(l:List Int):∀row∈aA aN l,∀x∈row,∃v,x= .c v:=by
 intro row hr x hx;simp only[aA,kV]at hr;obtain⟨a,_,rfl⟩:=hr;simp[aN]at hx;exact⟨_,hx⟩
theorem aK2(G:Nat->Option aI)(k:Nat)(l:List Int):(aA aN l).map (fun row=>row.map (cR G k))=aA aN l:=Gk (fun a x hx=>by simp[aN]at hx;exact⟨_,hx⟩) G k l
theorem aK3(G:Nat->Option aI)(k:Nat)(l:List Int):(aA aN l).flatMap (fun row=>row.flatMap (gZ G k))=[]:=aK4 (fun a x hx=>by simp[aN]at hx;exact⟨_,hx⟩) G k l
attribute [go_sem] aK2 aK3
def vg(n:Nat):List Int:=if h:n<128 then [(n:Int)]else((n % 128+128:Nat):Int)::vg (n/128)
termination_by n
decreasing_by omega
theorem OF{n:Nat}(h:n<128):vg n=[(n:Int)]:=by rw[vg];simp[h]
theorem TS{n:Nat}(h:¬n<128):vg n=((n % 128+128:Nat):Int)::vg (n/128):=by rw[vg];simp[h]
theorem OG:∀(f n:Nat),n<128 ^ (f+1)->(vg n).length<=f+1
 |0,n,h=>by rw[OF (by simpa using h)];simp
 |f+1,n,h=>by
  by_cases hn:n<128
  ·rw[OF hn];simp
  ·rw[TS hn,dK]
   have:=OG f (n/128) (by rw[Nat.pow_succ]at h;omega)
   omega
def pE(n:Int):Nat:=if n<0\/9007199254740991<n then 0 else n.toNat
def aQ(n:Int):List Int:=vg (pE n)
theorem aK5{x:Int}(h0:0<=x)(h1:x<128):bits .or .u8 x 128=x+128:=by
 have key:∀i:Fin 128,bits .or .u8 ((i.val:Nat):Int) 128=((i.val:Nat):Int)+128:=by decide
 have:=key ⟨x.toNat,by omega⟩
 simp only at this
 rwa[show((x.toNat:Nat):Int)=x by omega]at this
theorem KJ(l:List Int)(h:l≠[])(hl:l.length<=1000000):sC Tryz.prog 151 [.snap (aA aN l)] 5 1 (aA aN l):=by
 refine G7 Tryz.func151 Tryz.ntmps151 (by simp only[go_sem]) (oB l) ?_
 have h1:=wG h;refine aG ?_;exact⟨1,by simp only[go_sem],by simp only[go_sem]⟩
structure Out where
 n:Nat
 out:List Int
 o:AV
 t:List (Nat×Option aI)
def Gl(b:List Int)(n0:Nat)(m:Nat)(a:Out):Prop:=
 a.n<=9007199254740991/\a.out++vg a.n=b++vg n0/\((a.o= .c (.slice none 0 0)/\a.t=[]/\a.out=[])\/∃id,id<m/\a.o= .own id 0 a.out.length/\a.t=[(id,some (.cells 5 1 (aA aN a.out) true true))])
def aK6(r:AV)(H:Heap)(l:List Int):Prop:=∃i,r= .own i 0 l.length/\H.get i=some (.cells 5 1 (aA aN l) true true)
theorem ZG(b:List Int)(n:Int)(hb:b.length<=100000)(o:AV)(t:List (Nat×Option aI))(N:Nat)(h:Gl b (pE n) N ⟨pE n,b,o,t⟩):fU Tryz.prog 159 [o,zV n] ⟨N,cV t⟩ fun r H=>aK6 r H (b++aQ n):=by
 refine Gm Tryz.func159 Tryz.ntmps159 ?_;have iE:pE n<=9007199254740991:=by unfold pE;split<;>omega
 refine aG ?_;refine aK7 [(0,true,o),(1,true,zV (pE n))] N t ?_ ?_
 ·by_cases h1:n<0
  ·have h2:pE n=0:=by unfold pE;rw[if_pos (.inl h1)]
   refine aG ?_;exact⟨rfl,aT⟩
  by_cases h3:9007199254740991<n
  ·have h2:pE n=0:=by unfold pE;rw[if_pos (.inr h3)]
   refine aG ?_;exact⟨rfl,aT⟩
  ·have h2:(pE n:Int)=n:=by unfold pE;rw[if_neg (by omega)];omega
   refine aG ?_;exact⟨rfl,aT⟩
 refine aG ?_;refine KK (α:=Out) (fun a=> [(0,true,a.o),(1,true,zV (a.n:Int))]) (fun a=>a.t) (Gl b (pE n)) (fun a=>a.n) ⟨pE n,b,o,t⟩ ⟨N,h,aT⟩ ?_
 rintro m ⟨k,out,o,t⟩ ⟨hk,hinv,ho⟩;simp only[]at hk hinv ho⊢
 have hl:out.length<=100008:=by
  have h1:=congrArg List.length hinv;have h2:=OG 7 (pE n) (by omega)
  simp only[bP]at h1;omega
 by_cases h4:k<128
 ·have h5:¬(128:Int)<=k:=by omega
  rw[OF h4]at hinv;have h6:b++aQ n=out++[(k:Int)]:=hinv.symm;clear hinv h;rw[h6];rcases ho with⟨rfl,rfl,rfl⟩|⟨id,aB,rfl,rfl⟩
  ·refine aG ?_
   exact⟨m+1,rfl,lT⟩
  ·refine aG ?_
   exact⟨m+1,lT,lT⟩
 ·have h5:(128:Int)<=k:=by omega
  rw[TS h4]at hinv;have h6:=aK5 (x:=(k:Int) % 128) (by omega) (by omega)
  have h7:((k:Int)).tdiv 128=((k/128:Nat):Int):=rfl;have h8:(k:Int) % 128+128=((k % 128+128:Nat):Int):=by omega
  have hs:Gl b (pE n) (m+2) ⟨k/128,out++[((k % 128+128:Nat):Int)],.own (m+1) 0 (out++[((k % 128+128:Nat):Int)]).length,[(m+1,some (.cells 5 1 (aA aN (out++[((k % 128+128:Nat):Int)])) true true))]⟩:=
   ⟨by simp only[];omega,by simp only[];rw[fF];exact hinv,.inr ⟨m+1,by omega,rfl,rfl⟩⟩
  clear hinv h;rcases ho with⟨rfl,rfl,rfl⟩|⟨id,aB,rfl,rfl⟩
  ·refine aG ?_
   exact⟨m+2,_,by simp only[];omega,hs,aT⟩
  ·refine aG ?_
   exact⟨m+2,_,by simp only[];omega,hs,aT⟩
theorem TU(n:Int):pE n<=9007199254740991:=by unfold pE;split<;>omega
theorem TV(n:Int)(a:Option Addr)(cap:Nat):uF Tryz.prog 80 [.c (.slice a 0 cap),zV n] (.own 0 0 (aA aN ([]++aQ n)).length) 5 1 (aA aN ([]++aQ n)) true:=by
 refine TW Tryz.func80 Tryz.ntmps80 (OE _) ?_;refine aG ?_;refine kA Tryz.func151 Tryz.ntmps151 ?_;cases a with
 |none=>
  refine aG ?_;refine CV (ZG [] n (by simp) _ [] 0 ⟨TU n,rfl,.inl ⟨rfl,rfl,rfl⟩⟩) ?_
  rintro r H ⟨i,rfl,hH⟩;refine aG ?_;exact⟨i,lT,hH⟩
 |some a=>
  refine aG ?_;refine CV (ZG [] n (by simp) (.own 1 0 0) [(1,some (.cells 5 1 (aA aN []) true true))] 2 ⟨TU n,rfl,.inr ⟨1,by omega,rfl,rfl⟩⟩) ?_
  rintro r H ⟨i,rfl,hH⟩;refine aG ?_;exact⟨i,lT,hH⟩
theorem OH(b:List Int)(n:Int)(hb:b.length<=100000):uF Tryz.prog 80 [.snap (aA aN b),zV n] (.own 0 0 (aA aN (b++aQ n)).length) 5 1 (aA aN (b++aQ n)) true:=by
 by_cases aJ:b=[]
 ·subst aJ
  exact uF.nil (pre:=[]) (post:=[zV n]) (TV n)
 ·refine TW Tryz.func80 Tryz.ntmps80 (OE _) ?_
  have c1:=KJ b aJ (by omega)
  refine aG ?_;refine CV (ZG b n hb _ _ 1 ⟨TU n,rfl,.inr ⟨0,by omega,rfl,rfl⟩⟩) ?_
  rintro r H ⟨i,rfl,hH⟩;refine aG ?_;exact⟨i,lT,hH⟩
theorem yL(n:Int):(aQ n).length<=8:=OG 7 _ (by have:=TU n;omega)
def tN(p:List Int):List Int:=(p.length:Int)::(p++List.replicate (31-p.length) 0)
theorem Uj{p:List Int}(hp:p.length<=31):(tN p).length=32:=by unfold tN;simp;omega
theorem Uk{l:List Int}(h:l.length=32):∃d0 d1 d2 d3 d4 d5 d6 d7 d8 d9 d10 d11 d12 d13 d14 d15 d16 d17 d18 d19 d20 d21 d22 d23 d24 d25 d26 d27 d28 d29 d30 d31,l=[d0,d1,d2,d3,d4,d5,d6,d7,d8,d9,d10,d11,d12,d13,d14,d15,d16,d17,d18,d19,d20,d21,d22,d23,d24,d25,d26,d27,d28,d29,d30,d31]:=by
 match l,h with|[d0,d1,d2,d3,d4,d5,d6,d7,d8,d9,d10,d11,d12,d13,d14,d15,d16,d17,d18,d19,d20,d21,d22,d23,d24,d25,d26,d27,d28,d29,d30,d31],_=>exact⟨d0,d1,d2,d3,d4,d5,d6,d7,d8,d9,d10,d11,d12,d13,d14,d15,d16,d17,d18,d19,d20,d21,d22,d23,d24,d25,d26,d27,d28,d29,d30,d31,rfl⟩
theorem aK8{p:List Int}(hp:p.length<=31):[uV (p.length:Int)]::(aA aN (p.take (p.length.min 31))++(aA aN ((p.length:Int)::List.replicate 31 0)).drop (1+p.length.min 31))=aA aN (tN p):=by
 have h1:p.length.min 31=p.length:=aF0 hp;rw[h1,lI,Nat.add_comm,Gn,NZ,List.drop_replicate];simp only[tN,aA,gJ,vY,aN]
def gb(n:Int)(i:Nat):Int:=IntKind.u8.wrap (n.fdiv (2 ^ min (8*i) 64))
def zR(n:Int)(D:List Int)(k:Nat):aH:=((gb n 0,gb n 1,gb n 2,gb n 3),(D.getD (4*k) 0,D.getD (4*k+1) 0,D.getD (4*k+2) 0,D.getD (4*k+3) 0))
def lK(n:Int)(p:List Int):List aH:=[zR n (tN p) 0,zR n (tN p) 1,zR n (tN p) 2,zR n (tN p) 3,zR n (tN p) 4,zR n (tN p) 5,zR n (tN p) 6,zR n (tN p) 7]
theorem Gp(n:Int)(p:List Int)(hp:p.length<=31):PC 163 [zV n,.snap (aA aN p)] (.agg [zV n,.snap (aA aN p),.snap (aA aS (lK n p))]):=by
 refine bI Tryz.func163 Tryz.ntmps163 (by simp only[go_sem]) ?_
 have hd:=aK8 hp;have hz:aS aE=[uV 0,uV 0,uV 0,uV 0,uV 0,uV 0,uV 0,uV 0]:=by rfl
 refine aG ?_;refine kA Tryz.func143 Tryz.ntmps143 ?_;refine aG ?_;obtain⟨d0,d1,d2,d3,d4,d5,d6,d7,d8,d9,d10,d11,d12,d13,d14,d15,d16,d17,d18,d19,d20,d21,d22,d23,d24,d25,d26,d27,d28,d29,d30,d31,hD⟩:=Uk (Uj hp);rw[hD]at hd;refine BG (env:=[(25,true,.fn (.func 195) [] [.ptr 7 0 0,.ptr 8 0 0]),(6,true,.ptr 5 0 0),(4,true,.ptr 1 0 0),(2,true,.ptr 0 0 0)]) (H:=⟨9,cV [(0,some (.cells 3 1 [[zV n]] true false)),(1,some (.cells 261 3 [[.c (.int .i64 0),.c (.slice none 0 0),.c (.slice none 0 0)]] true false)),(2,some (.cells 5 1 [[uV d0],[uV d1],[uV d2],[uV d3],[uV d4],[uV d5],[uV d6],[uV d7],[uV d8],[uV d9],[uV d10],[uV d11],[uV d12],[uV d13],[uV d14],[uV d15],[uV d16],[uV d17],[uV d18],[uV d19],[uV d20],[uV d21],[uV d22],[uV d23],[uV d24],[uV d25],[uV d26],[uV d27],[uV d28],[uV d29],[uV d30],[uV d31]] true true)),(5,some (.cells 261 3 [[zV n,.snap (aA aN p),.c (.slice none 0 0)]] true false)),(7,some (.cells 74 1 [[.own 2 0 32]] true false)),(8,some (.cells 3 1 [[.c (.int .i64 4)]] true false))]⟩) ?_ ?_
 ·refine uG (by rfl) (uG (by rfl) (uG (by rfl) (uG (by rfl) (holds_nil (cE 9) (sQ (by rfl) (sQ (by rfl) (sQ ?_ (sQ (by rfl) (sQ (by rfl) (sQ (by rfl) BH))))))))))
  simp only[Ul,xI];exact congrArg (fun r=>some (aI.cells 5 1 r true true)) hd
 have hP:aA aS (lK n p)=[[.c (.int .u8 (IntKind.u8.wrap (n.fdiv (2 ^ min 0 64)))),.c (.int .u8 (IntKind.u8.wrap (n.fdiv (2 ^ min 8 64)))),.c (.int .u8 (IntKind.u8.wrap (n.fdiv (2 ^ min 16 64)))),.c (.int .u8 (IntKind.u8.wrap (n.fdiv (2 ^ min 24 64)))),uV d0,uV d1,uV d2,uV d3],[.c (.int .u8 (IntKind.u8.wrap (n.fdiv (2 ^ min 0 64)))),.c (.int .u8 (IntKind.u8.wrap (n.fdiv (2 ^ min 8 64)))),.c (.int .u8 (IntKind.u8.wrap (n.fdiv (2 ^ min 16 64)))),.c (.int .u8 (IntKind.u8.wrap (n.fdiv (2 ^ min 24 64)))),uV d4,uV d5,uV d6,uV d7],[.c (.int .u8 (IntKind.u8.wrap (n.fdiv (2 ^ min 0 64)))),.c (.int .u8 (IntKind.u8.wrap (n.fdiv (2 ^ min 8 64)))),.c (.int .u8 (IntKind.u8.wrap (n.fdiv (2 ^ min 16 64)))),.c (.int .u8 (IntKind.u8.wrap (n.fdiv (2 ^ min 24 64)))),uV d8,uV d9,uV d10,uV d11],[.c (.int .u8 (IntKind.u8.wrap (n.fdiv (2 ^ min 0 64)))),.c (.int .u8 (IntKind.u8.wrap (n.fdiv (2 ^ min 8 64)))),.c (.int .u8 (IntKind.u8.wrap (n.fdiv (2 ^ min 16 64)))),.c (.int .u8 (IntKind.u8.wrap (n.fdiv (2 ^ min 24 64)))),uV d12,uV d13,uV d14,uV d15],[.c (.int .u8 (IntKind.u8.wrap (n.fdiv (2 ^ min 0 64)))),.c (.int .u8 (IntKind.u8.wrap (n.fdiv (2 ^ min 8 64)))),.c (.int .u8 (IntKind.u8.wrap (n.fdiv (2 ^ min 16 64)))),.c (.int .u8 (IntKind.u8.wrap (n.fdiv (2 ^ min 24 64)))),uV d16,uV d17,uV d18,uV d19],[.c (.int .u8 (IntKind.u8.wrap (n.fdiv (2 ^ min 0 64)))),.c (.int .u8 (IntKind.u8.wrap (n.fdiv (2 ^ min 8 64)))),.c (.int .u8 (IntKind.u8.wrap (n.fdiv (2 ^ min 16 64)))),.c (.int .u8 (IntKind.u8.wrap (n.fdiv (2 ^ min 24 64)))),uV d20,uV d21,uV d22,uV d23],[.c (.int .u8 (IntKind.u8.wrap (n.fdiv (2 ^ min 0 64)))),.c (.int .u8 (IntKind.u8.wrap (n.fdiv (2 ^ min 8 64)))),.c (.int .u8 (IntKind.u8.wrap (n.fdiv (2 ^ min 16 64)))),.c (.int .u8 (IntKind.u8.wrap (n.fdiv (2 ^ min 24 64)))),uV d24,uV d25,uV d26,uV d27],[.c (.int .u8 (IntKind.u8.wrap (n.fdiv (2 ^ min 0 64)))),.c (.int .u8 (IntKind.u8.wrap (n.fdiv (2 ^ min 8 64)))),.c (.int .u8 (IntKind.u8.wrap (n.fdiv (2 ^ min 16 64)))),.c (.int .u8 (IntKind.u8.wrap (n.fdiv (2 ^ min 24 64)))),uV d28,uV d29,uV d30,uV d31]]:=by
  unfold lK zR gb;rw[hD];rfl
 clear hd hD;refine OI Tryz.func195 Tryz.ntmps195 (fun R A B hR hA hB=> ?_)
 refine aG ?_;refine kC 9 ?_;refine kM ?_;refine aG ?_;refine kC 5 ?_;refine kM ?_;refine aG ?_;refine kC 5 ?_;refine kM ?_;refine aG ?_;refine kC 5 ?_;refine kM ?_;refine aG ?_;refine kC 5 ?_;refine kM ?_;refine aG ?_;refine kC 5 ?_;refine kM ?_;refine aG ?_;refine kC 5 ?_;refine kM ?_;refine aG ?_;refine kC 5 ?_
 refine kM ?_;refine aG ?_;refine kC 5 ?_;refine kM ?_;refine aG ?_;exact aC
def aV(x:Int):Prop:=0<=x/\x<256
def ZH(s:aH):Prop:=aV s.1.1/\aV s.1.2.1/\aV s.1.2.2.1/\aV s.1.2.2.2
def bN(s:aH):Int:=s.1.1+256*s.1.2.1+65536*s.1.2.2.1+16777216*s.1.2.2.2
theorem EH{i:Nat}{x y:Int}(h0:0<=x)(hx:x % 2 ^ i=0)(h1:x<4294967296)(h2:0<=y)(h3:y<2 ^ i)(h4:y<4294967296):bits .or .i64 x y=x+y:=
 bits_join .i64 32 (by decide) (fun n a b=>IntWalk.i64_in _ (by have:(2:Int) ^ 32=4294967296:=by decide
                                                                omega)) i x y h0 hx (by have:(2:Int) ^ 32=4294967296:=by decide
                                                                                        omega) h2 h3 (by have:(2:Int) ^ 32=4294967296:=by decide
                                                                                                         omega)
theorem OJ(k:IntKind)(x y:Int):bits .or k x y=bits .or k y x:=by
 simp only[bits,BitVec.or_comm]
theorem OK(s:aH)(h:ZH s):PC 162 [.agg (aS s)] (zV (bN s)):=by
 refine bI Tryz.func162 Tryz.ntmps162 (.c _) ?_;obtain⟨⟨a,b,c,d⟩,x1,x2,x3,x4⟩:=s;have hs:aS ((a,b,c,d),x1,x2,x3,x4)=[uV a,uV b,uV c,uV d,uV x1,uV x2,uV x3,uV x4]:=rfl;obtain⟨⟨a0,a1⟩,⟨b0,b1⟩,⟨c0,c1⟩,⟨d0,d1⟩⟩:=h;simp only[]at a0 a1 b0 b1 c0 c1 d0 d1;have p8:(2:Int) ^ 8=256:=by decide
 have pm:(2:Int) ^ min 8 64=256:=by decide
 have e1:bits .or .i64 (0*2 ^ min 8 64) d=d:=by
  rw[EH (i:=8) (by omega) (by omega) (by omega) d0 (by omega) (by omega)];omega
 have e2:IntKind.i64.wrap (d*2 ^ min 8 64)=d*256:=by rw[pm];exact IntWalk.i64_in _ (by omega)
 have e3:bits .or .i64 (d*256) c=d*256+c:=EH (i:=8) (by omega) (by omega) (by omega) c0 (by omega) (by omega)
 have e4:IntKind.i64.wrap ((d*256+c)*2 ^ min 8 64)=(d*256+c)*256:=by rw[pm];exact IntWalk.i64_in _ (by omega)
 have e5:bits .or .i64 ((d*256+c)*256) b=(d*256+c)*256+b:=EH (i:=8) (by omega) (by omega) (by omega) b0 (by omega) (by omega)
 have e6:IntKind.i64.wrap (((d*256+c)*256+b)*2 ^ min 8 64)=((d*256+c)*256+b)*256:=by rw[pm];exact IntWalk.i64_in _ (by omega)
 have e7:bits .or .i64 (((d*256+c)*256+b)*256) a=bN ((a,b,c,d),x1,x2,x3,x4):=by
  rw[EH (i:=8) (by omega) (by omega) (by omega) a0 (by omega) (by omega)]
  simp only[bN];omega
 clear p8 pm;refine aG ?_;refine kC 5 ?_;refine kM ?_;refine aG ?_;exact aC
def cp(p:List Int)(k:Nat):List Int:=(p.length:Int)::(p.take k++List.replicate (31-k) 0)
def Gq:Nat->Nat->List (List AV)->List (Nat×Option aI)
 |0,_,_=> []
 |k+1,id,l=> [(id,some (.cells 124 8 (l.take (k+1)) true true))]
end Go.Proofs.YtioafciifiggaaaGreatDoor
