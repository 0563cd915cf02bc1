/- Staging. No condition. -/
import Derived.Test.YtioafciifiggaaaGreatDoorL0
import Derived.Test.YtioafciifiggaaaGreatDoorAa
import Derived.Test.YtioafciifiggaaaGreatDoorLe
import Derived.KernelRfl
set_option linter.all false
namespace Go.Proofs.YtioafciifiggaaaGreatDoor
open Go.Proofs Go.AL
abbrev PC(n:FuncId)(args:List AV)(r:AV):Prop:=fD Tryz.prog n args (·=r)
abbrev FC(n:FuncId)(args:List AV)(r:AV):Prop:=xA Tryz.prog n args r
abbrev aY:=(Int×Int×Int×Int)×(Int×Int×Int×Int)
abbrev uV(x:Int):AV:= .c (.int .u8 x)
def aQ(s:aY):List AV:=[uV s.1.1,uV s.1.2.1,uV s.1.2.2.1,uV s.1.2.2.2,uV s.2.1,uV s.2.2.1,uV s.2.2.2.1,uV s.2.2.2.2]
def aO:aY:=((0,0,0,0),(0,0,0,0))
def oM(x:Int×aY):List AV:=zV x.1::aQ x.2
theorem UK(s:aY):∀x∈aQ s,bJ x:=by
 intro x hx;simp only[aQ,fB,mR,or_false]at hx;rcases hx with rfl|rfl|rfl|rfl|rfl|rfl|rfl|rfl<;>exact .c _
@[go_sem] theorem bD2(s:aY):(∀x,x∈aQ s->bJ x)=True:=eq_true (UK s)
@[go_sem] theorem Zc(s:aY):(aQ s).length=8:=rfl
@[go_sem] theorem Zd(s:aY):(aQ s).all AV.one=true:=rfl
@[go_sem] theorem bD3(s:aY):(aQ s).take 8=aQ s:=rfl
@[go_sem] theorem bD4(s:aY):(aQ s).drop 8=[]:=rfl
@[go_sem] theorem bD5(G:Nat->Option aI)(s:aY):(aQ s).map (oN G)=aQ s:=rfl
instance :uF aQ 8:=⟨Zc,Zd,UK⟩
instance :uF oM 9:=⟨fun _=>rfl,fun _=>rfl,fun a x hx=>by
 simp only[oM,fB]at hx;rcases hx with rfl|hx
 ·exact .c _
 ·exact UK _ x hx⟩
def aH(x:Int):List AV:=[uV x]
instance :uF aH 1:=⟨fun _=>rfl,fun _=>rfl,fun _ x hx=>by simp[aH]at hx;subst hx;exact .c _⟩
@[go_sem] theorem bD6:fQ Tryz.prog 124=some (aQ aO):=by kernel_rfl
theorem Ze(x:Int)(s:aY):[zV x::aQ s]=aA oM [(x,s)]:=rfl
theorem Zf(a:List aY)(s:aY):aA aQ a++[aQ s]=aA aQ (a++[s]):=nR a s
theorem Zg(a:List aY)(i:Nat)(s:aY):(aA aQ a).set i (aQ s)=aA aQ (a.set i s):=EY a i s
theorem Zh(n:Nat)(s:aY):List.replicate n (aQ s)=aA aQ (List.replicate n s):=ZB n s
theorem Zi(a:List Int)(x:Int):aA aH a++[[uV x]]=aA aH (a++[x]):=nR a x
theorem Zj(l:List Int)(i:Nat)(x:Int):(aA aH l).set i [uV x]=aA aH (l.set i x):=EY l i x
theorem Zk(n:Nat)(x:Int):List.replicate n [uV x]=aA aH (List.replicate n x):=ZB (f:=aH) n x
attribute [go_sem] Ze Zf Zg Zh Zi Zj Zk aH oM l4 mJ BO List.take_replicate YT cA
attribute [go_sem] PK PL rP yR Zl Zm Zn Zo
end Go.Proofs.YtioafciifiggaaaGreatDoor
namespace Go.Proofs.YtioafciifiggaaaGreatDoor
open Go.Proofs Go.AL
set_option maxRecDepth 100000
set_option maxHeartbeats 1000000
attribute [local irreducible] cB AW aX cZ dK hold
theorem gI(l:List Int)(k:Nat)(h:k<l.length):(aA bA l)[k]? =some (bA (l.getD k 0)):=pQ 0 h
def HK(l:List Int):Int:=l.foldl (fun s x=>IntKind.i64.wrap (s+x)) 0
theorem Zp{l:List Int}{k:Nat}(h:k<l.length):HK (l.take (k+1))=IntKind.i64.wrap (HK (l.take k)+l.getD k 0):=by
 unfold HK;rw[P7 h,Xy];simp[h]
def p6(n:Int):Bool:=decide (n<1)||decide (4096<n)
theorem Zq(n:Int):PC 273 [zV n] (bV (p6 n)):=by
 refine aT Tryz.func273 Tryz.ntmps273 (.c _) ?_;refine aD ?_;exact aB
theorem Zr(l:List Int)(hl:l.length<=1000000):PC 274 [.snap (aA bA l),.fn (.func 273) [] []] (zV (match l.findIdx? p6 with|some i=>(i:Int)|none=> -1)):=by
 refine aT Tryz.func274 Tryz.ntmps274 (.c _) ?_;refine aD ?_;have hg:=gI l;have c1:=Zq;refine dP (α:=Unit) l.length (fun k _=> [(8,true,zV k),(7,true,zV l.length),(0,true,.snap (aA bA l)),(1,true,.fn (.func 273) [] [])]) (fun _ _=> []) (fun k m _=>∀i,i<k->p6 (l.getD i 0)=false) ⟨0,(),fun i hi=>by omega,aN⟩ (fun k m _ hk hR=> ?_) (fun m _ hR=> ?_)
 ·refine aD ?_
  refine Jj (fun h=> ?_) (fun h=> ?_)
  ·have hf:l.findIdx? p6=some k:=by
    rw[HA];exact⟨hk,by simpa[hk]using h,fun j hj=>by have:=hR j hj;simp[show j<l.length by omega]at this;simpa using this⟩
   refine aD ?_;exact aB
  ·refine aD ?_
   refine⟨m,(),fun i hi=> ?_,aN⟩
   by_cases fE:i=k
   ·subst fE;exact h
   ·exact hR i (by omega)
 ·have hf:l.findIdx? p6=none:=by
   rw[HB];intro x hx;obtain⟨i,hi⟩:=wX.1 hx;obtain⟨h1,h2⟩:=dS.1 hi;have:=hR i h1;simp[h1,h2]at this;exact this
  refine aD ?_;exact aB
def pR(o:Option Nat):Int:=match o with|some i=>(i:Int)|none=> -1
theorem Zs(l:List Int):decide (0<=pR (l.findIdx? p6))=l.any p6:=by
 cases h:l.findIdx? p6 with
 |none=>
  rw[HB]at h;simp only[pR];symm;simpa using h
 |some i=>
  rw[HA]at h;obtain⟨h1,h2,_⟩:=h;simp only[pR];have:l.any p6=true:=pO.2 ⟨_,D2 h1,h2⟩;rw[this];simp
theorem Zt(l:List Int)(hl:l.length<=1000000):PC 274 [.snap (aA bA l),.fn (.func 273) [] []] (zV (pR (l.findIdx? p6))):=Zr l hl
theorem Zu(l:List Int)(hl:l.length<=1000000):PC 231 [.snap (aA bA l),.fn (.func 273) [] []] (bV (l.any p6)):=by
 refine aT Tryz.func231 Tryz.ntmps231 (.c _) ?_;have c1:=Zt l hl;have h1:=Zs l;refine aD ?_;exact aB
def mM(l:List Int):Int:=if l.length<1\/8<l.length then 6 else if l.any p6 then 2 else 0
theorem Jk(l:List Int)(hl:l.length<=1000000):PC 228 [.snap (aA bA l)] (zV (mM l)):=by
 refine aT Tryz.func228 Tryz.ntmps228 (.c _) ?_;have c1:=Zu l hl;unfold mM;by_cases h1:l.length<1
 ·refine aD ?_
  exact aB
 ·by_cases h2:8<l.length
  ·refine aD ?_
   exact aB
  ·cases h3:l.any p6
   ·refine aD ?_
    exact aB
   ·refine aD ?_
    exact aB
theorem Jl(l:List Int)(hl:l.length<=1000000):PC 259 [.snap (aA bA l)] (zV (mM l)):=by
 refine aT Tryz.func259 Tryz.ntmps259 (.c _) ?_;have hg:=gI l;unfold mM;by_cases h1:l.length<1
 ·refine aD ?_
  exact aB
 ·by_cases h2:8<l.length
  ·refine aD ?_
   exact aB
  ·refine aD ?_
   refine dP (α:=Unit) l.length (fun k _=> [(3,true,zV k),(0,true,.snap (aA bA l))]) (fun _ _=> []) (fun k m _=>∀i,i<k->p6 (l.getD i 0)=false) ⟨0,(),fun i hi=>by omega,aN⟩ (fun k m _ hk hR=> ?_) (fun m _ hR=> ?_)
   ·have h4:=dC 0 hk
    by_cases g1:l.getD k 0<1
    ·have h3:l.any p6=true:=pO.2 ⟨_,h4,by unfold p6;rw[PK g1];rfl⟩
     refine aD ?_;exact aB
    ·by_cases g2:4096<l.getD k 0
     ·have h3:l.any p6=true:=pO.2 ⟨_,h4,by unfold p6;rw[PK g2];simp⟩
      refine aD ?_;exact aB
     ·refine aD ?_
      refine⟨m,(),fun i hi=> ?_,aN⟩
      by_cases fE:i=k
      ·subst fE;unfold p6;rw[PL g1,PL g2];rfl
      ·exact hR i (by omega)
   ·have h3:l.any p6=false:=by
     rw[TV];intro x hx;obtain⟨i,hi⟩:=wX.1 hx;obtain⟨h1,h2⟩:=dS.1 hi;have:=hR i h1;simp[h1,h2]at this;simp[this]
    refine aD ?_;exact aB
def rQ(n:Int):List aY:=List.replicate n.toNat aO
def qT(v:List aY):List AV:=[.snap (aA aQ v)]
instance :uF qT 1:=⟨fun _=>rfl,fun _=>rfl,fun _ x hx=>by simp[qT]at hx;subst hx;exact iJ _⟩
theorem Zv(a:List (List aY))(v:List aY):aA qT a++[[.snap (aA aQ v)]]=aA qT (a++[v]):=nR a v
attribute [go_sem] Zv qT
theorem Zw(n:Int)(h0:0<=n)(h1:n<=1000000):PC 230 [zV n] (.snap (aA aQ (rQ n))):=by
 refine aT Tryz.func230 Tryz.ntmps230 (iJ _) ?_;refine aD ?_;unfold rQ;exact aB
theorem Jm{α β:Type}(f:α->β)(d:α){l:List α}{k:Nat}(h:k<l.length):(l.map f).take (k+1)=(l.map f).take k++[f (l.getD k d)]:=by
 rw[P7 (by simpa using h)]
 simp[h]
theorem Zx(l:List Int)(hl:l.length<=1000)(h:∀x∈l,0<=x/\x<=1000000):PC 229 [.snap (aA bA l),.fn (.func 230) [] []] (.snap (aA qT (l.map rQ))):=by
 refine aT Tryz.func229 Tryz.ntmps229 (iJ _) ?_;have hg:=gI l;have c1:=Zw;refine aD ?_;refine dP (α:=Nat) l.length (fun k id=> [(13,true,zV k),(12,true,zV l.length),(11,true,.snap (aA bA l)),(1,true,.fn (.func 230) [] []),(5,true,.own id 0 k)]) (fun k id=> [(id,some (.cells 22 1 (aA qT ((l.map rQ).take k)) true true))]) (fun k m id=>id<m) ⟨1,0,by omega,aN⟩ (fun k m id hk hR=> ?_) (fun m id hR=> ?_)
 ·have h2:=h _ (dC 0 hk)
  have h3:=h2.1;have h4:=h2.2;have h5:=Jm rQ 0 hk;have h6:((l.map rQ).take k).length=k:=by simp;omega
  refine aD ?_;exact⟨m+2,m+1,by omega,aN⟩
 ·have h6:(l.map rQ).take l.length=l.map rQ:=cR (by simp)
  refine aD ?_;exact aB
theorem PM{l:List Int}(h:mM l=0):1<=l.length/\l.length<=8/\∀x∈l,1<=x/\x<=4096:=by
 unfold mM at h;split at h
 ·cases h
 ·rename_i h1
  split at h
  ·cases h
  ·rename_i h2
   refine⟨by omega,by omega,fun x hx=> ?_⟩
   have h3:l.any p6=false:=by simpa using h2
   rw[TV]at h3;have:=h3 x hx;simp[p6]at this;omega
def sum(l:List Int):Int:=l.foldl (·+ ·) 0
theorem sum_cons(x:Int)(l:List Int):sum (x::l)=x+sum l:=by
 have key:∀(l:List Int) (a:Int),l.foldl (·+ ·) a=a+l.foldl (·+ ·) 0:=by
  intro l
  induction l with
  |nil=>intro a;simp
  |cons y r ih=>intro a;rw[HC,HC,ih,ih (0+y)];omega
 show(x::l).foldl (·+ ·) 0=x+l.foldl (·+ ·) 0
 rw[HC,key];omega
def zX(l:List Int):List (List aY):=if mM l=0 then l.map rQ else []
theorem Jn(l:List Int)(hl:l.length<=1000000):PC 186 [.snap (aA bA l)] (.aR [.snap (aA qT (zX l)),zV (mM l)]):=by
 refine aT Tryz.func186 Tryz.ntmps186 (by simp only[go_sem]) ?_
 have c1:=Jk l hl;unfold zX;by_cases h:mM l=0
 ·obtain⟨h1,h2,h3⟩:=PM h
  have c2:=Zx l (by omega) fun x hx=>by have:=h3 x hx;omega
  refine aD ?_;exact aB
 ·refine aD ?_
  simp only[D6];exact aB
theorem UL(l:List Int)(h:l≠[])(hl:l.length<=1000000):rR Tryz.prog 78 [.snap (aA bA l)] 3 1 (aA bA l):=by
 refine L3 Tryz.func78 Tryz.ntmps78 (by simp only[go_sem]) (mN l) ?_
 have h1:=rS h;refine aD ?_;exact⟨1,by simp only[go_sem],by simp only[go_sem]⟩
theorem Zy(a:Option Addr)(cap:Nat):PC 78 [.c (.slice a 0 cap)] (.snap (aA bA [])):=by
 refine aT Tryz.func78 Tryz.ntmps78 (iJ _) ?_;cases a with
 |none=>
  refine aD ?_;simp only[D6];exact aB
 |some a=>
  refine aD ?_;simp only[D6];exact aB
theorem Jo(l:List Int)(hl:l.length<=1000000):PC 78 [.snap (aA bA l)] (.snap (aA bA l)):=by
 by_cases h:l=[]
 ·subst h
  exact fD.nil (pre:=[]) (post:=[]) Zy
 ·refine aT Tryz.func78 Tryz.ntmps78 (iJ l) ?_
  have h1:=rS h;refine aD ?_;exact aB
theorem gB(l:List Int)(k:Nat)(h:k<l.length):(aA aH l)[k]? =some (aH (l.getD k 0)):=pQ 0 h
theorem L4(l:List Int):∀row∈aA aH l,∀x∈row,∃v,x= .c v:=by
 intro row hr x hx;simp only[aA,mS]at hr;obtain⟨a,_,rfl⟩:=hr;simp[aH]at hx;exact⟨_,hx⟩
theorem Zz(G:Nat->Option aI)(k:Nat)(l:List Int):(aA aH l).map (fun row=>row.map (cT G k))=aA aH l:=ZC (fun a x hx=>by simp[aH]at hx;exact⟨_,hx⟩) G k l
theorem aa0(G:Nat->Option aI)(k:Nat)(l:List Int):(aA aH l).flatMap (fun row=>row.flatMap (fY G k))=[]:=aa1 (fun a x hx=>by simp[aH]at hx;exact⟨_,hx⟩) G k l
attribute [go_sem] Zz aa0
def vg(n:Nat):List Int:=if h:n<128 then [(n:Int)]else((n % 128+128:Nat):Int)::vg (n/128)
termination_by n
decreasing_by omega
theorem L5{n:Nat}(h:n<128):vg n=[(n:Int)]:=by rw[vg];simp[h]
theorem PN{n:Nat}(h:¬n<128):vg n=((n % 128+128:Nat):Int)::vg (n/128):=by rw[vg];simp[h]
theorem PO:∀(f n:Nat),n<128 ^ (f+1)->(vg n).length<=f+1
 |0,n,h=>by rw[L5 (by simpa using h)];simp
 |f+1,n,h=>by
  by_cases hn:n<128
  ·rw[L5 hn];simp
  ·rw[PN hn,eI]
   have:=PO f (n/128) (by rw[Nat.pow_succ]at h;omega)
   omega
def jC(n:Int):Nat:=if n<0\/9007199254740991<n then 0 else n.toNat
def b9(n:Int):List Int:=vg (jC n)
theorem Jp{x:Int}(h0:0<=x)(h1:x<128):bits .or .u8 x 128=x+128:=by
 have key:∀i:Fin 128,bits .or .u8 ((i.val:Nat):Int) 128=((i.val:Nat):Int)+128:=by decide
 have:=key ⟨x.toNat,by omega⟩
 simp only at this
 rwa[show((x.toNat:Nat):Int)=x by omega]at this
theorem HL(l:List Int)(h:l≠[])(hl:l.length<=1000000):rR Tryz.prog 151 [.snap (aA aH l)] 5 1 (aA aH l):=by
 refine L3 Tryz.func151 Tryz.ntmps151 (by simp only[go_sem]) (mN l) ?_
 have h1:=rS h;refine aD ?_;exact⟨1,by simp only[go_sem],by simp only[go_sem]⟩
structure Out where
 n:Nat
 out:List Int
 o:AV
 t:List (Nat×Option aI)
def L6(b:List Int)(n0:Nat)(m:Nat)(a:Out):Prop:=
 a.n<=9007199254740991/\a.out++vg a.n=b++vg n0/\((a.o= .c (.slice none 0 0)/\a.t=[]/\a.out=[])\/∃id,id<m/\a.o= .own id 0 a.out.length/\a.t=[(id,some (.cells 5 1 (aA aH a.out) true true))])
def aa2(r:AV)(H:Heap)(l:List Int):Prop:=∃i,r= .own i 0 l.length/\H.get i=some (.cells 5 1 (aA aH l) true true)
theorem UM(b:List Int)(n:Int)(hb:b.length<=100000)(o:AV)(t:List (Nat×Option aI))(N:Nat)(h:L6 b (jC n) N ⟨jC n,b,o,t⟩):gX Tryz.prog 159 [o,zV n] ⟨N,dH t⟩ fun r H=>aa2 r H (b++b9 n):=by
 refine Jq Tryz.func159 Tryz.ntmps159 ?_;have j7:jC n<=9007199254740991:=by unfold jC;split<;>omega
 refine aD ?_;refine ZD [(0,true,o),(1,true,zV (jC n))] N t ?_ ?_
 ·by_cases h1:n<0
  ·have h2:jC n=0:=by unfold jC;rw[if_pos (.inl h1)]
   refine aD ?_;exact⟨rfl,aN⟩
  by_cases h3:9007199254740991<n
  ·have h2:jC n=0:=by unfold jC;rw[if_pos (.inr h3)]
   refine aD ?_;exact⟨rfl,aN⟩
  ·have h2:(jC n:Int)=n:=by unfold jC;rw[if_neg (by omega)];omega
   refine aD ?_;exact⟨rfl,aN⟩
 refine aD ?_;refine D7 (α:=Out) (fun a=> [(0,true,a.o),(1,true,zV (a.n:Int))]) (fun a=>a.t) (L6 b (jC n)) (fun a=>a.n) ⟨jC n,b,o,t⟩ ⟨N,h,aN⟩ ?_
 rintro m ⟨k,out,o,t⟩ ⟨hk,hinv,ho⟩;simp only[]at hk hinv ho⊢
 have hl:out.length<=100008:=by
  have h1:=congrArg List.length hinv;have h2:=PO 7 (jC n) (by omega)
  simp only[cP]at h1;omega
 by_cases h4:k<128
 ·have h5:¬(128:Int)<=k:=by omega
  rw[L5 h4]at hinv;have h6:b++b9 n=out++[(k:Int)]:=hinv.symm;clear hinv h;rw[h6];rcases ho with⟨rfl,rfl,rfl⟩|⟨id,aC,rfl,rfl⟩
  ·refine aD ?_
   exact⟨m+1,rfl,iT⟩
  ·refine aD ?_
   exact⟨m+1,iT,iT⟩
 ·have h5:(128:Int)<=k:=by omega
  rw[PN h4]at hinv;have h6:=Jp (x:=(k:Int) % 128) (by omega) (by omega)
  have h7:((k:Int)).tdiv 128=((k/128:Nat):Int):=rfl;have h8:(k:Int) % 128+128=((k % 128+128:Nat):Int):=by omega
  have hs:L6 b (jC n) (m+2) ⟨k/128,out++[((k % 128+128:Nat):Int)],.own (m+1) 0 (out++[((k % 128+128:Nat):Int)]).length,[(m+1,some (.cells 5 1 (aA aH (out++[((k % 128+128:Nat):Int)])) true true))]⟩:=
   ⟨by simp only[];omega,by simp only[];rw[kA];exact hinv,.inr ⟨m+1,by omega,rfl,rfl⟩⟩
  clear hinv h;rcases ho with⟨rfl,rfl,rfl⟩|⟨id,aC,rfl,rfl⟩
  ·refine aD ?_
   exact⟨m+2,_,by simp only[];omega,hs,aN⟩
  ·refine aD ?_
   exact⟨m+2,_,by simp only[];omega,hs,aN⟩
@[go_sem] theorem bD7{α:Type}(l:List α)(x:α):(l++[x]).take (l.length+1)=l++[x]:=cR (by simp)
theorem L7(n:Int):jC n<=9007199254740991:=by unfold jC;split<;>omega
theorem PQ(n:Int)(a:Option Addr)(cap:Nat):rT Tryz.prog 80 [.c (.slice a 0 cap),zV n] (.own 0 0 (aA aH ([]++b9 n)).length) 5 1 (aA aH ([]++b9 n)) true:=by
 refine PR Tryz.func80 Tryz.ntmps80 (L4 _) ?_;refine aD ?_;refine nS Tryz.func151 Tryz.ntmps151 ?_;cases a with
 |none=>
  refine aD ?_;refine UN (UM [] n (by simp) _ [] 0 ⟨L7 n,rfl,.inl ⟨rfl,rfl,rfl⟩⟩) ?_
  rintro r H ⟨i,rfl,hH⟩;refine aD ?_;exact⟨i,iT,hH⟩
 |some a=>
  refine aD ?_;refine UN (UM [] n (by simp) (.own 1 0 0) [(1,some (.cells 5 1 (aA aH []) true true))] 2 ⟨L7 n,rfl,.inr ⟨1,by omega,rfl,rfl⟩⟩) ?_
  rintro r H ⟨i,rfl,hH⟩;refine aD ?_;exact⟨i,iT,hH⟩
theorem L8(b:List Int)(n:Int)(hb:b.length<=100000):rT Tryz.prog 80 [.snap (aA aH b),zV n] (.own 0 0 (aA aH (b++b9 n)).length) 5 1 (aA aH (b++b9 n)) true:=by
 by_cases aM:b=[]
 ·subst aM
  exact rT.nil (pre:=[]) (post:=[zV n]) (PQ n)
 ·refine PR Tryz.func80 Tryz.ntmps80 (L4 _) ?_
  have c1:=HL b aM (by omega)
  refine aD ?_;refine UN (UM b n hb _ _ 1 ⟨L7 n,rfl,.inr ⟨0,by omega,rfl,rfl⟩⟩) ?_
  rintro r H ⟨i,rfl,hH⟩;refine aD ?_;exact⟨i,iT,hH⟩
theorem Js(b:List Int)(n:Int)(hb:b.length<=100000):PC 168 [.snap (aA aH b),zV n] (.snap (aA aH (b++b9 n))):=by
 refine aT Tryz.func168 Tryz.ntmps168 (iJ _) ?_;have j7:=L7 n;cases uG:b.isEmpty
 case' false=>
  refine aD ?_
  refine ZD [(5,true,.own 0 0 b.length),(1,true,zV (jC n))] 1 [(0,some (.cells 5 1 (aA aH b) true true))] (by
    by_cases h1:n<0
    ·have h2:jC n=0:=by unfold jC;rw[if_pos (.inl h1)]
     refine aD ?_;exact⟨rfl,aN⟩
    by_cases h3:9007199254740991<n
    ·have h2:jC n=0:=by unfold jC;rw[if_pos (.inr h3)]
     refine aD ?_;exact⟨rfl,aN⟩
    ·have h2:(jC n:Int)=n:=by unfold jC;rw[if_neg (by omega)];omega
     refine aD ?_
     exact⟨rfl,aN⟩) ?_
  refine aD ?_;refine D7 (α:=Out) (fun a=> [(5,true,a.o),(1,true,zV (a.n:Int))]) (fun a=>a.t) (L6 b (jC n)) (fun a=>a.n) ⟨jC n,b,.own 0 0 b.length,[(0,some (.cells 5 1 (aA aH b) true true))]⟩ ⟨1,⟨j7,rfl,.inr ⟨0,by omega,rfl,rfl⟩⟩,aN⟩ ?_
 case' true=>
  have nY:b=[]:=by simpa using uG
  refine aD ?_
  refine ZD [(5,true,.c (.slice none 0 0)),(1,true,zV (jC n))] 0 [] (by
    by_cases h1:n<0
    ·have h2:jC n=0:=by unfold jC;rw[if_pos (.inl h1)]
     refine aD ?_;exact⟨rfl,aN⟩
    by_cases h3:9007199254740991<n
    ·have h2:jC n=0:=by unfold jC;rw[if_pos (.inr h3)]
     refine aD ?_;exact⟨rfl,aN⟩
    ·have h2:(jC n:Int)=n:=by unfold jC;rw[if_neg (by omega)];omega
     refine aD ?_
     exact⟨rfl,aN⟩) ?_
  refine aD ?_;refine D7 (α:=Out) (fun a=> [(5,true,a.o),(1,true,zV (a.n:Int))]) (fun a=>a.t) (L6 b (jC n)) (fun a=>a.n) ⟨jC n,b,.c (.slice none 0 0),[]⟩ ⟨0,⟨j7,rfl,.inl ⟨rfl,rfl,nY⟩⟩,aN⟩ ?_
 all_goals
   rintro m ⟨k,out,o,t⟩ ⟨hk,hinv,ho⟩;simp only[]at hk hinv ho⊢
   have hl:out.length<=100008:=by
    have h1:=congrArg List.length hinv;have h2:=PO 7 (jC n) (by omega)
    simp only[cP]at h1;omega
   by_cases h4:k<128
   ·have h5:¬(128:Int)<=k:=by omega
    rw[L5 h4]at hinv;have h6:b++b9 n=out++[(k:Int)]:=hinv.symm;clear hinv;rw[h6];rcases ho with⟨rfl,rfl,rfl⟩|⟨id,aC,rfl,rfl⟩
    ·refine aD ?_
     exact aB
    ·refine aD ?_
     exact aB
   ·have h5:(128:Int)<=k:=by omega
    rw[PN h4]at hinv;have h6:=Jp (x:=(k:Int) % 128) (by omega) (by omega)
    have h7:((k:Int)).tdiv 128=((k/128:Nat):Int):=rfl;have h8:(k:Int) % 128+128=((k % 128+128:Nat):Int):=by omega
    have hs:L6 b (jC n) (m+2) ⟨k/128,out++[((k % 128+128:Nat):Int)],.own (m+1) 0 (out++[((k % 128+128:Nat):Int)]).length,[(m+1,some (.cells 5 1 (aA aH (out++[((k % 128+128:Nat):Int)])) true true))]⟩:=
     ⟨by simp only[];omega,by simp only[];rw[kA];exact hinv,.inr ⟨m+1,by omega,rfl,rfl⟩⟩
    clear hinv;rcases ho with⟨rfl,rfl,rfl⟩|⟨id,aC,rfl,rfl⟩
    ·refine aD ?_
     exact⟨m+2,_,by simp only[];omega,hs,aN⟩
    ·refine aD ?_
     exact⟨m+2,_,by simp only[];omega,hs,aN⟩
theorem rU(n:Int):(b9 n).length<=8:=PO 7 _ (by have:=L7 n;omega)
end Go.Proofs.YtioafciifiggaaaGreatDoor
