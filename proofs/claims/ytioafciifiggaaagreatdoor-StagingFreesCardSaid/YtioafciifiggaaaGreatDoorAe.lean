/- Staging. No condition. -/
import Derived.Test.YtioafciifiggaaaGreatDoorL0
import Derived.Test.YtioafciifiggaaaGreatDoorAd
import Derived.Test.YtioafciifiggaaaGreatDoorLe
set_option linter.all false
namespace Go.Proofs.YtioafciifiggaaaGreatDoor
open Go.Proofs Go.AL
set_option maxRecDepth 100000
set_option maxHeartbeats 1000000
attribute [local irreducible] cH AW b9 dR eH hold
theorem aN3(l:List (Int×aH))(h:l≠[])(hl:l.length<=1000000):sC Tryz.prog 129 [.snap (aA iP l)] 176 9 (aA iP l):=by
 refine G7 Tryz.func129 Tryz.ntmps129 (by simp only[go_sem]) (oB l) ?_
 have h1:=wG h;refine aG ?_;exact⟨1,by simp only[go_sem],by simp only[go_sem]⟩
theorem aN4(cap:Nat):PC 129 [.c (.slice none 0 cap)] (.c (.slice none 0 0)):=by
 refine bI Tryz.func129 Tryz.ntmps129 (.c _) ?_;refine aG ?_;exact aC
theorem aN5(a:Addr)(cap:Nat):sC Tryz.prog 129 [.c (.slice (some a) 0 cap)] 176 9 []:=by
 refine G7 Tryz.func129 Tryz.ntmps129 (by simp only[go_sem]) (fun _ h=>by simp at h) ?_
 refine aG ?_;exact⟨1,by simp only[go_sem,fJ],by simp only[go_sem]⟩
def rH(p:Nat->Prop)(ca:List (Int×aH))(m:Nat)(v:AV)(T:List (Nat×Option aI)):Prop:=
 (v= .c (.slice none 0 0)/\T=[]/\ca=[])\/∃id,p id/\id<m/\v= .own id 0 ca.length/\T=[(id,some (.cells 176 9 (aA iP ca) true true))]
theorem Gz(X K m0:Nat)(d:bL)(GF:AV)(T:List (Nat×Option aI))(a:Int)(l:List aH)(hX:2<=X)(hK:2<=K)(hXK:X≠K)(Vg:X<m0)(hKm:K<m0)(hc:rH (fun id=>2<=id/\id≠X/\id≠K) d.ca m0 GF T)(h1:d.st.length<=4096)(h2:d.ca.length<=900000):
  fU Tryz.prog 130 [.ptr X 0 0,.agg (bJ (0,a,l))] ⟨m0,cV ((X,some (.cells 120 2 [[.snap (aA aS d.st),GF]] true false))::(1,some (.cells 25 2 [[.c (.slice none 0 0),.c (.slice none 0 0)]] true false))::(K,some (.cells 224 2 [[.fn (.func 130) [.ptr X 0 0] [],.fn (.func 131) [.ptr X 0 0] []]] true false))::T)⟩
   (fun r H'=>∃m',m0<=m'/\((l5 d a l.length=true/\∃UC T',r=zV 0/\H'=⟨m',cV ((X,some (.cells 120 2 [[.snap (aA aS d.st),UC]] true false))::(1,some (.cells 25 2 [[.c (.slice none 0 0),.c (.slice none 0 0)]] true false))::(K,some (.cells 224 2 [[.fn (.func 130) [.ptr X 0 0] [],.fn (.func 131) [.ptr X 0 0] []]] true false))::T')⟩/\rH (fun id=>2<=id/\id≠X/\id≠K) (d.ca++fE a l) m' UC T')\/(l5 d a l.length=false/\r=zV 2/\H'=⟨m',cV ((X,some (.cells 120 2 [[.snap (aA aS d.st),GF]] true false))::(1,some (.cells 25 2 [[.c (.slice none 0 0),.c (.slice none 0 0)]] true false))::(K,some (.cells 224 2 [[.fn (.func 130) [.ptr X 0 0] [],.fn (.func 131) [.ptr X 0 0] []]] true false))::T)⟩))):=by
 refine Ha Tryz.func130 Tryz.ntmps130 ?_;have hg:=gS l;unfold bJ;simp only[];obtain⟨st,ca⟩:=d;have c1:FC 171 [.agg (bM ⟨st,ca⟩),zV a,zV (l.length:Int)] (bV (l5 ⟨st,ca⟩ a l.length)):=tL.Hb (Us ⟨st,ca⟩ a l.length (by simp only[]at h1⊢;omega)) rfl
 simp only[]at*;unfold bM at c1;simp only[]at c1;rcases hc with⟨e1,e2,e3⟩|⟨id,⟨i0,i1,i2⟩,i3,e1,e2⟩
 ·subst e1 e2 e3
  have c2:FC 171 [.agg [.snap (aA aS st),.c (.slice none 0 0)],zV a,zV (l.length:Int)] (bV (l5 ⟨st,[]⟩ a l.length)):=c1.less (jH (BJ (jH (.refl _) (jH .nil sD))) (TZ _));clear c1;cases hi:l5 ⟨st,[]⟩ a l.length with
  |false=>
   rw[hi]at c2;clear hi;refine aD ?_;refine⟨⟨m0+40,_⟩,⟨m0+40,by omega,.inr ⟨rfl,rfl,rfl⟩⟩,?_⟩
   exact aT
  |true=>
   obtain⟨g2,g3⟩:=UB hi;simp only[]at g3;rw[hi]at c2;clear hi;refine aD ?_;refine fK (α:=AV×List (Nat×Option aI)) l.length (fun k x=> [(21,true,zV k),(20,true,zV l.length),(19,true,.snap (aA aS l)),(4,true,zV 0),(3,true,.ptr m0 0 0),(0,true,.ptr X 0 0)]) (fun k x=>(X,some (.cells 120 2 [[.snap (aA aS st),x.1]] true false))::(1,some (.cells 25 2 [[.c (.slice none 0 0),.c (.slice none 0 0)]] true false))::(K,some (.cells 224 2 [[.fn (.func 130) [.ptr X 0 0] [],.fn (.func 131) [.ptr X 0 0] []]] true false))::(m0,some (.cells 100 3 [[zV 0,zV a,.snap (aA aS l)]] true false))::x.2) (fun k m x=>m0+12<=m/\rH (fun id=>2<=id/\id≠X/\id≠K/\id≠m0) ([]++fE a (l.take k)) m x.1 x.2) ⟨m0+12,(.c (.slice none 0 0),[]),?_,?_⟩ (fun k m x hk hR=> ?_) (fun m x hR=> ?_)
   ·exact⟨cE _,.inl ⟨rfl,rfl,rfl⟩⟩
   ·exact aT
   ·obtain⟨cv,T⟩:=x
    obtain⟨hm,hS⟩:=hR;have h5:=Vd (a:=a) hk;have h8:[]++fE a (l.take k)++[(a+(k:Int),l.getD k aE)]=[]++fE a (l.take (k+1)):=by rw[fF,h5]
    have w2:IntKind.i64.wrap (a+(k:Int))=a+(k:Int):=IntWalk.i64_in _ (by omega)
    have h6:(fE a (l.take k)).length<=4096:=by rw[GC,cU];omega
    rcases hS with⟨e1,e2,e3⟩|⟨id,⟨q0,q1,q2,q3⟩,Hc,e1,e2⟩
    ·simp only[]at e1 e2
     subst e1 e2;have e4:fE a (l.take k)=[]:=e3;rw[e4,pW]at h5;have h9:bB ([(a+(k:Int),l.getD k aE)]=fE a (l.take (k+1))):=⟨h5⟩;clear e3 e4 h6 h5 h8;refine aD ?_;refine⟨m+40,⟨.own (m+1+1+13) 0 1,[(m+1+1+13,some (.cells 176 9 (aA iP [(a+(k:Int),l.getD k aE)]) true true))]⟩,⟨by omega,.inr ⟨m+1+1+13,⟨by omega,by omega,by omega,by omega⟩,by omega,by rw[<-h9.out];rfl,by rw[<-h9.out];rfl⟩⟩,?_⟩
     exact aT
    ·simp only[]at e1 e2
     subst e1 e2;clear h8;refine aD ?_;have h7:(fE a (l.take (k+1))).length=(fE a (l.take k)).length+1:=by rw[GC,GC,cU,cU];omega
     refine⟨m+40,⟨.own (m+1+1+13) 0 ([]++fE a (l.take (k+1))).length,[(m+1+1+13,some (.cells 176 9 (aA iP ([]++fE a (l.take (k+1)))) true true))]⟩,⟨by omega,.inr ⟨m+1+1+13,⟨by omega,by omega,by omega,by omega⟩,by omega,rfl,rfl⟩⟩,?_⟩
     exact aT
   ·rw[lI]at hR
    obtain⟨cv,T⟩:=x;obtain⟨hm,hS⟩:=hR;rcases hS with⟨e1,e2,e3⟩|⟨id,⟨q0,q1,q2,q3⟩,Hc,e1,e2⟩
    ·simp only[]at e1 e2
     subst e1 e2;have e4:fE a l=[]:=e3;rw[e4];clear e3 e4;refine aD ?_;refine⟨⟨m+40,_⟩,⟨m+40,by omega,.inl ⟨rfl,_,_,rfl,rfl,.inl ⟨rfl,rfl,rfl⟩⟩⟩,?_⟩
     exact aT
    ·simp only[]at e1 e2
     subst e1 e2;refine aD ?_;refine⟨⟨m+40,_⟩,⟨m+40,by omega,.inl ⟨rfl,_,_,rfl,rfl,.inr ⟨id,⟨q0,q1,q2⟩,by omega,rfl,rfl⟩⟩⟩,?_⟩
     exact aT
 ·subst e1 e2
  cases hi:l5 ⟨st,ca⟩ a l.length with
  |false=>
   rw[hi]at c1;clear hi;refine aD ?_;refine⟨⟨m0+40,_⟩,⟨m0+40,by omega,.inr ⟨rfl,rfl,rfl⟩⟩,?_⟩
   exact aT
  |true=>
   obtain⟨g2,g3⟩:=UB hi;simp only[]at g3;rw[hi]at c1;clear hi;refine aD ?_;refine fK (α:=AV×List (Nat×Option aI)) l.length (fun k x=> [(21,true,zV k),(20,true,zV l.length),(19,true,.snap (aA aS l)),(4,true,zV 0),(3,true,.ptr m0 0 0),(0,true,.ptr X 0 0)]) (fun k x=>(X,some (.cells 120 2 [[.snap (aA aS st),x.1]] true false))::(1,some (.cells 25 2 [[.c (.slice none 0 0),.c (.slice none 0 0)]] true false))::(K,some (.cells 224 2 [[.fn (.func 130) [.ptr X 0 0] [],.fn (.func 131) [.ptr X 0 0] []]] true false))::(m0,some (.cells 100 3 [[zV 0,zV a,.snap (aA aS l)]] true false))::x.2) (fun k m x=>m0+12<=m/\∃id,(2<=id/\id≠X/\id≠K/\id≠m0)/\id<m/\x.1= .own id 0 (ca++fE a (l.take k)).length/\x.2=[(id,some (.cells 176 9 (aA iP (ca++fE a (l.take k))) true true))]) ⟨m0+12,(.own id 0 ca.length,[(id,some (.cells 176 9 (aA iP ca) true true))]),?_,?_⟩ (fun k m x hk hR=> ?_) (fun m x hR=> ?_)
   ·exact⟨cE _,⟨id,⟨i0,i1,i2,by omega⟩,by omega,by simp[fE],by simp[fE]⟩⟩
   ·exact aT
   ·obtain⟨cv,T⟩:=x
    obtain⟨hm,hS⟩:=hR;have h5:=Vd (a:=a) hk;have h8:ca++fE a (l.take k)++[(a+(k:Int),l.getD k aE)]=ca++fE a (l.take (k+1)):=by rw[fF,h5]
    have w2:IntKind.i64.wrap (a+(k:Int))=a+(k:Int):=IntWalk.i64_in _ (by omega)
    have h6:(fE a (l.take k)).length<=4096:=by rw[GC,cU];omega
    obtain⟨id,⟨q0,q1,q2,q3⟩,Hc,e1,e2⟩:=hS
    ·simp only[]at e1 e2
     subst e1 e2;clear h5;refine aD ?_;have h7:(fE a (l.take (k+1))).length=(fE a (l.take k)).length+1:=by rw[GC,GC,cU,cU];omega
     refine⟨m+40,⟨.own (m+1+1+13) 0 (ca++fE a (l.take (k+1))).length,[(m+1+1+13,some (.cells 176 9 (aA iP (ca++fE a (l.take (k+1)))) true true))]⟩,⟨by omega,⟨m+1+1+13,⟨by omega,by omega,by omega,by omega⟩,by omega,rfl,rfl⟩⟩,?_⟩
     exact aT
   ·rw[lI]at hR
    obtain⟨cv,T⟩:=x;obtain⟨hm,hS⟩:=hR;obtain⟨id,⟨q0,q1,q2,q3⟩,Hc,e1,e2⟩:=hS
    ·simp only[]at e1 e2
     subst e1 e2;refine aD ?_;refine⟨⟨m+40,_⟩,⟨m+40,by omega,.inl ⟨rfl,_,_,rfl,rfl,.inr ⟨id,⟨q0,q1,q2⟩,by omega,rfl,rfl⟩⟩⟩,?_⟩
     exact aT
theorem Vh{A B:List aH}{k:Nat}(h:k<B.length):max (iO (A++B.take k)) (bN (B.getD k aE))=iO (A++B.take (k+1)):=by
 rw[I0 h];have e:B.getD k aE=B[k]:=by rw[eP,eQ h];rfl
 rw[e];simp only[iO,TG,CL,Th]
theorem aN8(d:bL)(a:Int)(p:List Int)(A B:List aH)(x y:List Int)(gx gy N:Int)(hp:p.length<=31)(hA:A.length=8)(hB:B.length=8)(h3:0<=a)(h4:a<=1000000)(hN:N=0\/N=1)(hk:∀s∈A++B,dC s)(hc:PC 161 [.agg (bM d),zV a] (.aU [.agg [zV gx,.snap (aA aN x),.snap (aA aS A),zV gy,.snap (aA aN y),.snap (aA aS B)],zV N,zV 0])):
  PC 88 [.agg (bM d),zV a,.snap (aA aN p)] (.aU (if iO (A++B)=4294967295 then [.snap (aA bJ []),zV 11]else [.snap (aA bJ [(0,a+8-8*N,lK (iO (A++B)+1) p),(1,0,[])]),zV 0])):=by
 refine BI Tryz.func88 Tryz.ntmps88 (by split<;>simp only[go_sem]) ?_
 have hT:=Ur _ hk;have g2:¬(31:Int)<p.length:=by omega
 have Hd:=gS A;have He:=gS B;have e0:A.take 0=[]:=rfl;have e2:iO ([]:List aH)=0:=rfl;unfold bM at hc⊢;refine aG ?_;refine kC 3 ?_;refine kM ?_;refine aG ?_;refine zS 8 40 [] (fun k=> [(37,true,zV k),(36,true,zV 8),(35,true,.snap (aA aS A)),(31,true,zV 0),(30,true,.agg [zV gx,.snap (aA aN x),.snap (aA aS A),zV gy,.snap (aA aN y),.snap (aA aS B)]),(11,true,zV (iO (A.take k))),(9,true,zV N),(1,true,zV a),(2,true,.snap (aA aN p))]) aT (fun k m qA hm=> ?_) (fun m hm=> ?_)
 ·have hs:=(hk (A.getD k aE) (wB _ (cQ aE (by omega)))).1
  have c2:=OK (A.getD k aE) hs;have h7:=Uq (l:=A) (k:=k) (by omega)
  have h8:(if bN (A.getD k aE)>iO (A.take k)then bN (A.getD k aE)else iO (A.take k))=iO (A.take (k+1)):=by
   rw[<-h7];split<;>omega
  clear hk hs h7;refine aG ?_;refine⟨m+9,by omega,?_⟩
  exact aT
 ·have e8:A.take 8=A:=eD (by omega)
  have e9:iO (A++B.take 0)=iO A:=by rw[xE,mD]
  rw[e8];refine aG ?_;refine zS 8 (m+40) [] (fun k=> [(37,true,zV k),(36,true,zV 8),(35,true,.snap (aA aS B)),(31,true,zV 1),(30,true,.agg [zV gx,.snap (aA aN x),.snap (aA aS A),zV gy,.snap (aA aN y),.snap (aA aS B)]),(11,true,zV (iO (A++B.take k))),(9,true,zV N),(1,true,zV a),(2,true,.snap (aA aN p))]) aT (fun k m qA hm=> ?_) (fun m hm=> ?_)
  ·have hs:=(hk (B.getD k aE) (uE _ (cQ aE (by omega)))).1
   have c2:=OK (B.getD k aE) hs;have h7:=Vh (A:=A) (B:=B) (k:=k) (by omega)
   have h8:(if bN (B.getD k aE)>iO (A++B.take k)then bN (B.getD k aE)else iO (A++B.take k))=iO (A++B.take (k+1)):=by
    rw[<-h7];split<;>omega
   clear hk hs h7 e9 e8;refine aG ?_;refine⟨m+9,by omega,?_⟩
   exact aT
  ·have UD:B.take 8=B:=eD (by omega)
   rw[UD];clear hk e9 e8 UD Hd He;generalize iO (A++B)=T at*;by_cases g3:T=4294967295
   ·rw[if_pos g3]
    refine aG ?_;exact aC
   ·rw[if_neg g3]
    have c3:=Gp (T+1) p hp;have w1:IntKind.i64.wrap (T+1)=T+1:=IntWalk.i64_in _ (by omega)
    have w2:IntKind.i64.wrap (1-N)=1-N:=IntWalk.i64_in _ (by omega)
    have w3:IntKind.i64.wrap ((1-N)*8)=(1-N)*8:=IntWalk.i64_in _ (by omega)
    have w4:IntKind.i64.wrap (a+(1-N)*8)=a+8-8*N:=by rw[IntWalk.i64_in _ (by omega)];omega
    refine aG ?_;exact aC
theorem rH.mono{p:Nat->Prop}{ca:List (Int×aH)}{m m':Nat}{v:AV}{T:List (Nat×Option aI)}(h:rH p ca m v T)(hm:m<=m'):rH p ca m' v T:=by
 rcases h with h|⟨id,h1,h2,h3⟩
 ·exact .inl h
 ·exact .inr ⟨id,h1,by omega,h3⟩
theorem rH.sub{p q:Nat->Prop}{ca:List (Int×aH)}{m:Nat}{v:AV}{T:List (Nat×Option aI)}(h:rH p ca m v T)(hq:∀id,p id->q id):rH q ca m v T:=by
 rcases h with h|⟨id,h1,h3⟩
 ·exact .inl h
 ·exact .inr ⟨id,hq id h1,h3⟩
theorem aN9(X K m0:Nat)(d:bL)(GF:AV)(T:List (Nat×Option aI))(a:Int)(l:List aH)(hX:2<=X)(hK:2<=K)(hXK:X≠K)(Vg:X<m0)(hKm:K<m0)(hc:rH (fun id=>2<=id/\id≠X/\id≠K) d.ca m0 GF T)(h0:dM d=0)(h2:d.ca.length<=900000):
  fU Tryz.prog 131 [.ptr X 0 0,.agg (bJ (1,a,l))] ⟨m0,cV ((X,some (.cells 120 2 [[.snap (aA aS d.st),GF]] true false))::(1,some (.cells 25 2 [[.c (.slice none 0 0),.c (.slice none 0 0)]] true false))::(K,some (.cells 224 2 [[.fn (.func 130) [.ptr X 0 0] [],.fn (.func 131) [.ptr X 0 0] []]] true false))::T)⟩
   (fun r H'=>∃m',m0<=m'/\r=zV 0/\H'=⟨m',cV ((X,some (.cells 120 2 [[.snap (aA aS (fA d.st d.ca)),.c (.slice none 0 0)]] true false))::(1,some (.cells 25 2 [[.c (.slice none 0 0),.c (.slice none 0 0)]] true false))::(K,some (.cells 224 2 [[.fn (.func 130) [.ptr X 0 0] [],.fn (.func 131) [.ptr X 0 0] []]] true false))::[])⟩):=by
 refine Ha Tryz.func131 Tryz.ntmps131 ?_;have c1:=Uu d (by omega) h0
 obtain⟨st,ca⟩:=d;unfold bJ bM at*;simp only[]at*;rcases hc with⟨e1,e2,e3⟩|⟨id,⟨i0,i1,i2⟩,i3,e1,e2⟩
 ·subst e1 e2 e3
  have c2:PC 172 [.agg [.snap (aA aS st),.c (.slice none 0 0)]] (.snap (aA aS (fA st []))):=c1.less (jH (BJ (jH (.refl _) (jH .nil sD))) sD);clear c1 h0;refine aD ?_;refine⟨⟨m0+40,_⟩,⟨m0+40,by omega,rfl,rfl⟩,?_⟩
  exact aT
 ·subst e1 e2
  clear h0;refine aD ?_;refine⟨⟨m0+40,_⟩,⟨m0+40,by omega,rfl,rfl⟩,?_⟩
  exact aT
theorem Hg(X m0:Nat)(d:bL)(GF:AV)(T:List (Nat×Option aI))(ops:List nH)(hX:2<=X)(Vg:X<m0)(hc:rH (fun id=>2<=id/\id≠X) d.ca m0 GF T)(h2:d.ca.length+ops.length*4096<=900000)(h0:dM d=0):
  fU Tryz.prog 53 [.ptr X 0 0,.snap (aA bJ ops)] ⟨m0,cV ((X,some (.cells 120 2 [[.snap (aA aS d.st),GF]] true false))::(1,some (.cells 25 2 [[.c (.slice none 0 0),.c (.slice none 0 0)]] true false))::T)⟩
   (fun r H'=>∃m' x UC T',r= .aU [zV (oF ops d 0).2.1,zV (oF ops d 0).2.2]/\H'=⟨m',cV ((X,some (.cells 120 2 [[.snap (aA aS x.st),UC]] true false))::(1,some (.cells 25 2 [[.c (.slice none 0 0),.c (.slice none 0 0)]] true false))::T')⟩/\((oF ops d 0).2.2=0->x=(oF ops d 0).1/\rH (fun id=>2<=id/\id≠X) x.ca m' UC T')):=by
 refine Ha Tryz.func53 Tryz.ntmps53 ?_;have hI:vH d ops 0 d:=⟨h0,rfl,by omega,rfl⟩
 have hg:=gO ops;have hO:ops.length<=220:=by omega
 have eG:=(EI h0).1;rcases hc with⟨e1,e2,e3⟩|⟨id,⟨i0,i1⟩,i3,e1,e2⟩
 case' inl=>
  subst e1 e2;have ON:bB (rH (fun id=>2<=id/\id≠X/\id≠m0) d.ca (m0+9) (.c (.slice none 0 0)) []):=⟨.inl ⟨rfl,rfl,e3⟩⟩
  clear e3;refine aD ?_;refine fK (α:=bL×AV×List (Nat×Option aI)) ops.length (fun k x=> [(17,true,zV k),(16,true,zV ops.length),(15,true,.snap (aA bJ ops)),(6,true,.ptr m0 0 0),(0,true,.ptr X 0 0),(1,true,.snap (aA bJ ops))]) (fun k x=>(X,some (.cells 120 2 [[.snap (aA aS x.1.st),x.2.1]] true false))::(1,some (.cells 25 2 [[.c (.slice none 0 0),.c (.slice none 0 0)]] true false))::(m0,some (.cells 224 2 [[.fn (.func 130) [.ptr X 0 0] [],.fn (.func 131) [.ptr X 0 0] []]] true false))::x.2.2) (fun k m x=>m0+9<=m/\vH d ops k x.1/\rH (fun id=>2<=id/\id≠X/\id≠m0) x.1.ca m x.2.1 x.2.2) ⟨m0+9,(d,.c (.slice none 0 0),[]),?_,?_⟩ (fun k m x hk hR=> ?_) (fun m x hR=> ?_)
  ·exact⟨cE _,hI,ON.out⟩
  ·exact aT
 case' inr=>
  subst e1 e2;have ON:bB (rH (fun id=>2<=id/\id≠X/\id≠m0) d.ca (m0+9) (.own id 0 d.ca.length) [(id,some (.cells 176 9 (aA iP d.ca) true true))]):=⟨.inr ⟨id,⟨i0,i1,by omega⟩,by omega,rfl,rfl⟩⟩
  refine aD ?_;refine fK (α:=bL×AV×List (Nat×Option aI)) ops.length (fun k x=> [(17,true,zV k),(16,true,zV ops.length),(15,true,.snap (aA bJ ops)),(6,true,.ptr m0 0 0),(0,true,.ptr X 0 0),(1,true,.snap (aA bJ ops))]) (fun k x=>(X,some (.cells 120 2 [[.snap (aA aS x.1.st),x.2.1]] true false))::(1,some (.cells 25 2 [[.c (.slice none 0 0),.c (.slice none 0 0)]] true false))::(m0,some (.cells 224 2 [[.fn (.func 130) [.ptr X 0 0] [],.fn (.func 131) [.ptr X 0 0] []]] true false))::x.2.2) (fun k m x=>m0+9<=m/\vH d ops k x.1/\rH (fun id=>2<=id/\id≠X/\id≠m0) x.1.ca m x.2.1 x.2.2) ⟨m0+9,(d,.own id 0 d.ca.length,[(id,some (.cells 176 9 (aA iP d.ca) true true))]),?_,?_⟩ (fun k m x hk hR=> ?_) (fun m x hR=> ?_)
  ·exact⟨cE _,hI,ON.out⟩
  ·exact aT
 all_goals
  obtain⟨y,cv,T2⟩:=x;obtain⟨hm,D2,hS⟩:=hR;simp only[]at D2 hS
 case' inl.refine_3|inr.refine_3=>
  have hb:=D2.bad hk;have ho:=D2.out hk;have hw:=D2.write hk;have hy:=D2.sync hk;have fD:=hg k hk;obtain⟨j1,j2,j3,j4⟩:=D2;clear j4 hg h0 hI ON;generalize ops.getD k uK=o at*;obtain⟨kd,a,l⟩:=o;have ZK:(aA bJ ops)[k]? =some [zV kd,zV a,.snap (aA aS l)]:=fD;clear fD;simp only[]at hb ho hw hy;have OO:bB (rH (fun id=>2<=id/\id≠X/\id≠m0) y.ca (m+60) cv T2):=⟨hS.mono (by omega)⟩
  by_cases g2:kd=0
  ·subst g2
   cases hi:l5 y a l.length with
   |true=>
    have hw2:bB (vH d ops (k+1) ⟨y.st,y.ca++fE a l⟩):=⟨hw rfl hi⟩;clear hw hb ho hy;rcases hS with⟨e1,e2,e3⟩|⟨id,⟨i0,i1,i2⟩,i3,e1,e2⟩
    all_goals
     subst e1 e2;refine aD ?_;refine GG 5 ?_;refine aD ?_;refine CV (Gz X m0 (m+60) y _ _ a l hX (by omega) (by omega) (by omega) (by omega) OO.out (by omega) (by omega)) ?_
     rintro r H' ⟨m2,wI,(⟨_,KM,T3,rfl,rfl,sS⟩|⟨zT,rfl,rfl⟩)⟩
     ·have hc3:bB (rH (fun id=>2<=id/\id≠X/\id≠m0) (y.ca++fE a l) (m2+9) KM T3):=⟨sS.mono (by omega)⟩
      clear sS;refine aD ?_;refine⟨m2+9,⟨⟨y.st,y.ca++fE a l⟩,KM,T3⟩,⟨by omega,hw2.out,hc3.out⟩,?_⟩
      exact aT
     ·rw[hi]at zT;cases zT
   |false=>
    have EJ:=ho rfl hi;rw[EJ];clear hw hb ho hy EJ;rcases hS with⟨e1,e2,e3⟩|⟨id,⟨i0,i1,i2⟩,i3,e1,e2⟩
    ·subst e1 e2
     refine aD ?_;refine GG 5 ?_;refine aD ?_;refine CV (Gz X m0 (m+60) y _ _ a l hX (by omega) (by omega) (by omega) (by omega) OO.out (by omega) (by omega)) ?_
     rintro r H' ⟨m2,wI,(⟨zT,KM,T3,rfl,rfl,sS⟩|⟨_,rfl,rfl⟩)⟩
     ·rw[hi]at zT;cases zT
     ·refine aD ?_
      refine⟨⟨m2+9,_⟩,⟨m2+9,y,.c (.slice none 0 0),[],rfl,rfl,fun h=>absurd h (by simp)⟩,?_⟩
      exact aT
    ·subst e1 e2
     refine aD ?_;refine GG 5 ?_;refine aD ?_;refine CV (Gz X m0 (m+60) y _ _ a l hX (by omega) (by omega) (by omega) (by omega) OO.out (by omega) (by omega)) ?_
     rintro r H' ⟨m2,wI,(⟨zT,KM,T3,rfl,rfl,sS⟩|⟨_,rfl,rfl⟩)⟩
     ·rw[hi]at zT;cases zT
     ·refine aD ?_
      refine⟨⟨m2+9,_⟩,⟨m2+9,y,.own id 0 y.ca.length,[],rfl,rfl,fun h=>absurd h (by simp)⟩,?_⟩
      exact aT
  ·by_cases g3:kd=1
   ·subst g3
    have ZL:bB (vH d ops (k+1) ⟨fA y.st y.ca,[]⟩):=⟨hy rfl⟩;clear hw hb ho hy;rcases hS with⟨e1,e2,e3⟩|⟨id,⟨i0,i1,i2⟩,i3,e1,e2⟩
    all_goals
     subst e1 e2;refine aD ?_;refine GG 5 ?_;refine aD ?_;refine CV (aN9 X m0 (m+60) y _ _ a l hX (by omega) (by omega) (by omega) (by omega) OO.out j1 (by omega)) ?_
     rintro r H' ⟨m2,wI,rfl,rfl⟩;refine aD ?_;refine⟨m2+9,⟨⟨fA y.st y.ca,[]⟩,.c (.slice none 0 0),[]⟩,⟨by omega,ZL.out,.inl ⟨rfl,rfl,rfl⟩⟩,?_⟩
     exact aT
   ·have sE:=hb g2 g3
    rw[sE];clear hw hb ho hy sE;rcases hS with⟨e1,e2,e3⟩|⟨id,⟨i0,i1,i2⟩,i3,e1,e2⟩
    ·subst e1 e2
     by_cases g4:kd<0
     ·refine aD ?_
      refine⟨⟨m+9,_⟩,⟨m+9,y,.c (.slice none 0 0),[],rfl,rfl,fun h=>absurd h (by simp)⟩,?_⟩
      exact aT
     ·refine aD ?_
      refine⟨⟨m+9,_⟩,⟨m+9,y,.c (.slice none 0 0),[],rfl,rfl,fun h=>absurd h (by simp)⟩,?_⟩
      exact aT
    ·subst e1 e2
     by_cases g4:kd<0
     ·refine aD ?_
      refine⟨⟨m+9,_⟩,⟨m+9,y,.own id 0 y.ca.length,[],rfl,rfl,fun h=>absurd h (by simp)⟩,?_⟩
      exact aT
     ·refine aD ?_
      refine⟨⟨m+9,_⟩,⟨m+9,y,.own id 0 y.ca.length,[],rfl,rfl,fun h=>absurd h (by simp)⟩,?_⟩
      exact aT
 case' inl.refine_4|inr.refine_4=>
  have hf:=D2.fin;rw[hf];clear hf D2 hI h0 ON hg;have OO:bB (rH (fun id=>2<=id/\id≠X) y.ca (m+60) cv T2):=⟨(hS.mono (by omega)).sub fun id h=>⟨h.1,h.2.1⟩⟩
  rcases hS with⟨e1,e2,e3⟩|⟨id,⟨i0,i1,i2⟩,i3,e1,e2⟩
  all_goals
   subst e1 e2;refine aD ?_;refine⟨⟨m+60,_⟩,⟨m+60,y,_,_,rfl,rfl,fun _=>⟨rfl,OO.out⟩⟩,?_⟩
   exact aT
end Go.Proofs.YtioafciifiggaaaGreatDoor
