/- Target: contracts of its functions (Af). No condition but those named. -/
import Derived.Test.YtpaomccedbjknaaGreatDoorAe
set_option linter.all false
namespace Go.Proofs.YtpaomccedbjknaaGreatDoor
open Go.Proofs Go.AL Tryz
set_option maxRecDepth 100000
set_option maxHeartbeats 8000000
attribute [local irreducible] bT AW b8 cF dB hold
theorem Ko{st:List aQ}{st2:List aQ}(h:st.length<=4096)(h2:st2.length=st.length):gE ⟨st2,[]⟩=0:=by
 unfold gE;rw[if_neg (by simp only[];omega)]
 rfl
abbrev nL:=Int×Int×List aQ
def oQ:nL:=(0,0,[])
theorem gO(l:List nL)(k:Nat)(h:k<l.length):(aB aH l)[k]? =some (aH (l.getD k oQ)):=tB oQ h
def mT:List nL->bQ->Nat->bQ×Int×Int
 |[],d,i=>(d,i,0)
 |o::r,d,i=>
  if o.1=0 then(if(HE d o.2.1 o.2.2).2=0 then mT r (HE d o.2.1 o.2.2).1 (i+1)else(oP,i,(HE d o.2.1 o.2.2).2))
  else if o.1=1 then mT r ⟨k9 d.st d.ca,[]⟩ (i+1)
  else(oP,i,1)
def fQ(d:bQ)(ops:List nL):bQ×Int×Int:=if gE d=0 then mT ops d 0 else(oP,0,gE d)
theorem wH{α:Type}{l:List α}{k:Nat}(z:α)(h:k<l.length):l.drop k=l.getD k z::l.drop (k+1):=by
 rw[OP h,rL,gY h];rfl
def tF(d:bQ)(ops:List nL)(k:Nat)(x:bQ):Prop:=
 gE x=0/\x.st.length=d.st.length/\x.ca.length<=d.ca.length+k*4096/\mT (ops.drop k) x k=mT ops d 0
theorem tF.write{d:bQ}{ops:List nL}{k:Nat}{x:bQ}(h:tF d ops k x)(hk:k<ops.length)(h0:(ops.getD k oQ).1=0)(hi:lF x (ops.getD k oQ).2.1 (ops.getD k oQ).2.2.length=true):tF d ops (k+1) ⟨x.st,x.ca++iC (ops.getD k oQ).2.1 (ops.getD k oQ).2.2⟩:=by
 obtain⟨h1,h2,h3,h4⟩:=h;obtain⟨q1,q2⟩:=HB h1;obtain⟨q3,q4⟩:=P7 hi;refine⟨Kn h1 hi,h2,?_,?_⟩
 ·simp only[cU,D7];omega
 ·rw[<-h4,wH oQ hk]
  simp only[mT];rw[if_pos h0];unfold HE;rw[if_pos h1,if_pos hi,if_pos rfl]
theorem tF.sync{d:bQ}{ops:List nL}{k:Nat}{x:bQ}(h:tF d ops k x)(hk:k<ops.length)(h0:(ops.getD k oQ).1=1):tF d ops (k+1) ⟨k9 x.st x.ca,[]⟩:=by
 obtain⟨h1,h2,h3,h4⟩:=h;obtain⟨q1,q2⟩:=HB h1;refine⟨Ko q1 (BI _ _),by rw[BI];exact h2,by simp,?_⟩
 ·rw[<-h4,wH oQ hk]
  simp only[mT];rw[if_neg (by rw[h0];decide),if_pos h0]
theorem tF.bad{d:bQ}{ops:List nL}{k:Nat}{x:bQ}(h:tF d ops k x)(hk:k<ops.length)(h0:(ops.getD k oQ).1≠0)(h5:(ops.getD k oQ).1≠1):mT ops d 0=(oP,(k:Int),1):=by
 obtain⟨h1,h2,h3,h4⟩:=h;rw[<-h4,wH oQ hk];simp only[mT];rw[if_neg h0,if_neg h5]
theorem tF.out{d:bQ}{ops:List nL}{k:Nat}{x:bQ}(h:tF d ops k x)(hk:k<ops.length)(h0:(ops.getD k oQ).1=0)(hi:lF x (ops.getD k oQ).2.1 (ops.getD k oQ).2.2.length=false):mT ops d 0=(oP,(k:Int),2):=by
 obtain⟨h1,h2,h3,h4⟩:=h;rw[<-h4,wH oQ hk];simp only[mT];rw[if_pos h0];unfold HE;rw[if_pos h1,hi];rfl
theorem tF.fin{d:bQ}{ops:List nL}{x:bQ}(h:tF d ops ops.length x):mT ops d 0=(x,(ops.length:Int),0):=by
 obtain⟨h1,h2,h3,h4⟩:=h;rw[<-h4,v8];rfl
theorem ag6(l:List (Int×aQ))(h:l≠[])(hl:l.length<=1000000):r5 prog 174 [.snap (aB kD l)] 232 9 (aB kD l):=by
 refine EU func174 ntmps174 (by simp only[go_sem]) (oN l) ?_
 have h1:=qF h;refine aM ?_;exact⟨1,by simp only[go_sem],by simp only[go_sem]⟩
theorem ag7(cap:Nat):PC 174 [.c (.slice none 0 cap)] (.c (.slice none 0 0)):=by
 refine aZ func174 ntmps174 (.c _) ?_;exact zEa
theorem ag8(a:Addr)(cap:Nat):r5 prog 174 [.c (.slice (some a) 0 cap)] 232 9 []:=by
 refine EU func174 ntmps174 (by simp only[go_sem]) (fun _ h=>by simp at h) ?_
 refine aM ?_;exact⟨1,by simp only[go_sem,kT],by simp only[go_sem]⟩
def pQ(p:Nat->Prop)(ca:List (Int×aQ))(m:Nat)(v:AV)(T:List (Nat×Option aI)):Prop:=
 (v= .c (.slice none 0 0)/\T=[]/\ca=[])\/∃id,p id/\id<m/\v= .own id 0 ca.length/\T=[(id,some (.cells 232 9 (aB kD ca) true true))]
theorem YR(X K m0:Nat)(d:bQ)(D8:AV)(T:List (Nat×Option aI))(a:Int)(l:List aQ)(hX:2<=X)(hK:2<=K)(hXK:X≠K)(Kp:X<m0)(hKm:K<m0)(hc:pQ (fun id=>2<=id/\id≠X/\id≠K) d.ca m0 D8 T)(h1:d.st.length<=4096)(h2:d.ca.length<=900000):
  fW prog 175 [.ptr X 0 0,.agg (aH (0,a,l))] ⟨m0,bN ((X,some (.cells 197 2 [[.snap (aB aP d.st),D8]] true false))::(1,some (.cells 61 2 [[.c (.slice none 0 0),.c (.slice none 0 0)]] true false))::(K,some (.cells 274 2 [[.fn (.func 175) [.ptr X 0 0] [],.fn (.func 176) [.ptr X 0 0] []]] true false))::T)⟩
   (fun r H'=>∃m',m0<=m'/\((lF d a l.length=true/\∃P8 T',r=zV 0/\H'=⟨m',bN ((X,some (.cells 197 2 [[.snap (aB aP d.st),P8]] true false))::(1,some (.cells 61 2 [[.c (.slice none 0 0),.c (.slice none 0 0)]] true false))::(K,some (.cells 274 2 [[.fn (.func 175) [.ptr X 0 0] [],.fn (.func 176) [.ptr X 0 0] []]] true false))::T')⟩/\pQ (fun id=>2<=id/\id≠X/\id≠K) (d.ca++iC a l) m' P8 T')\/(lF d a l.length=false/\r=zV 2/\H'=⟨m',bN ((X,some (.cells 197 2 [[.snap (aB aP d.st),D8]] true false))::(1,some (.cells 61 2 [[.c (.slice none 0 0),.c (.slice none 0 0)]] true false))::(K,some (.cells 274 2 [[.fn (.func 175) [.ptr X 0 0] [],.fn (.func 176) [.ptr X 0 0] []]] true false))::T)⟩))):=by
 refine YS func175 ntmps175 ?_;have hg:=gS l;unfold aH;simp only[];obtain⟨st,ca⟩:=d;have c1:FC 231 [.agg (bD ⟨st,ca⟩),zV a,zV (l.length:Int)] (bV (lF ⟨st,ca⟩ a l.length)):=nJ.H3 (Jy ⟨st,ca⟩ a l.length (by simp only[]at h1⊢;omega)) rfl
 simp only[]at*;unfold bD at c1;simp only[]at c1;rcases hc with⟨e1,e2,e3⟩|⟨id,⟨i0,i1,i2⟩,i3,e1,e2⟩
 ·subst e1 e2 e3
  have c2:FC 231 [.agg [.snap (aB aP st),.c (.slice none 0 0)],zV a,zV (l.length:Int)] (bV (lF ⟨st,[]⟩ a l.length)):=c1.less (eE (vD (eE (.refl _) (eE .nil mS))) (tY _));clear c1;cases hi:lF ⟨st,[]⟩ a l.length with
  |false=>
   rw[hi]at c2;clear hi;refine aE ?_;refine⟨⟨m0+40,_⟩,⟨m0+40,oM,.inr ⟨rfl,rfl,rfl⟩⟩,?_⟩
   exact aG
  |true=>
   obtain⟨g2,g3⟩:=P7 hi;simp only[]at g3;rw[hi]at c2;clear hi;refine aE ?_;refine dC (α:=AV×List (Nat×Option aI)) l.length (fun k x=> [(21,true,zV k),(20,true,zV l.length),(19,true,.snap (aB aP l)),(4,true,zV 0),(3,true,.ptr m0 0 0),(0,true,.ptr X 0 0)]) (fun k x=>(X,some (.cells 197 2 [[.snap (aB aP st),x.1]] true false))::(1,some (.cells 61 2 [[.c (.slice none 0 0),.c (.slice none 0 0)]] true false))::(K,some (.cells 274 2 [[.fn (.func 175) [.ptr X 0 0] [],.fn (.func 176) [.ptr X 0 0] []]] true false))::(m0,some (.cells 105 3 [[zV 0,zV a,.snap (aB aP l)]] true false))::x.2) (fun k m x=>m0+12<=m/\pQ (fun id=>2<=id/\id≠X/\id≠K/\id≠m0) ([]++iC a (l.take k)) m x.1 x.2) ⟨m0+12,(.c (.slice none 0 0),[]),?_,?_⟩ (fun k m x hk hR=> ?_) (fun m x hR=> ?_)
   ·exact⟨cA _,.inl ⟨rfl,rfl,rfl⟩⟩
   ·exact aG
   ·obtain⟨cv,T⟩:=x
    obtain⟨hm,hS⟩:=hR;have h5:=Kl (a:=a) hk;have h8:[]++iC a (l.take k)++[(a+(k:Int),l.getD k bS)]=[]++iC a (l.take (k+1)):=by rw[nH,h5]
    have w2:IntKind.i64.wrap (a+(k:Int))=a+(k:Int):=IntWalk.i64_in _ oM
    have h6:(iC a (l.take k)).length<=4096:=by rw[D7,dX];omega
    rcases hS with⟨e1,e2,e3⟩|⟨id,⟨q0,q1,q2,q3⟩,P9,e1,e2⟩
    ·simp only[]at e1 e2
     subst e1 e2;have e4:iC a (l.take k)=[]:=e3;rw[e4,sF]at h5;have h9:bC ([(a+(k:Int),l.getD k bS)]=iC a (l.take (k+1))):=⟨h5⟩;clear e3 e4 h6 h5 h8;refine aE ?_;refine⟨m+40,⟨.own (m+1+1+13) 0 1,[(m+1+1+13,some (.cells 232 9 (aB kD [(a+(k:Int),l.getD k bS)]) true true))]⟩,⟨oM,.inr ⟨m+1+1+13,⟨oM,oM,oM,oM⟩,oM,by rw[<-h9.out];rfl,by rw[<-h9.out];rfl⟩⟩,?_⟩
     exact aG
    ·simp only[]at e1 e2
     subst e1 e2;clear h8;refine aE ?_;have h7:(iC a (l.take (k+1))).length=(iC a (l.take k)).length+1:=by rw[D7,D7,dX,dX];omega
     refine⟨m+40,⟨.own (m+1+1+13) 0 ([]++iC a (l.take (k+1))).length,[(m+1+1+13,some (.cells 232 9 (aB kD ([]++iC a (l.take (k+1)))) true true))]⟩,⟨oM,.inr ⟨m+1+1+13,⟨oM,oM,oM,oM⟩,oM,rfl,rfl⟩⟩,?_⟩
     exact aG
   ·rw[gP]at hR
    obtain⟨cv,T⟩:=x;obtain⟨hm,hS⟩:=hR;rcases hS with⟨e1,e2,e3⟩|⟨id,⟨q0,q1,q2,q3⟩,P9,e1,e2⟩
    ·simp only[]at e1 e2
     subst e1 e2;have e4:iC a l=[]:=e3;rw[e4];clear e3 e4;refine aE ?_;refine⟨⟨m+40,_⟩,⟨m+40,oM,.inl ⟨rfl,_,_,rfl,rfl,.inl ⟨rfl,rfl,rfl⟩⟩⟩,?_⟩
     exact aG
    ·simp only[]at e1 e2
     subst e1 e2;refine aE ?_;refine⟨⟨m+40,_⟩,⟨m+40,oM,.inl ⟨rfl,_,_,rfl,rfl,.inr ⟨id,⟨q0,q1,q2⟩,oM,rfl,rfl⟩⟩⟩,?_⟩
     exact aG
 ·subst e1 e2
  cases hi:lF ⟨st,ca⟩ a l.length with
  |false=>
   rw[hi]at c1;clear hi;refine aE ?_;refine⟨⟨m0+40,_⟩,⟨m0+40,oM,.inr ⟨rfl,rfl,rfl⟩⟩,?_⟩
   exact aG
  |true=>
   obtain⟨g2,g3⟩:=P7 hi;simp only[]at g3;rw[hi]at c1;clear hi;refine aE ?_;refine dC (α:=AV×List (Nat×Option aI)) l.length (fun k x=> [(21,true,zV k),(20,true,zV l.length),(19,true,.snap (aB aP l)),(4,true,zV 0),(3,true,.ptr m0 0 0),(0,true,.ptr X 0 0)]) (fun k x=>(X,some (.cells 197 2 [[.snap (aB aP st),x.1]] true false))::(1,some (.cells 61 2 [[.c (.slice none 0 0),.c (.slice none 0 0)]] true false))::(K,some (.cells 274 2 [[.fn (.func 175) [.ptr X 0 0] [],.fn (.func 176) [.ptr X 0 0] []]] true false))::(m0,some (.cells 105 3 [[zV 0,zV a,.snap (aB aP l)]] true false))::x.2) (fun k m x=>m0+12<=m/\∃id,(2<=id/\id≠X/\id≠K/\id≠m0)/\id<m/\x.1= .own id 0 (ca++iC a (l.take k)).length/\x.2=[(id,some (.cells 232 9 (aB kD (ca++iC a (l.take k))) true true))]) ⟨m0+12,(.own id 0 ca.length,[(id,some (.cells 232 9 (aB kD ca) true true))]),?_,?_⟩ (fun k m x hk hR=> ?_) (fun m x hR=> ?_)
   ·exact⟨cA _,⟨id,⟨i0,i1,i2,oM⟩,oM,by simp[iC],by simp[iC]⟩⟩
   ·exact aG
   ·obtain⟨cv,T⟩:=x
    obtain⟨hm,hS⟩:=hR;have h5:=Kl (a:=a) hk;have h8:ca++iC a (l.take k)++[(a+(k:Int),l.getD k bS)]=ca++iC a (l.take (k+1)):=by rw[nH,h5]
    have w2:IntKind.i64.wrap (a+(k:Int))=a+(k:Int):=IntWalk.i64_in _ oM
    have h6:(iC a (l.take k)).length<=4096:=by rw[D7,dX];omega
    obtain⟨id,⟨q0,q1,q2,q3⟩,P9,e1,e2⟩:=hS
    ·simp only[]at e1 e2
     subst e1 e2;clear h5;refine aE ?_;have h7:(iC a (l.take (k+1))).length=(iC a (l.take k)).length+1:=by rw[D7,D7,dX,dX];omega
     refine⟨m+40,⟨.own (m+1+1+13) 0 (ca++iC a (l.take (k+1))).length,[(m+1+1+13,some (.cells 232 9 (aB kD (ca++iC a (l.take (k+1)))) true true))]⟩,⟨oM,⟨m+1+1+13,⟨oM,oM,oM,oM⟩,oM,rfl,rfl⟩⟩,?_⟩
     exact aG
   ·rw[gP]at hR
    obtain⟨cv,T⟩:=x;obtain⟨hm,hS⟩:=hR;obtain⟨id,⟨q0,q1,q2,q3⟩,P9,e1,e2⟩:=hS
    ·simp only[]at e1 e2
     subst e1 e2;refine aE ?_;refine⟨⟨m+40,_⟩,⟨m+40,oM,.inl ⟨rfl,_,_,rfl,rfl,.inr ⟨id,⟨q0,q1,q2⟩,oM,rfl,rfl⟩⟩⟩,?_⟩
     exact aG
theorem Kq{A B:List aQ}{k:Nat}(h:k<B.length):max (j9 (A++B.take k)) (kV (B.getD k bS))=j9 (A++B.take (k+1)):=by
 rw[CS h];have e:B.getD k bS=B[k]:=by rw[rL,gY h];rfl
 rw[e];simp only[j9,Hz,EP,Ie]
theorem ah1(d:bQ)(a:Int)(p:List Int)(A B:List aQ)(x y:List Int)(gx gy N:Int)(hp:p.length<=31)(hA:A.length=8)(hB:B.length=8)(h3:0<=a)(h4:a<=1000000)(hN:N=0\/N=1)(hk:∀s∈A++B,kL s)(hc:PC 253 [.agg (bD d),zV a] (.aK [.agg [zV gx,.snap (aB aO x),.snap (aB aP A),zV gy,.snap (aB aO y),.snap (aB aP B)],zV N,zV 0])):
  PC 219 [.agg (bD d),zV a,.snap (aB aO p)] (.aK (if j9 (A++B)=4294967295 then [.snap (aB aH []),zV 11]else [.snap (aB aH [(0,a+8-8*N,tD (j9 (A++B)+1) p),(1,0,[])]),zV 0])):=by
 refine iZ func219 ntmps219 (by split<;>simp only[go_sem]) ?_
 have hT:=Jx _ hk;have g2:¬(31:Int)<p.length:=oM
 have YT:=gS A;have YU:=gS B;have e0:A.take 0=[]:=rfl;have e2:j9 ([]:List aQ)=0:=rfl;unfold bD at hc⊢;refine aM ?_;refine fZ 3 ?_;refine gD ?_;refine aM ?_;refine nS 8 40 [] (fun k=> [(37,true,zV k),(36,true,zV 8),(35,true,.snap (aB aP A)),(31,true,zV 0),(30,true,.agg [zV gx,.snap (aB aO x),.snap (aB aP A),zV gy,.snap (aB aO y),.snap (aB aP B)]),(11,true,zV (j9 (A.take k))),(9,true,zV N),(1,true,zV a),(2,true,.snap (aB aO p))]) aG (fun k m r8 hm=> ?_) (fun m hm=> ?_)
 ·have hs:=(hk (A.getD k bS) (GQ _ (eB bS oM))).1
  have c2:=KV (A.getD k bS) hs;have h7:=Jw (l:=A) (k:=k) oM
  have h8:(if kV (A.getD k bS)>j9 (A.take k)then kV (A.getD k bS)else j9 (A.take k))=j9 (A.take (k+1)):=by
   rw[<-h7];split<;>omega
  clear hk hs h7;refine aM ?_;refine⟨m+9,oM,?_⟩
  exact aG
 ·have e8:A.take 8=A:=cN oM
  have e9:j9 (A++B.take 0)=j9 A:=by rw[ER,v7]
  rw[e8];refine aM ?_;refine nS 8 (m+40) [] (fun k=> [(37,true,zV k),(36,true,zV 8),(35,true,.snap (aB aP B)),(31,true,zV 1),(30,true,.agg [zV gx,.snap (aB aO x),.snap (aB aP A),zV gy,.snap (aB aO y),.snap (aB aP B)]),(11,true,zV (j9 (A++B.take k))),(9,true,zV N),(1,true,zV a),(2,true,.snap (aB aO p))]) aG (fun k m r8 hm=> ?_) (fun m hm=> ?_)
  ·have hs:=(hk (B.getD k bS) (OQ _ (eB bS oM))).1
   have c2:=KV (B.getD k bS) hs;have h7:=Kq (A:=A) (B:=B) (k:=k) oM
   have h8:(if kV (B.getD k bS)>j9 (A++B.take k)then kV (B.getD k bS)else j9 (A++B.take k))=j9 (A++B.take (k+1)):=by
    rw[<-h7];split<;>omega
   clear hk hs h7 e9 e8;refine aM ?_;refine⟨m+9,oM,?_⟩
   exact aG
  ·have PA:B.take 8=B:=cN oM
   rw[PA];clear hk e9 e8 PA YT YU;generalize j9 (A++B)=T at*;by_cases g3:T=4294967295
   ·rw[if_pos g3]
    exact zEa
   ·rw[if_neg g3]
    have c3:=YO (T+1) p hp;have w1:IntKind.i64.wrap (T+1)=T+1:=IntWalk.i64_in _ oM
    have w2:IntKind.i64.wrap (1-N)=1-N:=IntWalk.i64_in _ oM
    have w3:IntKind.i64.wrap ((1-N)*8)=(1-N)*8:=IntWalk.i64_in _ oM
    have w4:IntKind.i64.wrap (a+(1-N)*8)=a+8-8*N:=by rw[IntWalk.i64_in _ oM];omega
    exact zEa
theorem pQ.mono{p:Nat->Prop}{ca:List (Int×aQ)}{m m':Nat}{v:AV}{T:List (Nat×Option aI)}(h:pQ p ca m v T)(hm:m<=m'):pQ p ca m' v T:=by
 rcases h with h|⟨id,h1,h2,h3⟩
 ·exact .inl h
 ·exact .inr ⟨id,h1,oM,h3⟩
theorem pQ.sub{p q:Nat->Prop}{ca:List (Int×aQ)}{m:Nat}{v:AV}{T:List (Nat×Option aI)}(h:pQ p ca m v T)(hq:∀id,p id->q id):pQ q ca m v T:=by
 rcases h with h|⟨id,h1,h3⟩
 ·exact .inl h
 ·exact .inr ⟨id,hq id h1,h3⟩
theorem ah2(X K m0:Nat)(d:bQ)(D8:AV)(T:List (Nat×Option aI))(a:Int)(l:List aQ)(hX:2<=X)(hK:2<=K)(hXK:X≠K)(Kp:X<m0)(hKm:K<m0)(hc:pQ (fun id=>2<=id/\id≠X/\id≠K) d.ca m0 D8 T)(h0:gE d=0)(h2:d.ca.length<=900000):
  fW prog 176 [.ptr X 0 0,.agg (aH (1,a,l))] ⟨m0,bN ((X,some (.cells 197 2 [[.snap (aB aP d.st),D8]] true false))::(1,some (.cells 61 2 [[.c (.slice none 0 0),.c (.slice none 0 0)]] true false))::(K,some (.cells 274 2 [[.fn (.func 175) [.ptr X 0 0] [],.fn (.func 176) [.ptr X 0 0] []]] true false))::T)⟩
   (fun r H'=>∃m',m0<=m'/\r=zV 0/\H'=⟨m',bN ((X,some (.cells 197 2 [[.snap (aB aP (k9 d.st d.ca)),.c (.slice none 0 0)]] true false))::(1,some (.cells 61 2 [[.c (.slice none 0 0),.c (.slice none 0 0)]] true false))::(K,some (.cells 274 2 [[.fn (.func 175) [.ptr X 0 0] [],.fn (.func 176) [.ptr X 0 0] []]] true false))::[])⟩):=by
 refine YS func176 ntmps176 ?_;have c1:=Ka d oM h0
 obtain⟨st,ca⟩:=d;unfold aH bD at*;simp only[]at*;rcases hc with⟨e1,e2,e3⟩|⟨id,⟨i0,i1,i2⟩,i3,e1,e2⟩
 ·subst e1 e2 e3
  have c2:PC 232 [.agg [.snap (aB aP st),.c (.slice none 0 0)]] (.snap (aB aP (k9 st []))):=c1.less (eE (vD (eE (.refl _) (eE .nil mS))) mS);clear c1 h0;refine aE ?_;refine⟨⟨m0+40,_⟩,⟨m0+40,oM,rfl,rfl⟩,?_⟩
  exact aG
 ·subst e1 e2
  clear h0;refine aE ?_;refine⟨⟨m0+40,_⟩,⟨m0+40,oM,rfl,rfl⟩,?_⟩
  exact aG
theorem YV(X m0:Nat)(d:bQ)(D8:AV)(T:List (Nat×Option aI))(ops:List nL)(hX:2<=X)(Kp:X<m0)(hc:pQ (fun id=>2<=id/\id≠X) d.ca m0 D8 T)(h2:d.ca.length+ops.length*4096<=900000)(h0:gE d=0):
  fW prog 104 [.ptr X 0 0,.snap (aB aH ops)] ⟨m0,bN ((X,some (.cells 197 2 [[.snap (aB aP d.st),D8]] true false))::(1,some (.cells 61 2 [[.c (.slice none 0 0),.c (.slice none 0 0)]] true false))::T)⟩
   (fun r H'=>∃m' x P8 T',r= .aK [zV (mT ops d 0).2.1,zV (mT ops d 0).2.2]/\H'=⟨m',bN ((X,some (.cells 197 2 [[.snap (aB aP x.st),P8]] true false))::(1,some (.cells 61 2 [[.c (.slice none 0 0),.c (.slice none 0 0)]] true false))::T')⟩/\((mT ops d 0).2.2=0->x=(mT ops d 0).1/\pQ (fun id=>2<=id/\id≠X) x.ca m' P8 T')):=by
 refine YS func104 ntmps104 ?_;have hI:tF d ops 0 d:=⟨h0,rfl,oM,rfl⟩
 have hg:=gO ops;have hO:ops.length<=220:=oM
 have iR:=(HB h0).1;rcases hc with⟨e1,e2,e3⟩|⟨id,⟨i0,i1⟩,i3,e1,e2⟩
 case' inl=>
  subst e1 e2;have BG:bC (pQ (fun id=>2<=id/\id≠X/\id≠m0) d.ca (m0+9) (.c (.slice none 0 0)) []):=⟨.inl ⟨rfl,rfl,e3⟩⟩
  clear e3;refine aE ?_;refine dC (α:=bQ×AV×List (Nat×Option aI)) ops.length (fun k x=> [(17,true,zV k),(16,true,zV ops.length),(15,true,.snap (aB aH ops)),(6,true,.ptr m0 0 0),(0,true,.ptr X 0 0),(1,true,.snap (aB aH ops))]) (fun k x=>(X,some (.cells 197 2 [[.snap (aB aP x.1.st),x.2.1]] true false))::(1,some (.cells 61 2 [[.c (.slice none 0 0),.c (.slice none 0 0)]] true false))::(m0,some (.cells 274 2 [[.fn (.func 175) [.ptr X 0 0] [],.fn (.func 176) [.ptr X 0 0] []]] true false))::x.2.2) (fun k m x=>m0+9<=m/\tF d ops k x.1/\pQ (fun id=>2<=id/\id≠X/\id≠m0) x.1.ca m x.2.1 x.2.2) ⟨m0+9,(d,.c (.slice none 0 0),[]),?_,?_⟩ (fun k m x hk hR=> ?_) (fun m x hR=> ?_)
  ·exact⟨cA _,hI,BG.out⟩
  ·exact aG
 case' inr=>
  subst e1 e2;have BG:bC (pQ (fun id=>2<=id/\id≠X/\id≠m0) d.ca (m0+9) (.own id 0 d.ca.length) [(id,some (.cells 232 9 (aB kD d.ca) true true))]):=⟨.inr ⟨id,⟨i0,i1,oM⟩,oM,rfl,rfl⟩⟩
  refine aE ?_;refine dC (α:=bQ×AV×List (Nat×Option aI)) ops.length (fun k x=> [(17,true,zV k),(16,true,zV ops.length),(15,true,.snap (aB aH ops)),(6,true,.ptr m0 0 0),(0,true,.ptr X 0 0),(1,true,.snap (aB aH ops))]) (fun k x=>(X,some (.cells 197 2 [[.snap (aB aP x.1.st),x.2.1]] true false))::(1,some (.cells 61 2 [[.c (.slice none 0 0),.c (.slice none 0 0)]] true false))::(m0,some (.cells 274 2 [[.fn (.func 175) [.ptr X 0 0] [],.fn (.func 176) [.ptr X 0 0] []]] true false))::x.2.2) (fun k m x=>m0+9<=m/\tF d ops k x.1/\pQ (fun id=>2<=id/\id≠X/\id≠m0) x.1.ca m x.2.1 x.2.2) ⟨m0+9,(d,.own id 0 d.ca.length,[(id,some (.cells 232 9 (aB kD d.ca) true true))]),?_,?_⟩ (fun k m x hk hR=> ?_) (fun m x hR=> ?_)
  ·exact⟨cA _,hI,BG.out⟩
  ·exact aG
 all_goals
  obtain⟨y,cv,T2⟩:=x;obtain⟨hm,zX,hS⟩:=hR;simp only[]at zX hS
 case' inl.refine_3|inr.refine_3=>
  have hb:=zX.bad hk;have ho:=zX.out hk;have hw:=zX.write hk;have hy:=zX.sync hk;have bO:=hg k hk;obtain⟨j1,j2,j3,j4⟩:=zX;clear j4 hg h0 hI BG;generalize ops.getD k oQ=o at*;obtain⟨kd,a,l⟩:=o;have yN:(aB aH ops)[k]? =some [zV kd,zV a,.snap (aB aP l)]:=bO;clear bO;simp only[]at hb ho hw hy;have KZ:bC (pQ (fun id=>2<=id/\id≠X/\id≠m0) y.ca (m+60) cv T2):=⟨hS.mono oM⟩
  by_cases g2:kd=0
  ·subst g2
   cases hi:lF y a l.length with
   |true=>
    have PB:bC (tF d ops (k+1) ⟨y.st,y.ca++iC a l⟩):=⟨hw rfl hi⟩;clear hw hb ho hy;rcases hS with⟨e1,e2,e3⟩|⟨id,⟨i0,i1,i2⟩,i3,e1,e2⟩
    all_goals
     subst e1 e2;refine aE ?_;refine TU 5 ?_;refine aE ?_;refine tC (YR X m0 (m+60) y _ _ a l hX oM oM oM oM KZ.out oM oM) ?_
     rintro r H' ⟨m2,wG,(⟨_,HF,T3,rfl,rfl,pR⟩|⟨wI,rfl,rfl⟩)⟩
     ·have hc3:bC (pQ (fun id=>2<=id/\id≠X/\id≠m0) (y.ca++iC a l) (m2+9) HF T3):=⟨pR.mono oM⟩
      clear pR;refine aE ?_;refine⟨m2+9,⟨⟨y.st,y.ca++iC a l⟩,HF,T3⟩,⟨oM,PB.out,hc3.out⟩,?_⟩
      exact aG
     ·rw[hi]at wI;cases wI
   |false=>
    have yO:=ho rfl hi;rw[yO];clear hw hb ho hy yO;rcases hS with⟨e1,e2,e3⟩|⟨id,⟨i0,i1,i2⟩,i3,e1,e2⟩
    ·subst e1 e2
     refine aE ?_;refine TU 5 ?_;refine aE ?_;refine tC (YR X m0 (m+60) y _ _ a l hX oM oM oM oM KZ.out oM oM) ?_
     rintro r H' ⟨m2,wG,(⟨wI,HF,T3,rfl,rfl,pR⟩|⟨_,rfl,rfl⟩)⟩
     ·rw[hi]at wI;cases wI
     ·refine aE ?_
      refine⟨⟨m2+9,_⟩,⟨m2+9,y,.c (.slice none 0 0),[],rfl,rfl,fun h=>absurd h (by simp)⟩,?_⟩
      exact aG
    ·subst e1 e2
     refine aE ?_;refine TU 5 ?_;refine aE ?_;refine tC (YR X m0 (m+60) y _ _ a l hX oM oM oM oM KZ.out oM oM) ?_
     rintro r H' ⟨m2,wG,(⟨wI,HF,T3,rfl,rfl,pR⟩|⟨_,rfl,rfl⟩)⟩
     ·rw[hi]at wI;cases wI
     ·refine aE ?_
      refine⟨⟨m2+9,_⟩,⟨m2+9,y,.own id 0 y.ca.length,[],rfl,rfl,fun h=>absurd h (by simp)⟩,?_⟩
      exact aG
  ·by_cases g3:kd=1
   ·subst g3
    have hy2:bC (tF d ops (k+1) ⟨k9 y.st y.ca,[]⟩):=⟨hy rfl⟩;clear hw hb ho hy;rcases hS with⟨e1,e2,e3⟩|⟨id,⟨i0,i1,i2⟩,i3,e1,e2⟩
    all_goals
     subst e1 e2;refine aE ?_;refine TU 5 ?_;refine aE ?_;refine tC (ah2 X m0 (m+60) y _ _ a l hX oM oM oM oM KZ.out j1 oM) ?_
     rintro r H' ⟨m2,wG,rfl,rfl⟩;refine aE ?_;refine⟨m2+9,⟨⟨k9 y.st y.ca,[]⟩,.c (.slice none 0 0),[]⟩,⟨oM,hy2.out,.inl ⟨rfl,rfl,rfl⟩⟩,?_⟩
     exact aG
   ·have u5:=hb g2 g3
    rw[u5];clear hw hb ho hy u5;rcases hS with⟨e1,e2,e3⟩|⟨id,⟨i0,i1,i2⟩,i3,e1,e2⟩
    ·subst e1 e2
     by_cases g4:kd<0
     ·refine aE ?_
      refine⟨⟨m+9,_⟩,⟨m+9,y,.c (.slice none 0 0),[],rfl,rfl,fun h=>absurd h (by simp)⟩,?_⟩
      exact aG
     ·refine aE ?_
      refine⟨⟨m+9,_⟩,⟨m+9,y,.c (.slice none 0 0),[],rfl,rfl,fun h=>absurd h (by simp)⟩,?_⟩
      exact aG
    ·subst e1 e2
     by_cases g4:kd<0
     ·refine aE ?_
      refine⟨⟨m+9,_⟩,⟨m+9,y,.own id 0 y.ca.length,[],rfl,rfl,fun h=>absurd h (by simp)⟩,?_⟩
      exact aG
     ·refine aE ?_
      refine⟨⟨m+9,_⟩,⟨m+9,y,.own id 0 y.ca.length,[],rfl,rfl,fun h=>absurd h (by simp)⟩,?_⟩
      exact aG
 case' inl.refine_4|inr.refine_4=>
  have hf:=zX.fin;rw[hf];clear hf zX hI h0 BG hg;have KZ:bC (pQ (fun id=>2<=id/\id≠X) y.ca (m+60) cv T2):=⟨(hS.mono oM).sub fun id h=>⟨h.1,h.2.1⟩⟩
  rcases hS with⟨e1,e2,e3⟩|⟨id,⟨i0,i1,i2⟩,i3,e1,e2⟩
  all_goals
   subst e1 e2;refine aE ?_;refine⟨⟨m+60,_⟩,⟨m+60,y,_,_,rfl,rfl,fun _=>⟨rfl,KZ.out⟩⟩,?_⟩
   exact aG
end Go.Proofs.YtpaomccedbjknaaGreatDoor
