/- Staging. No condition. -/
import Derived.Test.YtioafciifiggaaaGreatDoorL0
import Derived.Test.YtioafciifiggaaaGreatDoorAzd
import Derived.Test.YtioafciifiggaaaGreatDoorAzc
import Derived.Test.YtioafciifiggaaaGreatDoorAy
import Derived.Test.YtioafciifiggaaaGreatDoorAf
import Derived.Test.YtioafciifiggaaaGreatDoorAd
set_option linter.all false
namespace Go.Proofs.YtioafciifiggaaaGreatDoor
open Go.Proofs Go.AL
set_option maxRecDepth 100000
set_option maxHeartbeats 1000000
attribute [local irreducible] cH AW b9 dR eH hold
theorem bv5{a b next:Int}:∀{l:List Int},oY a next l=true->b<l.headD 0->l≠[]->oY b next l=true
 |[],_,_,h=>absurd rfl h
 |n::l,h,h2,_=>by
  rw[ES]at h⊢;simp only[List.headD_cons]at h2;split at h
  ·exact absurd h (by decide)
  ·rw[if_neg (by omega)]
   exact h
theorem bv6{s:cX}(h:mK s=0){j:Jr}(e3:jE j=0)(hN:jN j=jN s.j){n:Int}(hf:∀x∈s.aR,n<x.number->j.first<=x.records.headD 0):mK ⟨j,s.aR.filter fun x=>decide (n<x.number)⟩=0:=by
 obtain⟨hj,hlen,eG⟩:=BV h;have D7:PW s.aR:=(VE s.j _ _ _ eG).1;have mM:=ET s.j _ _ _ eG;obtain⟨F8,-⟩:=Ll s.j _ _ _ eG;have oI:=KB (fun x:aW=>decide (n<x.number)) s.aR
 unfold mK;rw[if_pos e3,if_neg (by simp only[];omega),if_pos]
 refine Lk _ _ _ _ (fun y hy=> ?_) (D7.filter _) (fun n hn=>by simp at hn) (fun a ha b hb=>F8 a (pC.1 ha).1 b (pC.1 hb).1) (fun y hy n hn=>by simp)
 obtain⟨h1,h2⟩:=pC.1 hy;obtain⟨c1,c2,c3,c4,c5⟩:=Q6 (mM y h1);have aJ:=Bq (mM y h1);have:=hf y h1 (of_decide_eq_true h2);unfold nU;rw[if_pos c1,if_neg c2,if_neg (fun hh=>hh.2 (c3 hh.1)),if_pos]
 ·exact decide_eq_true c5
 ·rw[hN]
  exact bv5 c4 (by simp only[];omega) aJ
theorem bv7{a b:Int}{l:List Int}(h:oY a b l=true)(aJ:l≠[]):a<l.headD 0/\l.headD 0<b:=by
 cases l with
 |nil=>exact absurd rfl aJ
 |cons n l=>exact P8 _ _ _ h n (by simp)
theorem aj5{A B C F:List aH}{rs:List Kp}{s:cX}{D:Int}{t:Nat}(S:qI A B C F rs s D t)(ht:t<=900){n:Int}(hn:0<=n/\n<=1073741824):
  ∃d' s' ops,rR ⟨A++(B++C),[]⟩ s n=(s',ops,0)/\s'.aR=s.aR.filter (fun x=>decide (n<x.number))/\ops.length<=2/\ru ops ⟨A++(B++C),[]⟩=some d'/\
   (∃A' B' F' JA,d'=⟨A'++(B'++C),[]⟩/\qI A' B' C F' JA s' (max D n) (t+1)/\((∀x∈s.aR,x.number<=n)->JA=[]))/\
   Path (M1 160 (max D n) s.aR s'.aR) ops ⟨A++(B++C),[]⟩:=by
 obtain⟨d1,d2,d3,d4,d5,d6,d7,d8⟩:=S.rg.J6;obtain⟨f1,f2⟩:=S.Ml;have mM:=S.Q7
 have bv8:∀x∈s.aR,s.j.first<=x.records.headD 0/\x.records.headD 0<jN s.j:=fun x hx=>by
  obtain⟨c1,c2,c3,c4,c5⟩:=Q6 (mM x hx);have:=bv7 c4 (Bq (mM x hx));omega
 have EX:=(Ck n s.aR (jN s.j-1));have JB:=Mc n (k:=s.j.first-1) s.aR (jN s.j-1) (by omega) fun x hx=>by have:=bv8 x hx;omega
 obtain⟨k,hk⟩:∃k:Nat,p6 n s.aR (jN s.j-1)=s.j.first+k-1:=⟨(p6 n s.aR (jN s.j-1)+1-s.j.first).toNat,by omega⟩
 have qU:k<=rs.length:=by have:=EX.1;omega
 obtain⟨ops,j',A',B',F',r1,r2,r3,r4,r5,r6,r7,r8,r9⟩:=bu5 S.rg S.sb S.Q4 (by omega) qU
 have hN:jN j'=jN s.j:=by
  rw[By r6.ok,r6.b8,l4,eF,r2,d8];omega
 have OU:rR ⟨A++(B++C),[]⟩ s n=(⟨j',s.aR.filter fun x=>decide (n<x.number)⟩,ops,0):=by
  unfold rR;rw[if_pos S.DS.1,if_pos S.ok,if_neg (by omega),hk,r1]
  simp only[if_true]
 have hJ:uZ (s.aR.filter fun x=>decide (n<x.number)) (jT (rs.drop k) j'.first) (max D n):=by
  rw[r2];exact S.Q5.drop (m:=jN s.j-1) (fun x hx=>⟨_,_,(Q6 (mM x hx)).2.2.2.1⟩) qU (by omega)
 have Wn:qI A' B' C F' (rs.drop k) ⟨j',s.aR.filter fun x=>decide (n<x.number)⟩ (max D n) (t+1):=by
  refine⟨S.len,r6,r7,r8.mono (by push_cast;omega),hJ,bv6 S.ok r6.ok hN fun x hx y6=> ?_,⟨?_,fun x hx=> ?_⟩⟩
  ·have:=EX.2 x hx y6
   omega
  ·have:=KB (fun x:aW=>decide (n<x.number)) s.aR
   have:=S.bd.aR;simp only[];omega
  ·obtain⟨b1,b2⟩:=S.bd.one x (pC.1 hx).1
   exact⟨by omega,b2⟩
 refine⟨_,_,ops,OU,rfl,r4,r5,⟨A',B',F',_,rfl,Wn,fun eR=> ?_⟩,r9.mono fun e he=> ?_⟩
 ·have bv9:∀(l:List aW) (m:Int),(∀x∈l,x.number<=n)->p6 n l m=m:=by
   intro l
   induction l with
   |nil=>intro m _;rfl
   |cons x l ih=>
    intro m h;unfold p6;rw[if_neg (by have:=h x (by simp);omega)]
    exact ih m fun y hy=>h y (by simp[hy])
  rw[bv9 s.aR _ eR]at hk;exact I5 (by omega)
 ·obtain⟨A2,B2,rfl,hh⟩:=he
  rcases hh with g|g
  ·obtain⟨q1,q2,q3,-⟩:=WC S.rg g (Cd S.rg.sec S.Q4) (S.Q5.mono (e:=max D n) (by omega)) (by omega)
   rw[f2]at q1 q3;exact⟨q1,.inl q3⟩
  ·obtain⟨q1,q2,q3,-⟩:=WC r6 g (Cd r6.sec r7) hJ (by rw[eF];omega)
   rw[r3,f2]at q1 q3;exact⟨q1,.inr q3⟩
theorem Mm{st:List aH}{ca:List (Int×aH)}{n:Nat}{l:List aH}{r:List nH}{a:Int}(ha:a=(n:Int))(h:n+l.length<=st.length):ru ((0,a,l)::r) ⟨st,ca⟩=ru r ⟨st,ca++fE a l⟩:=by
 subst ha
 have hi:l5 ⟨st,ca⟩ (n:Int) l.length=true:=by
  unfold l5;simp only[k6,decide_eq_true_eq];omega
 conv=>lhs;unfold ru
 simp only[if_true,hi]
theorem Mn{st:List aH}{ca:List (Int×aH)}{r:List nH}:ru ((1,0,[])::r) ⟨st,ca⟩=ru r ⟨fA st ca,[]⟩:=by
 conv=>lhs;unfold ru
 simp only[if_true];rfl
def JC:cX:=⟨⟨0,160,0,0,1,[]⟩,[]⟩
theorem WE:tW 0 160=(JC,[(0,16,qR 144),(1,0,[]),(0,0,G9),(1,0,[]),(0,0,lK 1 (aQ 0++aQ 1)),(1,0,[])],0):=by
 have h1:CX 0 (aQ 0++aQ 1)=([(0,0,G9),(1,0,[]),(0,0,lK 1 (aQ 0++aQ 1)),(1,0,[])],0):=by
  unfold CX;rw[if_neg (by decide),if_neg (by have:=W8 0 1;omega)]
 have h2:C0 0 160=(⟨0,160,0,0,1,[]⟩,[(0,16,qR 144),(1,0,[]),(0,0,G9),(1,0,[]),(0,0,lK 1 (aQ 0++aQ 1)),(1,0,[])],0):=by
  unfold C0;rw[if_pos (by decide),h1,if_pos rfl]
  rfl
 unfold tW;rw[h2,if_pos rfl];rfl
theorem aj6:∃d',ru (tW 0 160).2.1 ⟨List.replicate 160 aE,[]⟩=some d'/\SD d' JC 0 0:=by
 rw[WE];have hl:=W8 0 1;have hpo:=Hn 1 (Mh 0 1) (by omega)
 have Jl:=Ia (n:=1) (by decide) (by decide) (aQ 0++aQ 1)
 have VD:eB (lK 1 (aQ 0++aQ 1))=(aQ 0++aQ 1,1):=Wq (by decide) (by decide) hl
 have lN:(lK 1 (aQ 0++aQ 1)).length=8:=OW _ _;generalize lK 1 (aQ 0++aQ 1)=N at*;have hz:qR 144=List.replicate 144 aE:=rfl;have l16:(List.replicate 16 aE).length=16:=s6
 have e0:List.replicate 160 aE=List.replicate 16 aE++(List.replicate 144 aE++[]):=by
  rw[mD,Uc]
 have e1:fA (List.replicate 160 aE) ([]++fE 16 (qR 144))=List.replicate 160 aE:=by
  rw[pW,e0,hz];have:=OX (List.replicate 144 aE) (List.replicate 144 aE) (List.replicate 16 aE) [] rfl;rw[l16]at this;exact this
 have e0':List.replicate 160 aE=[]++(List.replicate 16 aE++List.replicate 144 aE):=by
  rw[pW,Uc]
 have e2:fA (List.replicate 160 aE) ([]++fE 0 G9)=List.replicate 160 aE:=by
  rw[pW,e0'];exact OX G9 (List.replicate 16 aE) [] _ rfl
 have bw3:List.replicate 160 aE=[]++(List.replicate 8 aE++(List.replicate 8 aE++List.replicate 144 aE)):=by
  rw[pW,Uc,Uc]
 have e3:fA (List.replicate 160 aE) ([]++fE 0 N)=N++(List.replicate 8 aE++List.replicate 144 aE):=by
  rw[pW,bw3];exact OX N (List.replicate 8 aE) [] _ (by rw[lN];rfl)
 have Mo:(List.replicate 160 aE).length=160:=s6;refine⟨⟨N++(List.replicate 8 aE++List.replicate 144 aE),[]⟩,?_,N,List.replicate 8 aE,List.replicate 144 aE,List.replicate 144 aE,[],rfl,?_⟩
 ·show ru [(0,16,qR 144),(1,0,[]),(0,0,G9),(1,0,[]),(0,0,N),(1,0,[])] _=_
  rw[Mm (st:=List.replicate 160 aE) (l:=qR 144) (a:=16) (n:=16) rfl (by rw[Mo,hz,s6];exact cE _),Mn,e1,Mm (st:=List.replicate 160 aE) (l:=G9) (a:=0) (n:=0) rfl (by rw[Mo];exact aG3 rfl),Mn,e2,Mm (st:=List.replicate 160 aE) (l:=N) (a:=0) (n:=0) rfl (by rw[Mo,lN];omega),Mn,e3]
  rfl
 ·have h0:bN aE=0:=rfl
  refine⟨by rw[s6],⟨rfl,rfl,by rw[s6];omega,by decide,rfl,fun r hr=>by simp at hr,by simp[jV,JC,iC],fun s hs=> ?_⟩,fun s hs=> ?_,.inl ⟨lN,rfl,hpo,?_,?_,?_,1,by decide,VD,by decide⟩,uZ.start 0,by decide,⟨by decide,fun x hx=>by simp[JC]at hx⟩⟩
  ·rw[(I2.1 hs).2];exact Vo
  ·rw[(I2.1 hs).2,h0];decide
  ·intro s hs
   rw[(I2.1 hs).2];exact Vo
  ·intro s hs
   rw[Jl s hs];decide
  ·intro s hs
   rw[(I2.1 hs).2];decide
def kE(n b:Int):jJ:=⟨n-1,n,0,[],[(0,0,[((n % 256,b,0,0),(0,0,0,0))])]⟩
theorem aj7{n b:Int}(hb:aV b):VY (kE n b):=by
 refine⟨by simp[kE],by simp[kE],fun w hw=> ?_,fun w hw x hx y hy=> ?_⟩
 ·simp[kE]at hw
  subst hw;simp
 ·simp[kE]at hw
  subst hw;simp at hx;subst hx;simp only[nS,cG,jF,or_false]at hy;unfold aV at*;omega
theorem bw4(n b:Int):LU (kE n b)=true:=by
 unfold LU Il kE;simp[Ik]
theorem aj8(n b:Int):(qE (kE n b)).length<=60:=by
 have h4:=Ca (f:=aQ) (k:=8) (kE n b).pos (fun x _=>AM x)
 have h1:=AM (kE n b).base;have h2:=AM (kE n b).number;have h3:=AM (kE n b).time;have h5:(kE n b).pos.length=0:=rfl
 have h6:(fW jR (kE n b).writes).length=12:=by
  simp[fW,jR,kE,nS,aQ,pE,vg]
 unfold qE;simp only[bP];omega
theorem bw5{n b:Int}(hb:aV b)(he:(kP (kE n b) 10).2=0):∀p∈(kP (kE n b) 10).1,(∀y∈p,aV y)/\p.length<=30:=by
 have h3:=aj8 n b
 have h0:(nB (kE n b)).2=0:=by
  unfold kP at he;split at he
  ·assumption
  ·exact he
 have hc:CP (kE n b) 10:=⟨h0,by decide,by decide⟩
 obtain⟨-,-,e3,-⟩:=Is h0
 have hn:y4 (kE n b) 10<=6:=by
  unfold y4 sY;rw[e3];omega
 obtain⟨q1,q2⟩:=bp3 (aj7 (n:=n) hb) (most:=10) (by decide) (by decide) he (by
  have h5:kP (kE n b) ((10:Nat):Int)=_:=Le hc;rw[h5];simp only[l4,KF]
  omega)
 intro p hp;have hp:p∈(kP (kE n b) ((10:Nat):Int)).1:=hp;rw[q2]at hp;obtain⟨i,hi,rfl⟩:=kV.1 hp;have hi:=EG.1 hi;have:=bn9 hc hi (by omega)
 exact⟨bo7 q1,by omega⟩
structure wU where
 kind:Int
 number:Int
 part:Int
 data:Int
def mO(x:Int):Int:=max 1 (min x 1000)
def H8(x:wU):List Int:=(kP (kE (mO x.number) x.data) 10).1.getD (max 0 x.part % ((kP (kE (mO x.number) x.data) 10).1.length:Int)).toNat []
def jW(d:bL)(s:cX)(x:wU):cX×List eW:=
 if x.kind=0 then
  if(kP (kE (mO x.number) x.data) 10).2=0/\(kP (kE (mO x.number) x.data) 10).1≠[]then
   if(nL s (H8 x)).2.2=0 then((nL s (H8 x)).1,(nL s (H8 x)).2.1)else(s,[])
  else(s,[])
 else if x.kind=1 then
  if(mT s (mO x.number)).2.2=0 then((mT s (mO x.number)).1,(mT s (mO x.number)).2.1)else(s,[])
 else if x.kind=2 then
  if(rR d s (mO x.number)).2.2=0 then((rR d s (mO x.number)).1,(rR d s (mO x.number)).2.1)else(s,[])
 else(s,[])
def yX(D:Int)(x:wU):Int:=if x.kind=2 then max D (mO x.number)else D
theorem Cp{x:wU}(hb:aV x.data)(h1:(kP (kE (mO x.number) x.data) 10).2=0)(h2:(kP (kE (mO x.number) x.data) 10).1≠[]):(∀y∈H8 x,aV y)/\(H8 x).length<=30:=by
 have hl:(kP (kE (mO x.number) x.data) 10).1.length≠0:=fun h=>h2 (jQ h)
 refine bw5 hb h1 _ (cQ [] ?_);have:=zM (max 0 x.part) (show(0:Int)<((kP (kE (mO x.number) x.data) 10).1.length:Int)by omega)
 have:=BC (max 0 x.part) (show((kP (kE (mO x.number) x.data) 10).1.length:Int)≠0 by omega)
 omega
theorem aj9(x:Int):1<=mO x/\mO x<=1000:=by unfold mO;omega
theorem ak0{d:bL}{s:cX}{D:Int}{t:Nat}(S:SD d s D t)(ht:t<=900){x:wU}(hb:aV x.data):
  ∃d',ru (jW d s x).2 d=some d'/\SD d' (jW d s x).1 (yX D x) (t+1)/\Path (M1 160 (yX D x) s.aR (jW d s x).1.aR) (jW d s x).2 d/\(x.kind=2->∀y∈(jW d s x).1.aR,mO x.number<y.number):=by
 obtain⟨A,B,C,F,rs,rfl,S⟩:=S;have hc:=aj9 x.number;have stay:∃d',ru [] ⟨A++(B++C),[]⟩=some d'/\SD d' s D (t+1)/\Path (M1 160 D s.aR s.aR) [] ⟨A++(B++C),[]⟩:=⟨_,rfl,⟨A,B,C,F,rs,rfl,S.stay ht⟩,S.still⟩;unfold jW yX;by_cases k0:x.kind=0
 ·have k2:¬x.kind=2:=by omega
  rw[if_pos k0,if_neg k2];split
  ·rename_i g
   obtain⟨p1,p2⟩:=Cp hb g.1 g.2;split
   ·rename_i g2
    obtain⟨d',r1,r2,r3⟩:=bv1 S ht p1 p2 g2;exact⟨d',r1,r2,r3,fun h=>absurd h k2⟩
   ·obtain⟨d',r1,r2,r3⟩:=stay
    exact⟨d',r1,r2,r3,fun h=>absurd h k2⟩
  ·obtain⟨d',r1,r2,r3⟩:=stay
   exact⟨d',r1,r2,r3,fun h=>absurd h k2⟩
 ·rw[if_neg k0]
  by_cases k1:x.kind=1
  ·have k2:¬x.kind=2:=by omega
   rw[if_pos k1,if_neg k2];split
   ·rename_i g2
    obtain⟨d',r1,r2,r3⟩:=bv4 S ht (n:=mO x.number) (by omega) g2
    exact⟨d',r1,r2,r3,fun h=>absurd h k2⟩
   ·obtain⟨d',r1,r2,r3⟩:=stay
    exact⟨d',r1,r2,r3,fun h=>absurd h k2⟩
  ·rw[if_neg k1]
   by_cases k2:x.kind=2
   ·rw[if_pos k2,if_pos k2]
    obtain⟨d',s',ops,q1,q2,q3,q4,⟨A',B',F',JA,rfl,q5,-⟩,q6⟩:=aj5 S ht (n:=mO x.number) (by omega)
    rw[q1];simp only[if_true];refine⟨_,q4,⟨A',B',C,F',JA,rfl,q5⟩,q6,fun _ y hy=> ?_⟩
    rw[q2]at hy;exact of_decide_eq_true (pC.1 hy).2
   ·rw[if_neg k2,if_neg k2]
    obtain⟨d',r1,r2,r3⟩:=stay;exact⟨d',r1,r2,r3,fun h=>absurd h k2⟩
theorem bw6{d:bL}{s:cX}{D:Int}{t:Nat}(S:SD d s D t)(ht:t<=900):∃d' s' ops,rR d s 1073741824=(s',ops,0)/\s'.aR=[]/\ru ops d=some d'/\mK s'=0/\s'.j.count=160/\s'.j.b8=[]/\∃t',p5 d' 0 160=(t',[],0)/\t'.j=s'.j/\t'.aR=[]:=by
 obtain⟨A,B,C,F,rs,rfl,S⟩:=S;obtain⟨d',s',ops,q1,q2,q3,q4,⟨A',B',F',JA,rfl,q5,q6⟩,-⟩:=aj5 S ht (n:=1073741824) (by decide)
 have eR:∀x∈s.aR,x.number<=1073741824:=fun x hx=>by
  have h1:=(Q6 (S.Q7 x hx)).1;have:=(W9 h1).2.1;exact this
 have PK:=q6 eR;subst PK;obtain⟨o1,o2,o3,o4⟩:=q5.W6;have hz:=q5.rg.b8;refine⟨_,s',ops,q1,?_,q4,q5.ok,q5.Ml.2,hz,_,Prod.ext rfl o1,o2,o4 rfl⟩;rw[q2];exact List.filter_eq_nil_iff.2 fun x hx=>by simpa using eR x hx
theorem bw7{d:bL}{s:cX}{D:Int}{t:Nat}(S:SD d s D t):(p5 d 0 160).2=([],0)/\p7 D (p5 d 0 160).1.aR=p7 D s.aR:=by
 obtain⟨A,B,C,F,rs,rfl,S⟩:=S;obtain⟨o1,o2,o3,o4⟩:=S.W6;exact⟨o1,o3⟩
theorem qI.bytes{A B C F:List aH}{rs:List Kp}{s:cX}{D:Int}{t:Nat}(S:qI A B C F rs s D t):BM ⟨A++(B++C),[]⟩:=by
 have hA:∀x∈A,dC x:=S.sb.elim (·.UU) (·.ZX)
 have hB:∀x∈B,dC x:=S.sb.elim (·.ZX) (·.UU)
 refine⟨fun x hx=> ?_,fun c hc=>by simp at hc⟩
 rcases lS.1 hx with e|e
 ·exact hA x e
 ·rcases lS.1 e with e|e
  ·exact hB x e
  ·have h1:x∈jV C s.j.head.toNat:=by
    unfold jV;rw[<-yJ s.j.head.toNat C]at e;rcases lS.1 e with h|h
    ·exact uE _ h
    ·exact wB _ h
   rw[S.rg.LZ]at h1;rcases lS.1 h1 with h|h
   ·exact Cf _ _ S.rg.yV x h
   ·exact S.rg.sec x h
theorem bw8{a n p:Int}{l:List aH}(h:∀x∈l,dC x):BN (tC a n p l):=fun o ho x hx=>by
 unfold tC at ho;split at ho
 ·simp only[cG,jF,or_false]at ho
  rcases ho with rfl|rfl
  ·exact h x (oS hx)
  ·exact h x (lJ hx)
 ·simp only[cG,jF,or_false]at ho
  subst ho;exact h x hx
theorem bw9{j:Jr}{k:Int}{p:List Int}(hk:1<=k/\k<=255)(hp:∀x∈p,aV x):BN (kD j k p).2.1:=by
 unfold kD;split
 ·split
  ·rename_i g1 g2
   split
   ·exact nA
   ·split
    ·exact nA
    ·have hr:∀x∈(tB k (jN j) p).1,dC x:=by
      unfold tB;split
      ·exact fun x hx=>by simp at hx
      ·split
       ·exact fun x hx=>by simp at hx
       ·rename_i g3 g4
        intro x hx;have hx:x∈(List.range (sY (fS k p).length 4)).map fun i=>sK (jN j) (iJ (fS k p) 4 i):=hx
        rw[af9]at hx;exact Lx hk hp x hx
     intro o ho x hx;rcases lS.1 ho with e|e
     ·exact bw8 hr o e x hx
     ·simp only[cG,jF,or_false]at e
      subst e;simp at hx
  ·exact nA
 ·exact nA
theorem ak1(d:bL)(j:Jr)(n:Int):BN (uY d j n).2.1:=by
 unfold uY;split
 ·split
  ·split
   ·exact nA
   ·split
    ·exact nA
    ·split
     ·exact aT0 _ _ (Mh _ _) (W8 _ _)
     ·exact nA
  ·exact nA
 ·exact nA
theorem bx0{d:bL}{s:cX}{x:wU}(hb:aV x.data):BN (jW d s x).2:=by
 have wP:∀{k:Int} {p:List Int} {y:aW},(1<=k/\k<=255)->(∀z∈p,aV z)->BN (vN s k p y).2.1:=fun hk hp=>by
  unfold vN;split
  ·exact bw9 hk hp
  ·exact nA
 unfold jW;split
 ·split
  ·rename_i g
   split
   ·have hp:=(Cp hb g.1 g.2).1
    unfold nL;split
    ·split
     ·split
      ·split
       ·split
        ·exact nA
        ·exact wP (by decide) hp
       ·exact nA
      ·split
       ·exact nA
       ·exact wP (by decide) hp
     ·exact nA
    ·exact nA
   ·exact nA
  ·exact nA
 ·split
  ·split
   ·unfold mT
    split
    ·split
     ·split
      ·exact nA
      ·split
       ·exact wP (by decide) (wR _)
       ·exact nA
     ·exact nA
    ·exact nA
   ·exact nA
  ·split
   ·split
    ·unfold rR
     split
     ·split
      ·split
       ·exact nA
       ·split
        ·exact ak1 _ _ _
        ·exact nA
      ·exact nA
     ·exact nA
    ·exact nA
   ·exact nA
theorem bx1{s:cX}(h:mK s=0){y:aW}(hy:y∈s.aR):y.number∈BU s↔y.closed=true:=by
 have D7:PW s.aR:=(VE s.j _ _ _ (BV h).2.2).1;unfold BU;rw[if_pos h,kV];constructor
 ·rintro⟨z,hz,hn⟩
  obtain⟨h1,h2⟩:=pC.1 hz;have:=D7.inj h1 hy hn;rw[<-this];exact h2
 ·exact fun hc=>⟨y,pC.2 ⟨hy,hc⟩,rfl⟩
end Go.Proofs.YtioafciifiggaaaGreatDoor
namespace Go.Proofs.YtioafciifiggaaaGreatDoor
open Go.Proofs Go.AL
set_option maxRecDepth 100000
set_option maxHeartbeats 8000000
attribute [local irreducible] cH AW b9 dR eH hold
attribute [local irreducible] jI
theorem bx2(d:bL)(j:Jr)(n:Int)(hl:j.b8.length<=100000)(hs:d.st.length<=1000000)(h2:d.ca.length<=1000000)(hk:∀s∈fA d.st d.ca,dC s):PC 37 [.agg (bM d),.agg (eZ j),zV n] (.aU [.agg (eZ (uY d j n).1),.snap (aA bJ (uY d j n).2.1),zV (uY d j n).2.2]):=by
 refine BI Tryz.func37 Tryz.ntmps37 (by simp only[go_sem,eZ]) ?_
 have c0:=CZ d hs h2;have c1:=P6 j hl;obtain⟨M,hM⟩:∃M,uY d j n=M:=⟨_,rfl⟩;rw[hM];unfold uY at hM;by_cases g0:dM d=0
 case neg=>
  rw[if_neg g0]at hM;subst hM;have g0x:(dM d !=0)=true:=by simpa using g0
  generalize dM d=e at*;obtain⟨st,ca⟩:=d;obtain⟨js,jc,jh,jt,jf,jz⟩:=j;unfold eZ encS j9 bM at*;simp only[]at*;clear c1 hk;refine aD ?_;exact aC
 rw[if_pos g0]at hM;rw[g0]at c0;by_cases g1:jE j=0
 case neg=>
  rw[if_neg g1]at hM;subst hM;rw[decide_eq_false g1]at c1;obtain⟨st,ca⟩:=d;obtain⟨js,jc,jh,jt,jf,jz⟩:=j;unfold eZ encS j9 bM at*;simp only[]at*;clear g1 hk;refine aD ?_;exact aC
 rw[if_pos g1]at hM;rw[decide_eq_true g1]at c1;obtain⟨hv,e1,e2,e3,e4,e5,e6,e7⟩:=uP g1;have h5:=IS hv
 have hU:jU j=j.b8.sum:=by
  unfold jU;rw[if_pos hv];have h9:=((An j hv).1 g1).2.1;have:=(V6 (j.count-16) j.b8 0 (by omega)).2 h9
  omega
 rw[hU]at c1;have c2:=Kj j j.b8.sum e3 (by omega) hl
 have c5:=IX j.start j.count;rw[IntWalk.i64_in (j.count-16) (by omega)]at c5
 have w1:IntKind.i64.wrap (j.first-1)=j.first-1:=IntWalk.i64_in _ (by omega)
 clear hU;by_cases g2:n<j.first-1
 ·rw[if_pos (.inl g2)]at hM
  subst hM;obtain⟨st,ca⟩:=d;obtain⟨js,jc,jh,jt,jf,jz⟩:=j;unfold eZ encS j9 bM at*;simp only[]at*;clear c5 hk g1 hv e7 e5;refine aD ?_;exact aC
 by_cases g3:j.first+(j.b8.length:Int)<=n
 ·rw[if_pos (.inr g3)]at hM
  subst hM;obtain⟨st,ca⟩:=d;obtain⟨js,jc,jh,jt,jf,jz⟩:=j;unfold eZ encS j9 bM at*;simp only[]at*;clear c5 hk g1 hv e7 e5;refine aD ?_;exact aC
 rw[if_neg (by omega)]at hM
 have w2:IntKind.i64.wrap (n-j.first)=n-j.first:=IntWalk.i64_in _ (by omega)
 obtain⟨k,iX⟩:∃k:Nat,n+1-j.first=k:=⟨(n+1-j.first).toNat,by omega⟩
 have w3:IntKind.i64.wrap (n-j.first+1)=(k:Int):=by rw[IntWalk.i64_in _ (by omega)];omega
 rw[iX,mE]at hM;have eR:=GM e7;have qU:k<=j.b8.length:=by omega
 by_cases g4:n=j.first-1
 ·rw[if_pos g4]at hM
  subst hM
  have rS:((k:Int)==0)=true:=by have:k=0:=by omega
                                rw[this];rfl
  obtain⟨st,ca⟩:=d;obtain⟨js,jc,jh,jt,jf,jz⟩:=j;unfold eZ encS bM at*;simp only[]at*;clear hk g1 hv e7 e5 g4 eR c5 g0;by_cases DN:jz=[]
  ·subst DN
   refine aD ?_;refine kA Tryz.func86 Tryz.ntmps86 ?_;refine aD ?_;exact oD
  ·have aJ:=wG DN
   have LN:(∀row,row∈aA bD jz->∀x,x∈row->bK x)=True:=eq_true (oB _);have hjx:=fun G k=>Kr G k jz
   have Kt:jz.take jz.length=jz:=lI;refine aD ?_;refine kA Tryz.func86 Tryz.ntmps86 ?_;refine aD ?_;exact oD
 rw[if_neg g4]at hM
 have rS:((k:Int)==0)=false:=by have:k≠0:=by omega
                                simpa using this
 have DN:j.b8≠[]:=fun e=>by rw[e]at qU;simp at qU;omega
 have aJ:=wG DN;have kN:=fun i=>ah3 (j:=j) (k:=i) (by omega)
 have WG:=fun i (hi:i<j.b8.length)=>bs4 (j:=j) (k:=i) (by omega) hi
 have hz:=bs5 (j:=j) e1 e2;have c6:=ad4 (rQ j k) (n+1);have c7:=aP9 d j.start (aQ (rQ j k)++aQ (n+1)) (by have:=W8 (rQ j k) (n+1);omega) hs h2 hk
 have WH:=gI j.b8;generalize hH:rQ j=Hf at*;obtain⟨st,ca⟩:=d;obtain⟨js,jc,jh,jt,jf,jz⟩:=j;unfold eZ encS bM at*;simp only[]at*
 replace kN:=bB.mk kN
 replace WG:=bB.mk WG
 replace eR:=bB.mk eR
 replace WH:=bB.mk WH
 clear hk g1 hv e7 e5 hH;refine aD ?_;refine kA Tryz.func86 Tryz.ntmps86 ?_;refine aD ?_
 refine fK (α:=Unit) k (fun i _=> [(61,true,zV i),(60,true,zV k),(59,true,.own 9 0 k),(12,true,.ptr 12 0 0),(10,true,.ptr 3 0 0),(13,true,zV k),(3,true,.ptr 0 0 0),(6,true,.ptr 2 0 0)])
  (fun i _=> [(0,some (.cells 25 2 [[.snap (aA aS st),.snap (aA iP ca)]] true false)),(2,some (.cells 30 6 [[zV 0,zV 0,zV 0,zV 0,zV 0,.c (.slice none 0 0)]] true false)),(3,some (.cells 134 9 [[zV js,zV jc,zV js,zV jc,zV jh,zV jt,zV jf,.snap (aA bD jz),zV jz.sum]] true false)),(9,some (.cells 3 1 (aA bD jz) true true)),(12,some (.cells 30 6 [[zV js,zV jc,zV (Hf i),zV jt,zV jf,.own 9 0 jz.length]] true false))])
  (fun i m _=>14<=m) ⟨100,(),by omega,?_⟩ (fun i m _ hi hm=> ?_) (fun m _ hm=> ?_)
 ·rw[hz]
  exact aT
 ·have h3:=kN.out i
  have h4:=kN.out (i+1);have AP:=WG.out i (by omega)
  have Cq:=WH.out i (by omega)
  have hx:=eR.out _ (cQ 0 (show i<jz.length by omega))
  clear kN WG WH eR hM c6 c7;generalize jz.getD i 0=x at*;have w4:IntKind.i64.wrap (Hf i+x)=Hf i+x:=IntWalk.i64_in _ (by omega)
  have w6:¬jc-16=0:=by omega
  have w8:(Hf i+x).tmod (jc-16)=Hf (i+1):=by rw[EF (by omega)];exact AP
  have hw9:IntKind.i64.wrap (Hf (i+1))=Hf (i+1):=IntWalk.i64_in _ (by omega)
  refine aD ?_;exact⟨m+60,(),by omega,aT⟩
 ·have w5:IntKind.i64.wrap (jf+(k:Int))=n+1:=by rw[IntWalk.i64_in _ (by omega)];omega
  have yQ:jz.length-k=(jz.drop k).length:=by rw[eF]
  have LN:(∀row,row∈aA bD (jz.drop k)->∀x,x∈row->bK x)=True:=eq_true (oB _);have hjx:=fun G q=>Kr G q (jz.drop k)
  have Kt:(jz.drop k).take (jz.drop k).length=jz.drop k:=lI;clear kN WG WH eR hz;generalize Hf k=H at*;generalize eG:lU ⟨st,ca⟩ js (aQ H++aQ (n+1))=So at*;generalize aQ H++aQ (n+1)=V at*;obtain⟨so,se⟩:=So;simp only[]at*;by_cases g5:se=0
  ·rw[if_pos g5]at hM
   subst hM;subst g5;simp only[];clear eG;refine aD ?_;exact oD
  ·rw[if_neg g5]at hM
   subst hM;have Cr:(se !=0)=true:=by simpa using g5
   clear eG g5;unfold j9;refine aD ?_;exact oD
end Go.Proofs.YtioafciifiggaaaGreatDoor
