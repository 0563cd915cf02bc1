/- Staging. No condition. -/
import Derived.Test.YtioafciifiggaaaGreatDoorL0
import Derived.Test.YtioafciifiggaaaGreatDoorAzc
set_option linter.all false
namespace Go.Proofs.YtioafciifiggaaaGreatDoor
open Go.Proofs Go.AL
set_option maxRecDepth 100000
set_option maxHeartbeats 1000000
attribute [local irreducible] cH AW b9 dR eH hold
theorem gdL{α:Type}(l:List α)(i j:Nat)(x z:α)(h:i≠j):(l.set i x).getD j z=l.getD j z:=Ww z x h
theorem gdS{α:Type}(l:List α)(i:Nat)(x z:α)(h:i<l.length):(l.set i x).getD i z=x:=Wv z x h
theorem W9{a:nT}(h:qF a=0):1<=a.number/\a.number<=1073741824/\1<=a.parts/\a.parts<=65536/\0<=a.sum/\a.sum<=4294967295/\(a.bS.length:Int)=a.parts/\(a.seen.length:Int)=a.parts/\∀i,i<a.bS.length->D9 a i=true:=by
 unfold qF at h;split at h
 ·exact absurd h (by decide)
 ·rename_i g
  split at h
  ·rename_i g2
   have:=gK.1 g2;refine⟨by omega,by omega,by omega,by omega,by omega,by omega,by omega,by omega,fun i hi=>this i (EG.2 hi)⟩
  ·exact absurd h (by decide)
theorem ai9{a:nT}(h1:1<=a.number)(h2:a.number<=1073741824)(h3:1<=a.parts)(h4:a.parts<=65536)(h5:0<=a.sum)(h6:a.sum<=4294967295)(h7:(a.bS.length:Int)=a.parts)(h8:(a.seen.length:Int)=a.parts)(h9:∀i,i<a.bS.length->D9 a i=true):qF a=0:=by
 unfold qF;rw[if_neg (by omega),if_pos (gK.2 fun i hi=>h9 i (EG.1 hi))]
theorem aj0{n p s:Int}{H:List (List Int)}{S:List Bool}{i:Nat}{x:List Int}(hi:i<H.length)(hS:S.length=H.length)(h:∀j,j<H.length->D9 ⟨n,p,s,H,S⟩ j=true)(h1:1<=x.length)(h2:x.length<=4096):
  ∀j,j<(H.set i x).length->D9 ⟨n,p,s,H.set i x,S.set i true⟩ j=true:=fun j hj=>by
 rw[BD]at hj;unfold D9;simp only[];by_cases g:i=j
 ·subst g
  rw[gdS H i x [] hi,gdS S i true false (by omega),decide_eq_true (by omega:0<x.length),decide_eq_true h2]
  rfl
 ·rw[gdL H i j x [] g,gdL S i j true false g]
  exact h j hj
theorem Mi{a:nT}{p:List Int}(hp:∀x∈p,aV x)(h:(iA a p).2=0):qF a=0/\qF (iA a p).1=0/\∃i x,i<a.bS.length/\i<a.seen.length/\x.length<=p.length/\(∀y∈x,aV y)/\(iA a p).1=⟨a.number,a.parts,a.sum,a.bS.set i x,a.seen.set i true⟩/\(a.seen.getD i false=true->a.bS.getD i []=x):=by
 unfold iA at h⊢;split at h
 ·rename_i g1
  obtain⟨a1,a2,a3,a4,a5,a6,a7,a8,a9⟩:=W9 g1;rw[if_pos g1];split at h
  ·rename_i g2
   obtain⟨q1,q2,q3,q4,q5,q6,q7,q8,q9,M0,J9⟩:=IQ hp g2;rw[if_pos g2];split at h
   ·rename_i g3
    rw[if_pos g3];split at h
    ·rename_i g4
     rw[if_pos g4];split at h
     ·exact absurd h (by decide)
     ·rename_i g5
      rw[if_neg g5];refine⟨g1,ai9 a1 a2 a3 a4 a5 a6 (by rw[BD];exact a7) (by rw[BD];exact a8) (aj0 (by omega) (by omega) a9 q8 q9),_,_,by omega,by omega,J9,M0,rfl,fun hs=> ?_⟩
      exact KD.1 fun hn=>g5 ⟨hs,hn⟩
    ·exact absurd h (by decide)
   ·exact absurd h (by decide)
  ·rename_i g;exact absurd h g
 ·exact absurd h (by decide)
theorem bu6{p:List Int}(hp:∀x∈p,aV x)(h:(bZ p).2=0):qF (lW p).1=0/\((lW p).1.seen.filter id).length=1/\(lW p).1.bS.length<=65536/\fO (lW p).1.bS<=p.length/\∀x∈(lW p).1.bS,x.length<=p.length/\∀y∈x,aV y:=by
 obtain⟨q1,q2,q3,q4,q5,q6,q7,q8,q9,M0,J9⟩:=IQ hp h;unfold lW;rw[if_pos h];simp only[];generalize bZ p=Q at*;obtain⟨⟨n,i,m,s,x⟩,e⟩:=Q;simp only[]at*;obtain⟨i',rfl⟩:∃i':Nat,i=i':=⟨i.toNat,by omega⟩
 obtain⟨m',rfl⟩:∃m':Nat,m=m':=⟨m.toNat,by omega⟩
 rw[mE,mE]
 have Mg:∀(k j:Nat),fO ((List.replicate k []).set j x)<=x.length:=by
  intro k
  induction k with
  |zero=>intro j;simp[fO]
  |succ k ih=>
   intro j;cases j with
   |zero=>
    have hz:∀k,fO (List.replicate k ([]:List Int))=0:=fun k=>by
     induction k with
     |zero=>rfl
     |succ k ih=>rw[I6];unfold fO at*;rw[gJ,qP,ih];rfl
    rw[I6,Gc];have:=hz k;unfold fO at*;rw[gJ,qP,this];omega
   |succ j=>
    have:=ih j;rw[I6,Ge];unfold fO at*;rw[gJ,qP];simpa using this
 refine⟨ai9 q1 q2 (by simp only[];omega) q5 q6 q7 (by simp) (by simp) (aj0 (by rw[s6];omega) (by simp) (fun j hj=> ?_) q8 q9),?_,by simp;omega,s8 (Mg m' i') J9,fun y hy=> ?_⟩
 ·unfold D9
  rw[s6]at hj;simp[eP,hj]
 ·rw[Lg _ _ (by rw[s6];omega) (by simp[eP,O8];split<;>rfl),List.filter_replicate]
  simp
 ·rcases O4 hy with e|e
  ·have:=List.eq_of_mem_replicate e
   subst this;exact⟨iG _,fun y hy=>by simp at hy⟩
  ·subst e
   exact⟨J9,M0⟩
theorem Mj(H:List (List Int))(i:Nat)(x:List Int):fO (H.set i x)<=fO H+x.length:=by
 induction H generalizing i with
 |nil=>simp[fO]
 |cons y H ih=>
  cases i with
  |zero=>
   rw[Gc];unfold fO;simp only[gJ,qP];omega
  |succ i=>
   have:=ih i;rw[Ge];unfold fO at*;simp only[gJ,qP];omega
theorem bu7{a:nT}{p:List Int}(hp:∀x∈p,aV x)(h:(iA a p).2=0)(hc:(rM a).2=0):(iA a p).1=a:=by
 obtain⟨h1,h2,i,x,i1,i2,-,-,e,hs⟩:=Mi hp h
 have eR:a.seen.all id=true:=by
  unfold rM at hc;rw[if_pos h1]at hc;split at hc
  ·assumption
  ·exact absurd hc (by decide)
 have hi:a.seen.getD i false=true:=by
  have:=gK.1 eR (a.seen.getD i false) (cQ false i2);simpa using this
 have hx:=hs hi;rw[e,Lh a.seen i hi,<-hx];obtain⟨n,m,s,H,S⟩:=a;simp only[]at*;congr 1;refine I3 (by simp) fun k k1 k2=> ?_
 rw[Ty];split
 ·rename_i g
  subst g;simp[k2]
 ·rfl
theorem bu8{a:nT}{p:List Int}(hp:∀x∈p,aV x)(h:(iA a p).2=0)(aJ:(iA a p).1≠a):((iA a p).1.seen.filter id).length=(a.seen.filter id).length+1:=by
 obtain⟨h1,h2,i,x,i1,i2,-,-,e,hs⟩:=Mi hp h;rw[e];refine Lg a.seen i i2 ?_;cases hb:a.seen.getD i false with
 |false=>rfl
 |true=>
  exfalso;refine aJ ?_;have hx:=hs hb;rw[e,Lh a.seen i hb,<-hx];obtain⟨n,m,s,H,S⟩:=a;simp only[]at*;congr 1;refine I3 (by simp) fun k k1 k2=> ?_
  rw[Ty];split
  ·rename_i g
   subst g;simp[k2]
  ·rfl
theorem bu9{s:cX}(h:mK s=0){j:Jr}(e3:jE j=0)(hf:j.first=s.j.first)(hN:jN j=jN s.j+1){x:aW}(hx:Bz s x)(hc:s.aR.length<=1000):mK ⟨j,lP s.aR x⟩=0:=by
 obtain⟨hj,-,eG⟩:=BV h;obtain⟨j1,j2,j3,j4,j5,j6,j7,j8⟩:=uP hj;have hn:=By hj;have D7:PW s.aR:=(VE s.j _ _ _ eG).1;have mM:=ET s.j _ _ _ eG;obtain⟨F8,-⟩:=Ll s.j _ _ _ eG;have tV:∀y∈s.aR,oY (s.j.first-1) (jN s.j) y.records=true:=fun y hy=>Yy (mM y hy)
 have bG:∀y∈s.aR,∀n∈y.records,n<jN s.j:=fun y hy n hn=>(P8 _ _ _ (tV y hy) n hn).2
 have WA:oY (j.first-1) (jN j) x.records=true:=by
  rw[hN,hf,hx.yV];cases hg:gF s.aR x.number with
  |some y=>exact Lm _ _ _ (by omega) (tV y (DQ hg).1)
  |none=>exact Lm [] (s.j.first-1) (jN s.j) (by omega) rfl
 have EU:nU j x=true:=by
  unfold nU;rw[if_pos hx.bF,if_neg hx.seen,if_neg (fun hh=>hh.2 (hx.closed hh.1)),if_pos WA]
  exact decide_eq_true hx.bo5
 have h9:=LO s.aR x;unfold mK;rw[if_pos e3,if_neg (by simp only[];omega),if_pos]
 refine Lk _ _ _ _ (fun y hy=> ?_) (H4 D7 x) (fun n hn=>by simp at hn) (fun a ha b hb uW n C3 A7=> ?_) (fun y hy n hn=>by simp)
 ·rcases Bx D7 hy with h1|⟨h1,-⟩
  ·rw[h1];exact EU
  ·exact bo4 hf (by simp only[];omega) (mM y h1)
 ·have key:∀c∈s.aR,c.number≠x.number->∀n∈c.records,n∉x.records:=fun c hc WB n hn hm=>by
   rw[hx.yV]at hm;rcases lS.1 hm with h1|h1
   ·cases hg:gF s.aR x.number with
    |some y=>
     rw[hg]at h1;obtain⟨g1,g2⟩:=DQ hg;exact F8 c hc y g1 (by omega) n hn h1
    |none=>
     rw[hg]at h1;simp at h1
   ·have:=bG c hc n hn
    simp at h1;omega
  rcases Bx D7 ha with h1|⟨h1,g1⟩
  ·rcases Bx D7 hb with h2|⟨h2,g2⟩
   ·rw[h1,h2]at uW;exact uW rfl
   ·rw[h1]at C3
    exact key b h2 g2 n A7 C3
  ·rcases Bx D7 hb with h2|⟨h2,g2⟩
   ·rw[h2]at A7
    exact key a h1 g1 n C3 A7
   ·exact F8 a h1 b h2 uW n C3 A7
def p7(D:Int)(l:List aW):List aW:=l.filter fun x=>decide (D<x.number)
theorem WC{A B C F:List aH}{j:Jr}{rs:List Kp}{K D:Int}{l:List aW}(G:Rg C j rs F)(hS:sV A B (aQ j.head++aQ j.first) K)(hF:mU F (j.first+rs.length)=([],0))(J:uZ l (jT rs j.first) D)(hl:rs.length<=1000):
  (p5 ⟨A++(B++C),[]⟩ 0 j.count).2.2=0/\(p5 ⟨A++(B++C),[]⟩ 0 j.count).1.j=j/\p7 D (p5 ⟨A++(B++C),[]⟩ 0 j.count).1.aR=p7 D l/\
    ((∀s∈F,bN s<j.first+rs.length)->(p5 ⟨A++(B++C),[]⟩ 0 j.count).2.1=[])/\(rs=[]->(p5 ⟨A++(B++C),[]⟩ 0 j.count).1.aR=[]):=by
 obtain⟨h1,h2,h3,h4⟩:=bt7 G hS hF;obtain⟨o1,o2,o3,o4⟩:=J.W6;rw[Ci]at o3;unfold p5;rw[if_pos h1,h3,if_pos o1,if_neg (by omega)]
 refine⟨rfl,h2,o4,h4,fun e=> ?_⟩
 rw[e];rfl
def M1(c D:Int)(a b:List aW)(e:bL):Prop:=(p5 e 0 c).2.2=0/\(p7 D (p5 e 0 c).1.aR=p7 D a\/p7 D (p5 e 0 c).1.aR=p7 D b)
structure Bd(s:cX)(t:Nat):Prop where
 aR:s.aR.length<=t
 one:∀x∈s.aR,fO x.bS<=30*t/\∀p∈x.bS,∀y∈p,aV y
structure qI(A B C F:List aH)(rs:List Kp)(s:cX)(D:Int)(t:Nat):Prop where
 len:C.length=144
 rg:Rg C s.j rs F
 Q4:∀x∈F,bN x<s.j.first+rs.length
 sb:sV A B (aQ s.j.head++aQ s.j.first) ((t:Int)+1)
 Q5:uZ s.aR (jT rs s.j.first) D
 ok:mK s=0
 bd:Bd s t
def SD(d:bL)(s:cX)(D:Int)(t:Nat):Prop:=∃A B C F rs,d=⟨A++(B++C),[]⟩/\qI A B C F rs s D t
theorem Mk:∀(H:List (List Int)),∀p∈H,p.length<=fO H
 |[],p,h=>by simp at h
 |x::H,p,h=>by
  unfold fO;rw[gJ,qP];rcases cG.1 h with e|e
  ·subst e;omega
  ·have:=Mk H p e
   unfold fO at this;omega
theorem qI.lens{A B C F:List aH}{rs:List Kp}{s:cX}{D:Int}{t:Nat}(S:qI A B C F rs s D t)(ht:t<=1000):rA s:=by
 obtain⟨hj,hc,eG⟩:=BV S.ok;obtain⟨-,-,-,-,j5,-⟩:=uP hj;have mM:=ET s.j _ _ _ eG;obtain⟨d1,d2,d3,d4,d5,d6,d7,d8⟩:=S.rg.J6;have hz:s.j.b8.length=rs.length:=by rw[S.rg.b8,l4]
 have h8:=(GN _ (GM (uP hj).2.2.2.2.2.2.2)).1;have wT:=S.rg.count;have h7:=(uP hj).2.2.2.2.2.2.1;have hl:=S.len;refine⟨by omega,by omega,fun x hx=> ?_⟩
 have hxa:qF (bF x)=0:=by
  have:=mM x hx;unfold nU at this;split at this
  ·assumption
  ·exact absurd this (by decide)
 obtain⟨a1,a2,a3,a4,a5,a6,a7,a8,a9⟩:=W9 hxa;obtain⟨b1,b2⟩:=S.bd.one x hx;have:=VT (mM x hx);refine⟨⟨by omega,by omega,fun p hp=>⟨?_,b2 p hp⟩,?_⟩,by omega⟩
 ·have:=Mk x.bS p hp
  show p.length<=100000
  omega
 ·show fO x.bS<=100000
  omega
theorem aj1{A B C F:List aH}{rs:List Kp}{s:cX}{D:Int}{t:Nat}(S:qI A B C F rs s D t)(ht:t<=900){k:Int}{p:List Int}(hk:1<=k/\k<=255)(hp:∀y∈p,aV y){x:aW}
  (h:(kD s.j k p).2.2=0) (hr:oK ⟨k,jN s.j,p⟩=true) (y6:x.number=iD ⟨k,jN s.j,p⟩) (hs:uX (gF s.aR x.number) ⟨k,jN s.j,p⟩=some x)
  (tV:x.records=(match gF s.aR x.number with|some y=>y.records|none=> [])++[jN s.j]) (nP:Bz s x) (hb:fO x.bS<=30*(t+1)/\∀q∈x.bS,∀y∈q,aV y):
  ∃d',ru (kD s.j k p).2.1 ⟨A++(B++C),[]⟩=some d'/\SD d' ⟨(kD s.j k p).1,lP s.aR x⟩ D (t+1)/\Path (M1 160 D s.aR (lP s.aR x)) (kD s.j k p).2.1 ⟨A++(B++C),[]⟩:=by
 obtain⟨d1,d2,d3,d4,d5,d6,d7,d8⟩:=S.rg.J6;have hlen:=S.len;have wT:=S.rg.count;have aj2:s.j.count=160:=by omega
 have hz:s.j.b8.length=rs.length:=by rw[S.rg.b8,l4]
 have h8:=(GN _ (GM (uP S.rg.ok).2.2.2.2.2.2.2)).1;have h7:=(uP S.rg.ok).2.2.2.2.2.2.1;have iR:rs.length<=100:=by omega
 obtain⟨C',F',r1,r2,r3,r4,r5,r6,r7⟩:=bt9 S.rg S.sb S.Q4 hk hp h
 have hJ:uZ (lP s.aR x) (jT (rs++[(k,p)]) s.j.first) D:=by
  rw[ah5,jT,jT,<-d8];exact S.Q5.put hr y6 hs tV
 have hN:jN (kD s.j k p).1=jN s.j+1:=by
  rw[By r2.ok,r4,r2.b8,l4,bP,d8];simp only[dK,fJ];omega
 have GL:=S.bd.aR;have lQ:=LO s.aR x;refine⟨_,r1,⟨A,B,C',F',_,rfl,?_,r2,?_,?_,?_,?_,⟨?_,fun y hy=> ?_⟩⟩,r7.mono fun e he=> ?_⟩
 ·have:=r2.count
  omega
 ·intro y hy
  have:=r6 y hy;simp only[bP,dK,fJ];rw[r4];exact this
 ·simp only[]
  rw[r3,r4];exact S.sb.mono (by push_cast;omega)
 ·simp only[]
  rw[r4];exact hJ
 ·exact bu9 S.ok r2.ok r4 hN nP (by omega)
 ·simp only[]
  omega
 ·rcases VU hy with e|e
  ·subst e
   exact hb
  ·obtain⟨b1,b2⟩:=S.bd.one y e
   exact⟨by omega,b2⟩
 ·obtain⟨D',H,rfl,hh⟩:=he
  rcases hh with⟨g1,g2⟩|⟨g1,g2⟩
  ·obtain⟨q1,q2,q3,-⟩:=WC g1 S.sb g2 S.Q5 (by omega)
   rw[aj2]at q1 q3;exact⟨q1,.inl q3⟩
  ·obtain⟨q1,q2,q3,-⟩:=WC (A:=A) (B:=B) g1 (by rw[r3,r4];exact S.sb) (by rw[r4];simpa using g2) (by rw[r4];exact hJ) (by simp;omega)
   rw[r5,aj2]at q1 q3;exact⟨q1,.inr q3⟩
theorem Q6{j:Jr}{x:aW}(h:nU j x=true):qF (bF x)=0/\vL x≠0/\(x.closed=true->(rM (bF x)).2=0)/\oY (j.first-1) (jN j) x.records=true/\x.records.length=tU x:=by
 unfold nU at h;split at h
 ·rename_i g1
  split at h
  ·exact absurd h (by decide)
  ·rename_i g2
   split at h
   ·exact absurd h (by decide)
   ·rename_i g3
    split at h
    ·rename_i g4
     exact⟨g1,g2,fun hc=>KD.1 fun hn=>g3 ⟨hc,hn⟩,g4,of_decide_eq_true h⟩
    ·exact absurd h (by decide)
 ·exact absurd h (by decide)
theorem qI.Q7{A B C F:List aH}{rs:List Kp}{s:cX}{D:Int}{t:Nat}(S:qI A B C F rs s D t):∀x∈s.aR,nU s.j x=true:=ET s.j _ _ _ (BV S.ok).2.2
theorem qI.stay{A B C F:List aH}{rs:List Kp}{s:cX}{D:Int}{t:Nat}(S:qI A B C F rs s D t)(ht:t<=900):qI A B C F rs s D (t+1):=
 ⟨S.len,S.rg,S.Q4,S.sb.mono (by push_cast;omega),S.Q5,S.ok,⟨by have:=S.bd.aR;omega,fun x hx=>by obtain⟨b1,b2⟩:=S.bd.one x hx;exact⟨by omega,b2⟩⟩⟩
theorem qI.Ml{A B C F:List aH}{rs:List Kp}{s:cX}{D:Int}{t:Nat}(S:qI A B C F rs s D t):rs.length<=72/\s.j.count=160:=by
 obtain⟨d1,d2,d3,d4,d5,d6,d7,d8⟩:=S.rg.J6;have hlen:=S.len;have wT:=S.rg.count;have hz:s.j.b8.length=rs.length:=by rw[S.rg.b8,l4]
 have h8:=(GN _ (GM (uP S.rg.ok).2.2.2.2.2.2.2)).1;have h7:=(uP S.rg.ok).2.2.2.2.2.2.1;omega
theorem qI.W6{A B C F:List aH}{rs:List Kp}{s:cX}{D:Int}{t:Nat}(S:qI A B C F rs s D t):(p5 ⟨A++(B++C),[]⟩ 0 160).2=([],0)/\(p5 ⟨A++(B++C),[]⟩ 0 160).1.j=s.j/\p7 D (p5 ⟨A++(B++C),[]⟩ 0 160).1.aR=p7 D s.aR/\(rs=[]->(p5 ⟨A++(B++C),[]⟩ 0 160).1.aR=[]):=by
 obtain⟨f1,f2⟩:=S.Ml;obtain⟨q1,q2,q3,q4,q5⟩:=WC S.rg S.sb (Cd S.rg.sec S.Q4) S.Q5 (by omega)
 rw[f2]at q1 q2 q3 q4 q5;exact⟨Prod.ext (q4 S.Q4) q1,q2,q3,q5⟩
theorem qI.DS{A B C F:List aH}{rs:List Kp}{s:cX}{D:Int}{t:Nat}(S:qI A B C F rs s D t):dM ⟨A++(B++C),[]⟩=0/\(A++(B++C)).length=160:=by
 have lA:A.length=8:=S.sb.elim (·.lX) (·.lY)
 have lB:B.length=8:=S.sb.elim (·.lY) (·.lX)
 have:=S.len;refine⟨ZZ lA lB S.rg.W7,by simp only[bP];omega⟩
theorem qI.still{A B C F:List aH}{rs:List Kp}{s:cX}{D:Int}{t:Nat}(S:qI A B C F rs s D t):Path (M1 160 D s.aR s.aR) [] ⟨A++(B++C),[]⟩:=fun k hk=>by
 refine⟨⟨A++(B++C),[]⟩,by simp[ru],fun c=> ?_⟩
 rw[UY S.DS.1];obtain⟨q1,q2,q3,q4⟩:=S.W6;exact⟨by rw[q1],.inl q3⟩
theorem bv1{A B C F:List aH}{rs:List Kp}{s:cX}{D:Int}{t:Nat}(S:qI A B C F rs s D t)(ht:t<=900){p:List Int}(hp:∀y∈p,aV y)(lQ:p.length<=30)(h:(nL s p).2.2=0):
  ∃d',ru (nL s p).2.1 ⟨A++(B++C),[]⟩=some d'/\SD d' (nL s p).1 D (t+1)/\Path (M1 160 D s.aR (nL s p).1.aR) (nL s p).2.1 ⟨A++(B++C),[]⟩:=by
 rcases bs7 h with e|⟨x,x1,x2,x3,x4,x5,x6⟩
 ·rw[e]
  exact⟨_,rfl,⟨A,B,C,F,rs,rfl,S.stay ht⟩,S.still⟩
 ·rw[x2]
  have H7:(bZ p).2=0:=by
   unfold oK at x3;simp only[if_neg (by decide:¬(1:Int)=2)]at x3
   exact(of_decide_eq_true x3).2
  have hlen:=S.lens (by omega)
  have key:Bz s x/\fO x.bS<=30*(t+1)/\∀q∈x.bS,∀y∈q,aV y:=by
   have Cm:=x6;cases hg:gF s.aR x.number with
   |none=>
    rw[hg]at x5 x6
    have hx:x=iT (lW p).1 [jN s.j] false:=by
     unfold uX at x5;simp only[if_neg (by decide:¬(1:Int)=2)]at x5
     exact(KG x5).symm
    obtain⟨b1,b2,b3,b4,b5⟩:=bu6 hp H7;obtain⟨a1,a2,a3,a4,a5,a6,a7,a8,a9⟩:=W9 b1;have jS:vL x=1:=by rw[hx];exact b2
    refine⟨⟨by rw[hx];exact b1,by omega,fun hc=>(by rw[hx]at hc;cases hc),Cm,?_,?_⟩,?_,?_⟩
    ·rw[hx]
     show 1=((lW p).1.seen.filter id).length
     exact b2.symm
    ·rw[hx]
     refine⟨⟨?_,?_,fun q hq=>⟨by have:=(b5 q hq).1;omega,(b5 q hq).2⟩,?_⟩,by simp[iT]⟩
     ·show(lW p).1.bS.length<=100000;omega
     ·show(lW p).1.seen.length<=100000;omega
     ·show fO (lW p).1.bS<=100000;omega
    ·rw[hx]
     show fO (lW p).1.bS<=_
     omega
    ·rw[hx]
     exact fun q hq=>(b5 q hq).2
   |some y=>
    obtain⟨hy,hyn⟩:=DQ hg;obtain⟨c1,c2,c3,c4,c5⟩:=Q6 (S.Q7 y hy);obtain⟨b1,b2⟩:=S.bd.one y hy;rw[hg]at x5 x6;simp only[]at x6
    have hx:x=LX y ⟨1,jN s.j,p⟩:=by
     unfold uX at x5;simp only[if_neg (by decide:¬(1:Int)=2)]at x5
     exact(KG x5).symm
    have iR:=congrArg List.length x6;rw[bP]at iR;simp only[dK,fJ]at iR;unfold LX at hx;simp only[]at hx;by_cases g1:(iA (bF y) p).2=0
    ·rw[if_pos g1]at hx
     by_cases g2:(iA (bF y) p).1=bF y
     ·rw[if_pos g2]at hx
      rw[hx]at iR;omega
     ·rw[if_neg g2]at hx
      have iE:y.closed=false:=by
       cases hc:y.closed with
       |false=>rfl
       |true=>exact absurd (bu7 hp g1 (c3 hc)) g2
      have jS:=bu8 hp g1 g2;obtain⟨e1,e2,i,z,i1,i2,i3,i4,i5,-⟩:=Mi hp g1
      have WD:x.bS=y.bS.set i z:=by
       rw[hx]
       show(iA (bF y) p).1.bS=_
       rw[i5];rfl
      have Cn:=Mj y.bS i z
      have aj3:∀q∈x.bS,∀w∈q,aV w:=fun q hq=>by
       rw[WD]at hq;rcases O4 hq with e|e
       ·exact b2 q e
       ·subst e;exact i4
      have AP:fO x.bS<=30*(t+1):=by rw[WD];omega
      have M3:bF x=(iA (bF y) p).1:=by rw[hx];rfl
      have hsx:vL x=vL y+1:=by
       rw[hx];exact jS
      obtain⟨a1,a2,a3,a4,a5,a6,a7,a8,a9⟩:=W9 e2;have hny:tU y=vL y:=by unfold tU;rw[iE];rfl
      have WB:x.closed=false:=by rw[hx];exact iE
      have Co:tU x=vL x:=by unfold tU;rw[WB];rfl
      have cF8:=(hlen.one y hy).records;have dH:=VT (S.Q7 y hy);refine⟨⟨by rw[M3];exact e2,by omega,fun hc=>(by rw[WB]at hc;cases hc),Cm,by omega,⟨⟨by rw[M3];omega,by rw[M3];omega,fun q hq=>⟨?_,aj3 q hq⟩,?_⟩,by omega⟩⟩,AP,aj3⟩
      ·have:=Mk x.bS q hq
       omega
      ·show fO x.bS<=100000
       omega
    ·rw[if_neg g1]at hx
     rw[hx]at iR;have:(iT (lW p).1 [jN s.j] false).records.length=1:=rfl;rw[this]at iR;have hny:vL y<=tU y:=by unfold tU;split<;>omega
     omega
  exact aj1 S ht (by decide) hp x1 x3 x4 x5 x6 key.1 key.2
theorem bv4{A B C F:List aH}{rs:List Kp}{s:cX}{D:Int}{t:Nat}(S:qI A B C F rs s D t)(ht:t<=900){n:Int}(hn:0<=n/\n<=9007199254740991)(h:(mT s n).2.2=0):
  ∃d',ru (mT s n).2.1 ⟨A++(B++C),[]⟩=some d'/\SD d' (mT s n).1 D (t+1)/\Path (M1 160 D s.aR (mT s n).1.aR) (mT s n).2.1 ⟨A++(B++C),[]⟩:=by
 have hi:aP (aQ n)=(n,[],0):=by
  have:=EM hn.1 hn.2 []
  rwa[mD]at this
 rcases bs8 h hi with e|⟨x,x1,x2,x3,x4,x5,x6⟩
 ·rw[e]
  exact⟨_,rfl,⟨A,B,C,F,rs,rfl,S.stay ht⟩,S.still⟩
 ·rw[x2]
  have hlen:=S.lens (by omega)
  have key:Bz s x/\fO x.bS<=30*(t+1)/\∀q∈x.bS,∀y∈q,aV y:=by
   have Cm:=x6;cases hg:gF s.aR x.number with
   |none=>
    rw[hg]at x5;unfold uX at x5;simp only[if_true,KH]at x5;cases x5
   |some y=>
    obtain⟨hy,hyn⟩:=DQ hg;obtain⟨c1,c2,c3,c4,c5⟩:=Q6 (S.Q7 y hy);obtain⟨b1,b2⟩:=S.bd.one y hy;rw[hg]at x5 x6;simp only[]at x6
    have hx:x=Q1 y ⟨2,jN s.j,aQ n⟩:=by
     unfold uX at x5;simp only[if_true,oU]at x5;exact(KG x5).symm
    have iR:=congrArg List.length x6;rw[bP]at iR;simp only[dK,fJ]at iR;unfold Q1 at hx;simp only[]at hx;by_cases g1:y.closed=false/\(rM (bF y)).2=0
    ·rw[if_pos g1]at hx
     have hny:tU y=vL y:=by unfold tU;rw[g1.1];rfl
     have M3:bF x=bF y:=by rw[hx];rfl
     have hsx:vL x=vL y:=by rw[hx];rfl
     have WB:x.closed=true:=by rw[hx];rfl
     have Co:tU x=vL x+1:=by unfold tU;rw[WB];rfl
     have WD:x.bS=y.bS:=by rw[hx];rfl
     have ho:=(hlen.one y hy).bF;have dH:=VT (S.Q7 y hy);refine⟨⟨by rw[M3];exact c1,by omega,fun _=>by rw[M3];exact g1.2,Cm,by omega,⟨by rw[M3];exact ho,by omega⟩⟩,by rw[WD];omega,by rw[WD];exact b2⟩
    ·rw[if_neg g1]at hx
     rw[hx]at iR;omega
  exact aj1 S ht (by decide) (wR n) x1 x3 x4 x5 x6 key.1 key.2
end Go.Proofs.YtioafciifiggaaaGreatDoor
