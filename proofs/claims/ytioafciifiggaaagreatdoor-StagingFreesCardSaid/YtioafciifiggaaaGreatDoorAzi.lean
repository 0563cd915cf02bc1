/- Staging. No condition. -/
import Derived.Test.YtioafciifiggaaaGreatDoorL0
import Derived.Test.YtioafciifiggaaaGreatDoorAzf
import Derived.Test.YtioafciifiggaaaGreatDoorAz
import Derived.Test.YtioafciifiggaaaGreatDoorAzg
import Derived.Test.YtioafciifiggaaaGreatDoorLg
import Derived.Test.YtioafciifiggaaaGreatDoorAzh
import Derived.Test.YtioafciifiggaaaGreatDoorAzd
import Derived.Test.YtioafciifiggaaaGreatDoorAza
set_option linter.all false
namespace Go.Proofs.YtioafciifiggaaaGreatDoor
open Go.Proofs Go.AL
set_option maxRecDepth 100000
set_option maxHeartbeats 8000000
attribute [local irreducible] cH AW b9 dR eH hold
theorem bA3(l:List aH)(hs:∀s∈l,dC s)(hl:l.length<=1000000):PC 174 [.snap (aA aS l)] (.aU [.agg (kI (gM l).1),zV (gM l).2.1,zV (gM l).2.2]):=by
 obtain⟨M,hM⟩:∃M,gM l=M:=⟨_,rfl⟩;rw[hM];unfold gM at hM;by_cases b0:l=[]
 ·rw[if_pos b0]at hM
  subst hM;subst b0;exact WN [] 10 bz3
 rw[if_neg b0]at hM;have h0:0<l.length:=by cases l with|nil=>exact absurd rfl b0|cons a b=>simp
 have l7:=hs _ (cQ aE h0);by_cases b1:bN (l.getD 0 aE)=0
 ·rw[if_pos b1]at hM
  subst hM;exact WN l 7 (bz4 l hs hl b0 b1)
 rw[if_neg b1]at hM;by_cases b2:4096<fX (l.getD 0 aE)
 ·rw[if_pos b2]at hM
  subst hM;exact WN l 5 (bz5 l hs hl b0 b1 b2)
 rw[if_neg b2]at hM;have iR:=LV l7;by_cases b3:(l.length:Int)<(fX (l.getD 0 aE)+10)/4
 ·rw[if_pos b3]at hM
  subst hM;exact WN l 10 (bz6 l hs hl b0 b1 (by omega) b3)
 rw[if_neg b3]at hM;obtain⟨q,hq⟩:∃q:Nat,(fX (l.getD 0 aE)+10)/4=q:=⟨((fX (l.getD 0 aE)+10)/4).toNat,by omega⟩
 obtain⟨n,hn⟩:∃n:Nat,fX (l.getD 0 aE)=n:=⟨(fX (l.getD 0 aE)).toNat,by omega⟩
 rw[hq]at hM;by_cases b4:(l.take q).any (fun x=>bN x !=bN (l.getD 0 aE))=true
 ·rw[mE,if_pos b4]at hM
  subst hM;refine WN l 10 (bz8 l q hs hl b0 b1 (by omega) hq (by omega) ?_)
  obtain⟨x,hx,aJ⟩:=vX.1 b4;obtain⟨i,hi⟩:=FY.1 hx;rw[gU]at hi;split at hi
  ·rename_i bG
   refine⟨i,bG,?_⟩;rw[eP,hi];simpa using aJ
  ·cases hi
 rw[mE,if_neg b4]at hM
 have hB:al1 l q:=⟨b0,b1,by omega,hq,by omega,fun i hi=>by
  refine KD.1 fun aJ=>b4 (vX.2 ⟨l.getD i aE,?_,by simpa using aJ⟩)
  refine eS (i:=i) ?_;rw[G0 hi,eP,eQ (by omega)]
  rfl⟩
 obtain⟨d1,hb⟩:=bz0 l q hs hl hB
 have QA:∃R,gD (l.take q)=d4 (l.getD 0 aE)++R:=by
  cases l with
  |nil=>exact absurd rfl b0
  |cons a r=>
   obtain⟨q',rfl⟩:∃q',q=q'+1:=⟨q-1,by omega⟩
   exact⟨gD (r.take q'),rfl⟩
 have HA:∀x∈gD (l.take q),aV x:=fun x hx=>by
  unfold gD at hx;obtain⟨s,z7,hx⟩:=tJ.1 hx;exact(hs s (oS z7)).2 x hx
 have hDl:(gD (l.take q)).length=4*q:=by rw[IA,cU];omega
 obtain⟨R,QA⟩:=QA;rw[hn]at hM hq;have hb:=hb 3;generalize hDD:gD (l.take q)=D at*;obtain⟨k,l0,l1,s0,s1,s2,s3,P,Z,rfl,hP⟩:=bz1 (D:=D) (n:=n) (by omega)
 have hlen:l0+256*l1=(P.length:Int):=by
  rw[hP,<-hn];simp only[d4,yI,OA]at QA;unfold fX;rw[QA.2.1,QA.2.2.1]
 rw[mE]at hM
 have f1:(k::l0::l1::(P++s0::s1::s2::s3::Z)).drop (3+n)=s0::s1::s2::s3::Z:=by
  rw[show 3+n=n+1+1+1 by omega]
  simp only[NZ];rw[<-hP,OC];rfl
 have f2:(k::l0::l1::(P++s0::s1::s2::s3::Z)).take (3+n)=k::l0::l1::P:=by
  rw[show 3+n=n+1+1+1 by omega]
  simp only[G4];rw[<-hP,I7];rfl
 have f3:(k::l0::l1::(P++s0::s1::s2::s3::Z)).drop (7+n)=Z:=by
  rw[show 7+n=3+n+4 by omega,<-O7,f1]
  rfl
 have f4:(((k::l0::l1::(P++s0::s1::s2::s3::Z)).drop 3).take n)=P:=by
  simp only[NZ,CO];rw[<-hP,I7];rfl
 rw[f1,f2,f3,f4]at hM;have hk:=HA k (by simp)
 have h0:=HA l0 (by simp)
 have h1:=HA l1 (by simp)
 have g0:=HA s0 (by simp)
 have g1:=HA s1 (by simp)
 have g2:=HA s2 (by simp)
 have g3:=HA s3 (by simp)
 have Mt:∀x∈P,aV x:=fun x hx=>HA x (by simp[hx])
 have Mu:Z.length<=1000:=by
  simp only[dK,bP]at hDl;omega
 clear f1 f2 f3 f4 HA hDD QA hB b4;have l9:(if s0+256*s1+65536*s2+16777216*s3≠fV (k::l0::l1::P)then(iU,(0:Int),(9:Int))else if k=0\/Z.any tX=true then(iU,0,3)else(⟨k,bN (l.getD 0 aE),P⟩,(q:Int),0))=M:=hM
 clear hM;by_cases c1:s0+256*s1+65536*s2+16777216*s3=fV (k::l0::l1::P)
 case neg=>
  rw[if_pos c1]at l9;subst l9;obtain⟨d2,hx⟩:=al4 k l0 l1 s0 s1 s2 s3 P Z (bN (l.getD 0 aE)) q 9 hk h0 h1 g0 g1 g2 g3 Mt (by omega) Mu hlen (.inl ⟨c1,rfl⟩)
  exact al5 l _ _ _ 9 d1 d2 hb (hx 3)
 rw[if_neg (fun h=>h c1)]at l9
 by_cases c2:k=0\/Z.any tX=true
 ·rw[if_pos c2]at l9
  subst l9;obtain⟨d2,hx⟩:=al4 k l0 l1 s0 s1 s2 s3 P Z (bN (l.getD 0 aE)) q 3 hk h0 h1 g0 g1 g2 g3 Mt (by omega) Mu hlen (.inr ⟨c1,c2,rfl⟩)
  exact al5 l _ _ _ 3 d1 d2 hb (hx 3)
 ·rw[if_neg c2]at l9
  subst l9;obtain⟨d2,hx⟩:=bz2 k l0 l1 s0 s1 s2 s3 P Z (bN (l.getD 0 aE)) q hk h0 h1 g0 g1 g2 g3 Mt (by omega) Mu hlen c1 (fun e=>c2 (.inl e)) (by cases hz:Z.any tX with|false=>rfl|true=>exact absurd (.inr hz) c2)
  exact bA2 l _ Z P k _ _ d1 d2 hb (hx 3)
instance :wF kI 3:=⟨fun _=>rfl,fun _=>rfl,fun x a ha=>by
 simp only[kI,cG,jF,or_false]at ha;rcases ha with rfl|rfl|rfl
 ·exact .c _
 ·exact .c _
 ·exact kL _⟩
theorem bA6(R:List Rec)(k s:Int)(p:List Int):aA kI R++[[zV k,zV s,.snap (aA aN p)]]=aA kI (R++[⟨k,s,p⟩]):=sP R ⟨k,s,p⟩
theorem bA7{l:List aH}{q:Int}(hl:∀s∈l,dC s)(h:1<=q/\(gM l).2.2=0/\(gM l).1.seq=q):(mU l q).1=(gM l).1::(mU (l.drop (gM l).2.1.toNat) (q+1)).1/\(mU l q).2=(gM l).2.1+(mU (l.drop (gM l).2.1.toNat) (q+1)).2:=by
 rw[Cb l q hl,if_pos h];exact⟨rfl,rfl⟩
theorem bA8{l:List aH}{q:Int}(hl:∀s∈l,dC s)(h:¬(1<=q/\(gM l).2.2=0/\(gM l).1.seq=q)):mU l q=([],0):=by
 rw[Cb l q hl,if_neg h]
theorem bA9{l:List aH}(hl:∀s∈l,dC s)(h:(gM l).2.2=0):(gM l).1.seq<4294967296:=by
 rcases PZ l hl with h1|⟨-,-,-,-,h2,h3,-⟩
 ·exact absurd h h1
 ·rw[h2]
  exact(PY (hl _ (cQ aE (by cases l with|nil=>exact absurd rfl h3|cons a b=>simp)))).2
theorem bB0(l:List aH)(q:Int)(hs:∀s∈l,dC s)(hl:l.length<=1000000):PC 111 [.snap (aA aS l),zV q] (.aU [.snap (aA kI (mU l q).1),zV (mU l q).2]):=by
 refine bI Tryz.func111 Tryz.ntmps111 (by simp only[go_sem]) ?_
 have Cv:=fun n=>bA3 (l.drop n) (fun s h=>hs s (lJ h)) (by rw[eF];omega)
 obtain⟨S,hS⟩:∃S,mU l q=S:=⟨_,rfl⟩;rw[hS];obtain⟨S1,S2⟩:=S;have Cw:=fun n (q:Int)=>bA7 (l:=l.drop n) (q:=q) (fun s h=>hs s (lJ h))
 have Cx:=fun n (q:Int)=>bA8 (l:=l.drop n) (q:=q) (fun s h=>hs s (lJ h))
 have Cy:=fun n=>PZ (l.drop n) (fun s h=>hs s (lJ h))
 have Cz:=fun n=> @bA9 (l.drop n) (fun s h=>hs s (lJ h))
 replace Cv:=bB.mk Cv
 replace Cw:=bB.mk Cw
 replace Cx:=bB.mk Cx
 replace Cy:=bB.mk Cy
 replace Cz:=bB.mk Cz
 clear hs;refine aD ?_
 refine KK (α:=List Rec×Nat×Nat) (fun a=> [(1,true,zV (q+(a.1.length:Int))),(7,true,zV (a.2.1:Int)),(6,true,uO a.1.length a.2.2),(0,true,.snap (aA aS l))]) (fun a=>wM 111 3 (aA kI a.1) a.1.length a.2.2)
  (fun m a=>((a.2.1<=l.length/\a.1.length<=a.2.1)/\a.1++(mU (l.drop a.2.1) (q+(a.1.length:Int))).1=S1/\(a.2.1:Int)+(mU (l.drop a.2.1) (q+(a.1.length:Int))).2=S2)/\(0<a.1.length->a.2.2<m)) (fun a=>l.length-a.2.1) ([],0,0) ⟨100,⟨⟨⟨iG _,iG _⟩,?_,?_⟩,fun h=>absurd h (by simp)⟩,?_⟩ (fun m a hR=> ?_)
 ·simp only[fJ,CO,pW]
  rw[show q+((0:Nat):Int)=q by omega,hS]
 ·simp only[fJ,CO]
  rw[show q+((0:Nat):Int)=q by omega,hS]
  omega
 ·simp only[fJ]
  rw[show q+((0:Nat):Int)=q by omega]
  exact aT
 ·obtain⟨R,n,id⟩:=a
  simp only[]at hR⊢;obtain⟨⟨⟨hn,QB⟩,e1,e2⟩,aB⟩:=hR;have c1:=Cv.out n;have eG:=Cw.out n (q+(R.length:Int));have Mv:=Cx.out n (q+(R.length:Int));have hc:=Cy.out n;have hq:=Cz.out n;have xR:(l.drop n).length=l.length-n:=eF;have cG5:List.take (l.length-n) (l.drop n)=l.drop n:=eD (by omega)
  rw[O7]at eG;clear Cv Cw Cx Cy Cz;have sI:∀r:Rec,q+((R++[r]).length:Int)=q+(R.length:Int)+1:=fun r=>by rw[bP];simp only[dK,fJ];omega
  generalize q+(R.length:Int)=Q at*;by_cases g:1<=Q/\(gM (l.drop n)).2.2=0/\(gM (l.drop n)).1.seq=Q
  ·obtain⟨f1,f2⟩:=eG g
   obtain⟨g1,g2,g3⟩:=g;clear Mv eG;rcases hc with hc|⟨k1,k2,-⟩
   ·exact absurd g2 hc
   rw[xR]at k2;have bG:=hq g2;rw[f1]at e1;rw[f2]at e2;clear f1 f2 hq;generalize gM (l.drop n)=D at*;obtain⟨⟨dk,ds,dp⟩,dn,de⟩:=D;simp only[]at*;obtain⟨d,rfl⟩:∃d:Nat,dn=d:=⟨dn.toNat,by omega⟩
   rw[mE]at e1 e2;subst g2;subst g3;have cG6:(ds !=ds)=false:=by simp
   have w1:IntKind.i64.wrap ((n:Int)+(d:Int))=((n+d:Nat):Int):=by rw[IntWalk.i64_in _ (by omega)];omega
   have w2:IntKind.i64.wrap (ds+1)=ds+1:=IntWalk.i64_in _ (by omega)
   have e3:(R++[(⟨dk,ds,dp⟩:Rec)])++(mU (l.drop (n+d)) (q+((R++[(⟨dk,ds,dp⟩:Rec)]).length:Int))).1=S1:=by
    rw[sI,fF,Gb];exact e1
   have e4:((n+d:Nat):Int)+(mU (l.drop (n+d)) (q+((R++[(⟨dk,ds,dp⟩:Rec)]).length:Int))).2=S2:=by
    rw[sI];omega
   have oP:=sI ⟨dk,ds,dp⟩;have jS:=bA6 R dk ds dp;clear e2 e1 sI
   replace e3:=bB.mk e3
   replace e4:=bB.mk e4
   replace oP:=bB.mk oP
   have vR:(n:Int)<=l.length:=by omega
   unfold kI at c1;simp only[]at c1;cases hF:R.length with
   |zero=>
    have m5:R=[]:=jQ hF;subst m5;have pG:([]++[(⟨dk,ds,dp⟩:Rec)]).length=1:=rfl;clear aB hF jS;refine aD ?_;refine⟨m+40,([]++[⟨dk,ds,dp⟩],n+d,m+1+1+1),?_,⟨⟨⟨?_,?_⟩,e3.out,e4.out⟩,fun _=> ?_⟩,?_⟩
    ·simp only[];omega
    ·simp only[];omega
    ·simp only[];omega
    ·simp only[];omega
    ·simp only[]
     rw[oP.out];exact aT
   |succ p=>
    have Mw:=aB (by omega)
    have pG:(R++[(⟨dk,ds,dp⟩:Rec)]).length=p+1+1:=by rw[bP,hF];rfl
    clear aB;refine aD ?_;refine⟨m+40,(R++[⟨dk,ds,dp⟩],n+d,m+1+1+1),?_,⟨⟨⟨?_,?_⟩,e3.out,e4.out⟩,fun _=> ?_⟩,?_⟩
    ·simp only[];omega
    ·simp only[];omega
    ·simp only[];omega
    ·simp only[];omega
    ·simp only[]
     rw[oP.out,pG];exact aT
  ·rw[Mv g]at e1 e2
   simp only[mD]at e1 e2;rw[TN]at e2;subst e1;subst e2;clear eG Mv hc hq sI;generalize gM (l.drop n)=D at*;obtain⟨⟨dk,ds,dp⟩,dn,de⟩:=D;simp only[]at*;unfold kI at c1;simp only[]at c1;have vR:(n:Int)<=l.length:=by omega
   have EV:bB (¬(1<=Q/\de=0/\ds=Q)):=⟨g⟩;clear g;by_cases g1:1<=Q
   case neg=>
    clear EV;cases hF:R.length with
    |zero=>
     have m5:R=[]:=jQ hF;subst m5;clear aB hF;refine aD ?_;exact aC
    |succ p=>
     have Mw:=aB (by omega)
     have iI:R.take (p+1)=R:=eD (by omega)
     clear aB;refine aD ?_;exact aC
   by_cases g2:de=0
   case neg=>
    have WI:(de !=0)=true:=by simpa using g2
    clear g2 EV;cases hF:R.length with
    |zero=>
     have m5:R=[]:=jQ hF;subst m5;clear aB hF;refine aD ?_;exact aC
    |succ p=>
     have Mw:=aB (by omega)
     have iI:R.take (p+1)=R:=eD (by omega)
     clear aB;refine aD ?_;exact aC
   have g3x:(ds !=Q)=true:=by simpa using fun e=>EV.out ⟨g1,g2,e⟩
   subst g2;clear EV;cases hF:R.length with
   |zero=>
    have m5:R=[]:=jQ hF;subst m5;clear aB hF;refine aD ?_;exact aC
   |succ p=>
    have Mw:=aB (by omega)
    have iI:R.take (p+1)=R:=eD (by omega)
    clear aB;refine aD ?_;exact aC
end Go.Proofs.YtioafciifiggaaaGreatDoor
namespace Go.Proofs.YtioafciifiggaaaGreatDoor
open Go.Proofs Go.AL
set_option maxRecDepth 100000
set_option maxHeartbeats 1000000
attribute [local irreducible] cH AW b9 dR eH hold
attribute [local irreducible] jI
structure FB(x:aW)(n:Nat):Prop where
 ok:EZ (bF x)
 sum:fO x.bS<=n
 ne:x.records≠[]
 len:x.records.length<=n
structure rU(l:List aW)(n:Nat):Prop where
 pw:PW l
 len:l.length<=n
 one:∀x∈l,FB x n
theorem FB.mono{x:aW}{n m:Nat}(h:FB x n)(k:n<=m):FB x m:=⟨h.ok,by have:=h.sum;omega,h.ne,by have:=h.len;omega⟩
theorem FB.Mx{x:aW}{n:Nat}(h:FB x n)(k:n<=100000):GQ x:=⟨⟨h.ok.bS,h.ok.seen,h.ok.one,by have:=h.sum;show fO x.bS<=100000;omega⟩,by have:=h.len;omega⟩
theorem rU.nil:rU [] 0:=⟨List.Pairwise.nil,cE _,fun x hx=>by simp at hx⟩
theorem rU.mono{l:List aW}{n m:Nat}(h:rU l n)(k:n<=m):rU l m:=⟨h.pw,by have:=h.len;omega,fun x hx=>(h.one x hx).mono k⟩
theorem rU.put{l:List aW}{n m:Nat}(h:rU l n){x:aW}(hx:FB x m)(k:n+1<=m):rU (lP l x) m:=by
 refine⟨H4 h.pw x,?_,fun y hy=> ?_⟩
 ·have:=LO l x
  have:=h.len;omega
 ·rcases VU hy with e|e
  ·subst e;exact hx
  ·exact(h.one y e).mono (by omega)
theorem bB1(k:Nat):fO (List.replicate k ([]:List Int))=0:=by
 induction k with
 |zero=>rfl
 |succ k ih=>rw[I6];unfold fO at ih⊢;rw[gJ,qP,ih];rfl
theorem bB2{p:List Int}{q:Int}(hp:∀x∈p,aV x)(h:(bZ p).2=0){n:Nat}(hn:1<=n):FB (iT (lW p).1 [q] false) (n+p.length):=by
 have h1:=IQ hp h;refine⟨Bp hp,?_,by simp[iT],by simp[iT];omega⟩
 show fO (lW p).1.bS<=_
 unfold lW;rw[if_pos h];have h2:=Mj (List.replicate (bZ p).1.parts.toNat []) (bZ p).1.index.toNat (bZ p).1.piece;rw[bB1]at h2;simp only[];omega
theorem bB3{x:aW}{p:List Int}{q:Int}{n:Nat}(hx:FB x n)(hp:∀y∈p,aV y)(h:(iA (bF x) p).2=0):FB (iT (iA (bF x) p).1 (x.records++[q]) x.closed) (n+1+p.length):=by
 refine⟨Bo hx.ok hp,?_,by simp[iT],by have:=hx.len;simp only[iT,bP,dK,fJ];omega⟩
 show fO (iA (bF x) p).1.bS<=_
 unfold iA at h⊢;split at h
 ·rename_i g1
  rw[if_pos g1];split at h
  ·rename_i g2
   rw[if_pos g2];have h1:=IQ hp g2;split at h
   ·rename_i g3
    rw[if_pos g3];split at h
    ·rename_i g4
     rw[if_pos g4];split at h
     ·exact absurd h (by decide)
     ·rename_i g5
      rw[if_neg g5];have h2:=Mj (bF x).bS (bZ p).1.index.toNat (bZ p).1.piece;have h3:=hx.sum;have h4:fO (bF x).bS=fO x.bS:=rfl;simp only[];omega
    ·exact absurd h (by decide)
   ·exact absurd h (by decide)
  ·rename_i g2
   exact absurd h g2
 ·exact absurd h (by decide)
theorem al7{l:List aW}{r:Rec}{n:Nat}(h:rU l n)(hp:∀y∈r.cT,aV y):rU (k9 l r).1 (n+1+r.cT.length):=by
 unfold k9;split
 ·rename_i hr
  split
  ·split
   ·rename_i g
    obtain⟨hi,-⟩:=yR g.1;have hx:=h.one _ (cQ aY hi);refine h.put ⟨hx.ok,?_,by simp[iT],?_⟩ (by omega)
    ·have:=hx.sum
     show fO (l.getD (bT l (iD r)) aY).bS<=_
     omega
    ·have:=hx.len
     simp only[iT,bP,dK,fJ];omega
   ·exact h.mono (by omega)
  ·rename_i hk
   have bB4:(bZ r.cT).2=0:=by
    unfold oK at hr;rw[if_neg hk]at hr;exact(of_decide_eq_true hr).2
   split
   ·rename_i g
    obtain⟨hi,-⟩:=yR g.1;have hx:=h.one _ (cQ aY hi);split
    ·exact h.mono (by omega)
    ·exact h.put (bB3 hx hp g.2) (by omega)
   ·refine h.put ((bB2 (n:=n+1) hp bB4 (by omega))) (by omega)
 ·exact rU.mono ⟨List.Pairwise.nil,iG _,fun x hx=>by simp at hx⟩ (cE _)
end Go.Proofs.YtioafciifiggaaaGreatDoor
namespace Go.Proofs.YtioafciifiggaaaGreatDoor
open Go.Proofs Go.AL
set_option maxRecDepth 100000
set_option maxHeartbeats 1000000
attribute [local irreducible] cH AW b9 dR eH hold
theorem WR{x n:Int}(h0:0<=x)(h1:x<2*n):x % n=if x<n then x else x-n:=by
 split
 ·exact Gf h0 (by omega)
 ·rw[<-Int.sub_emod_right,Gf (by omega) (by omega)]
def wZ(C:List aH)(n t next:Int)(i:Nat):List Bool:=(List.range C.length).map fun(p:Nat)=>decide (((p:Int)-t+n) % n<(i:Int))&&decide (next<=bN (C.getD p aE))
theorem bB5(C:List aH)(n t next:Int)(i:Nat):(wZ C n t next i).length=C.length:=by
 unfold wZ;rw[l4,KF]
theorem bB6{C:List aH}{n t next:Int}(hn:0<n):wZ C n t next 0=List.replicate C.length false:=by
 unfold wZ;rw[List.eq_replicate_iff];refine⟨by simp,fun b hb=> ?_⟩
 obtain⟨p,-,rfl⟩:=kV.1 hb;have:=BC ((p:Int)-t+n) (show n≠0 by omega)
 rw[decide_eq_false (by omega),O3]
theorem bB7{C:List aH}{n t next:Int}{i:Nat}(hC:(C.length:Int)=n)(h0:0<=t)(h1:t<n)(hi:(i:Int)<n){q:Nat}(hq:(t+(i:Int)) % n=(q:Int)):wZ C n t next (i+1)=(wZ C n t next i).set q (decide (next<=bN (C.getD q aE))):=by
 rw[WR (by omega) (by omega)]at hq
 apply BE;intro p;unfold wZ;rw[aF9];simp only[gE,l4,KF];by_cases hp:p<C.length
 ·rw[wD hp]
  simp only[oU];have hm:=WR (x:=(p:Int)-t+n) (n:=n) (by omega) (by omega)
  rw[hm];by_cases e:q=p
  ·subst e
   rw[if_pos rfl,if_pos hp]
   have:(if(q:Int)-t+n<n then(q:Int)-t+n else(q:Int)-t+n-n)<((i+1:Nat):Int):=by
    split at hq<;>split<;>omega
   rw[decide_eq_true this,TO]
  ·rw[if_neg e]
   have:((if(p:Int)-t+n<n then(p:Int)-t+n else(p:Int)-t+n-n)<((i+1:Nat):Int))↔((if(p:Int)-t+n<n then(p:Int)-t+n else(p:Int)-t+n-n)<(i:Int)):=by
    split at hq<;>split<;>omega
   rw[decide_eq_decide.2 this]
 ·have h2:(List.range C.length)[p]? =none:=by simp;omega
  rw[h2];by_cases e:q=p
  ·rw[if_pos e,if_neg (by omega)];rfl
  ·rw[if_neg e];rfl
theorem bB8{C:List aH}{n h u next:Int}{t:Int}{k:Nat}(hC:(C.length:Int)=n)(h0:0<=h)(h1:h<n)(u0:0<=u)(u1:u<=n)(ht:t=(h+u) % n)(hk:(k:Int)=n-u):wZ C n t next k=AN C n h u next:=by
 rw[WR (by omega) (by omega)]at ht
 unfold wZ AN;apply s7;intro p hp;have hp2:=EG.1 hp;have hb:0<=t/\t<n:=by split at ht<;>omega
 have e1:=WR (x:=(p:Int)-t+n) (n:=n) (by omega) (by omega)
 have e2:=WR (x:=(p:Int)-h+n) (n:=n) (by omega) (by omega)
 rw[e1,e2]
 have:((if(p:Int)-t+n<n then(p:Int)-t+n else(p:Int)-t+n-n)<(k:Int))↔(u<=if(p:Int)-h+n<n then(p:Int)-h+n else(p:Int)-h+n-n):=by
  split at ht<;>split<;>split<;>omega
 rw[decide_eq_decide.2 this]
theorem bB9{L:List Bool}{p:Nat}(hp:p<L.length)(h:L.getD p false=false):kQ (L.drop p) p=kQ (L.drop (p+1)) (p+1):=by
 rw[uL false hp,h];rfl
theorem al8{L:List Bool}:∀(n p:Nat),p+n<=L.length->(∀i,i<n->L.getD (p+i) false=true)->L.drop p=List.replicate n true++L.drop (p+n)
 |0,p,_,_=>by simp
 |n+1,p,h1,h2=>by
  have ih:=al8 (L:=L) n (p+1) (by omega) (fun i hi=>by rw[show p+1+i=p+(i+1)by omega];exact h2 (i+1) (by omega))
  have h3:=h2 0 (by omega)
  rw[zN]at h3;rw[uL (l:=L) (k:=p) false (by omega),h3,ih,I6,show p+1+n=p+(n+1)by omega]
  rfl
theorem al9{L:List Bool}{p n:Nat}(h1:p+(n+1)<=L.length)(h2:∀i,i<n+1->L.getD (p+i) false=true)(h3:p+(n+1)=L.length\/L.getD (p+(n+1)) false=false):kQ (L.drop p) p=(p,n+1)::kQ (L.drop (p+(n+1)+1)) (p+(n+1)+1):=by
 rw[al8 (n+1) p h1 h2];rcases oA (p+(n+1)) L.length with h4|h4
 ·have h5:=h3.resolve_left (by omega)
  rw[uL false h4,h5,ag9];rw[show p+n+2=p+(n+1)+1 by omega]
 ·rw[I5 h4,I5 (by omega),mD,ah0]
  rfl
theorem bC0{L:List Bool}{p:Nat}(h:L.length<=p):kQ (L.drop p) p=[]:=by
 rw[I5 h];rfl
def rV(a:Int)(r:Nat×Nat):eW:=((0:Int),a+16+r.1,List.replicate r.2 aE)
theorem am0(a:Int)(L:List Bool):J3 a L=(kQ L 0).map (rV a)++(if kQ L 0=[]then []else [(1,0,[])]):=rfl
end Go.Proofs.YtioafciifiggaaaGreatDoor
