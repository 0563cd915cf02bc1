/- Staging. No condition. -/
import Derived.Test.YtioafciifiggaaaGreatDoorL0
import Derived.Test.YtioafciifiggaaaGreatDoorAzh
import Derived.Test.YtioafciifiggaaaGreatDoorAzi
set_option linter.all false
namespace Go.Proofs.YtioafciifiggaaaGreatDoor
open Go.Proofs Go.AL
set_option maxRecDepth 100000
set_option maxHeartbeats 8000000
attribute [local irreducible] cB AW aX cZ dK hold
theorem aF7(l:List aY)(hs:∀s∈l,eR s)(hl:l.length<=1000000):PC 174 [.snap (aA aQ l)] (.aR [.agg (dN (fK l).1),zV (fK l).2.1,zV (fK l).2.2]):=by
 obtain⟨M,hM⟩:∃M,fK l=M:=⟨_,rfl⟩;rw[hM];unfold fK at hM;by_cases b0:l=[]
 ·rw[if_pos b0]at hM
  subst hM;subst b0;exact R8 [] 10 aE3
 rw[if_neg b0]at hM;have h0:0<l.length:=by cases l with|nil=>exact absurd rfl b0|cons a b=>simp
 have iM:=hs _ (dC aO h0);by_cases b1:cL (l.getD 0 aO)=0
 ·rw[if_pos b1]at hM
  subst hM;exact R8 l 7 (aE4 l hs hl b0 b1)
 rw[if_neg b1]at hM;by_cases b2:4096<fA (l.getD 0 aO)
 ·rw[if_pos b2]at hM
  subst hM;exact R8 l 5 (aE5 l hs hl b0 b1 b2)
 rw[if_neg b2]at hM;have gH:=G0 iM;by_cases b3:(l.length:Int)<(fA (l.getD 0 aO)+10)/4
 ·rw[if_pos b3]at hM
  subst hM;exact R8 l 10 (aE6 l hs hl b0 b1 (by omega) b3)
 rw[if_neg b3]at hM;obtain⟨q,hq⟩:∃q:Nat,(fA (l.getD 0 aO)+10)/4=q:=⟨((fA (l.getD 0 aO)+10)/4).toNat,by omega⟩
 obtain⟨n,hn⟩:∃n:Nat,fA (l.getD 0 aO)=n:=⟨(fA (l.getD 0 aO)).toNat,by omega⟩
 rw[hq]at hM;by_cases b4:(l.take q).any (fun x=>cL x !=cL (l.getD 0 aO))=true
 ·rw[nC,if_pos b4]at hM
  subst hM;refine R8 l 10 (aE8 l q hs hl b0 b1 (by omega) hq (by omega) ?_)
  obtain⟨x,hx,aM⟩:=pO.1 b4;obtain⟨i,hi⟩:=wX.1 hx;rw[gF]at hi;split at hi
  ·rename_i bG
   refine⟨i,bG,?_⟩;rw[lC,hi];simpa using aM
  ·cases hi
 rw[nC,if_neg b4]at hM
 have hB:Qk l q:=⟨b0,b1,by omega,hq,by omega,fun i hi=>by
  refine HF.1 fun aM=>b4 (pO.2 ⟨l.getD i aO,?_,by simpa using aM⟩)
  refine eY (i:=i) ?_;rw[UB hi,lC,fU (by omega)]
  rfl⟩
 obtain⟨d1,hb⟩:=aE1 l q hs hl hB
 have MF:∃R,eE (l.take q)=d4 (l.getD 0 aO)++R:=by
  cases l with
  |nil=>exact absurd rfl b0
  |cons a r=>
   obtain⟨q',rfl⟩:∃q',q=q'+1:=⟨q-1,by omega⟩
   exact⟨eE (r.take q'),rfl⟩
 have tA:∀x∈eE (l.take q),aV x:=fun x hx=>by
  unfold eE at hx;obtain⟨s,nH,hx⟩:=sJ.1 hx;exact(hs s (qB nH)).2 x hx
 have Df:(eE (l.take q)).length=4*q:=by rw[xC,eD];omega
 obtain⟨R,MF⟩:=MF;rw[hn]at hM hq;have hb:=hb 3;generalize hDD:eE (l.take q)=D at*;obtain⟨k,l0,l1,s0,s1,s2,s3,P,Z,rfl,hP⟩:=Qn (D:=D) (n:=n) (by omega)
 have hlen:l0+256*l1=(P.length:Int):=by
  rw[hP,<-hn];simp only[d4,YX,PG]at MF;unfold fA;rw[MF.2.1,MF.2.2.1]
 rw[nC]at hM
 have f1:(k::l0::l1::(P++s0::s1::s2::s3::Z)).drop (3+n)=s0::s1::s2::s3::Z:=by
  rw[show 3+n=n+1+1+1 by omega]
  simp only[KR];rw[<-hP,U0];rfl
 have f2:(k::l0::l1::(P++s0::s1::s2::s3::Z)).take (3+n)=k::l0::l1::P:=by
  rw[show 3+n=n+1+1+1 by omega]
  simp only[D5];rw[<-hP,EV];rfl
 have f3:(k::l0::l1::(P++s0::s1::s2::s3::Z)).drop (7+n)=Z:=by
  rw[show 7+n=3+n+4 by omega,<-KZ,f1]
  rfl
 have f4:(((k::l0::l1::(P++s0::s1::s2::s3::Z)).drop 3).take n)=P:=by
  simp only[KR,tH];rw[<-hP,EV];rfl
 rw[f1,f2,f3,f4]at hM;have hk:=tA k (by simp)
 have h0:=tA l0 (by simp)
 have h1:=tA l1 (by simp)
 have g0:=tA s0 (by simp)
 have g1:=tA s1 (by simp)
 have g2:=tA s2 (by simp)
 have g3:=tA s3 (by simp)
 have G5:∀x∈P,aV x:=fun x hx=>tA x (by simp[hx])
 have Dg:Z.length<=1000:=by
  simp only[eI,cP]at Df;omega
 clear f1 f2 f3 f4 tA hDD MF hB b4;have fS:(if s0+256*s1+65536*s2+16777216*s3≠eO (k::l0::l1::P)then(cQ,(0:Int),(9:Int))else if k=0\/Z.any nA=true then(cQ,0,3)else(⟨k,cL (l.getD 0 aO),P⟩,(q:Int),0))=M:=hM
 clear hM;by_cases c1:s0+256*s1+65536*s2+16777216*s3=eO (k::l0::l1::P)
 case neg=>
  rw[if_pos c1]at fS;subst fS;obtain⟨d2,hx⟩:=Qo k l0 l1 s0 s1 s2 s3 P Z (cL (l.getD 0 aO)) q 9 hk h0 h1 g0 g1 g2 g3 G5 (by omega) Dg hlen (.inl ⟨c1,rfl⟩)
  exact Qv l _ _ _ 9 d1 d2 hb (hx 3)
 rw[if_neg (fun h=>h c1)]at fS
 by_cases c2:k=0\/Z.any nA=true
 ·rw[if_pos c2]at fS
  subst fS;obtain⟨d2,hx⟩:=Qo k l0 l1 s0 s1 s2 s3 P Z (cL (l.getD 0 aO)) q 3 hk h0 h1 g0 g1 g2 g3 G5 (by omega) Dg hlen (.inr ⟨c1,c2,rfl⟩)
  exact Qv l _ _ _ 3 d1 d2 hb (hx 3)
 ·rw[if_neg c2]at fS
  subst fS;obtain⟨d2,hx⟩:=aE2 k l0 l1 s0 s1 s2 s3 P Z (cL (l.getD 0 aO)) q hk h0 h1 g0 g1 g2 g3 G5 (by omega) Dg hlen c1 (fun e=>c2 (.inl e)) (by cases hz:Z.any nA with|false=>rfl|true=>exact absurd (.inr hz) c2)
  exact aF6 l _ Z P k _ _ d1 d2 hb (hx 3)
instance :uF dN 3:=⟨fun _=>rfl,fun _=>rfl,fun x a ha=>by
 simp only[dN,fB,mR,or_false]at ha;rcases ha with rfl|rfl|rfl
 ·exact .c _
 ·exact .c _
 ·exact iJ _⟩
theorem Qx(R:List Rec)(k s:Int)(p:List Int):aA dN R++[[zV k,zV s,.snap (aA aH p)]]=aA dN (R++[⟨k,s,p⟩]):=nR R ⟨k,s,p⟩
theorem Qy{l:List aY}{q:Int}(hl:∀s∈l,eR s)(h:1<=q/\(fK l).2.2=0/\(fK l).1.seq=q):(mE l q).1=(fK l).1::(mE (l.drop (fK l).2.1.toNat) (q+1)).1/\(mE l q).2=(fK l).2.1+(mE (l.drop (fK l).2.1.toNat) (q+1)).2:=by
 rw[Pw l q hl,if_pos h];exact⟨rfl,rfl⟩
theorem Qz{l:List aY}{q:Int}(hl:∀s∈l,eR s)(h:¬(1<=q/\(fK l).2.2=0/\(fK l).1.seq=q)):mE l q=([],0):=by
 rw[Pw l q hl,if_neg h]
theorem Ra{l:List aY}(hl:∀s∈l,eR s)(h:(fK l).2.2=0):(fK l).1.seq<4294967296:=by
 rcases MA l hl with h1|⟨-,-,-,-,h2,h3,-⟩
 ·exact absurd h h1
 ·rw[h2]
  exact(G1 (hl _ (dC aO (by cases l with|nil=>exact absurd rfl h3|cons a b=>simp)))).2
theorem aF9(l:List aY)(q:Int)(hs:∀s∈l,eR s)(hl:l.length<=1000000):PC 111 [.snap (aA aQ l),zV q] (.aR [.snap (aA dN (mE l q).1),zV (mE l q).2]):=by
 refine aT Tryz.func111 Tryz.ntmps111 (by simp only[go_sem]) ?_
 have DR:=fun n=>aF7 (l.drop n) (fun s h=>hs s (l5 h)) (by rw[fX];omega)
 obtain⟨S,hS⟩:∃S,mE l q=S:=⟨_,rfl⟩;rw[hS];obtain⟨S1,S2⟩:=S;have DS:=fun n (q:Int)=>Qy (l:=l.drop n) (q:=q) (fun s h=>hs s (l5 h))
 have DT:=fun n (q:Int)=>Qz (l:=l.drop n) (q:=q) (fun s h=>hs s (l5 h))
 have DU:=fun n=>MA (l.drop n) (fun s h=>hs s (l5 h))
 have DV:=fun n=> @Ra (l.drop n) (fun s h=>hs s (l5 h))
 replace DR:=aU.mk DR
 replace DS:=aU.mk DS
 replace DT:=aU.mk DT
 replace DU:=aU.mk DU
 replace DV:=aU.mk DV
 clear hs;refine aE ?_
 refine D7 (α:=List Rec×Nat×Nat) (fun a=> [(1,true,zV (q+(a.1.length:Int))),(7,true,zV (a.2.1:Int)),(6,true,nG a.1.length a.2.2),(0,true,.snap (aA aQ l))]) (fun a=>oB 111 3 (aA dN a.1) a.1.length a.2.2)
  (fun m a=>((a.2.1<=l.length/\a.1.length<=a.2.1)/\a.1++(mE (l.drop a.2.1) (q+(a.1.length:Int))).1=S1/\(a.2.1:Int)+(mE (l.drop a.2.1) (q+(a.1.length:Int))).2=S2)/\(0<a.1.length->a.2.2<m)) (fun a=>l.length-a.2.1) ([],0,0) ⟨100,⟨⟨⟨mT _,mT _⟩,?_,?_⟩,fun h=>absurd h (by simp)⟩,?_⟩ (fun m a hR=> ?_)
 ·simp only[gL,tH,x8]
  rw[show q+((0:Nat):Int)=q by omega,hS]
 ·simp only[gL,tH]
  rw[show q+((0:Nat):Int)=q by omega,hS]
  omega
 ·simp only[gL]
  rw[show q+((0:Nat):Int)=q by omega]
  exact aN
 ·obtain⟨R,n,id⟩:=a
  simp only[]at hR⊢;obtain⟨⟨⟨hn,IZ⟩,e1,e2⟩,aC⟩:=hR;have c1:=DR.out n;have eW:=DS.out n (q+(R.length:Int));have J0:=DT.out n (q+(R.length:Int));have hc:=DU.out n;have hq:=DV.out n;have r6:(l.drop n).length=l.length-n:=fX;have aG0:List.take (l.length-n) (l.drop n)=l.drop n:=cR (by omega)
  rw[KZ]at eW;clear DR DS DT DU DV;have mY:∀r:Rec,q+((R++[r]).length:Int)=q+(R.length:Int)+1:=fun r=>by rw[cP];simp only[eI,gL];omega
  generalize q+(R.length:Int)=Q at*;by_cases g:1<=Q/\(fK (l.drop n)).2.2=0/\(fK (l.drop n)).1.seq=Q
  ·obtain⟨f1,f2⟩:=eW g
   obtain⟨g1,g2,g3⟩:=g;clear J0 eW;rcases hc with hc|⟨k1,k2,-⟩
   ·exact absurd g2 hc
   rw[r6]at k2;have bG:=hq g2;rw[f1]at e1;rw[f2]at e2;clear f1 f2 hq;generalize fK (l.drop n)=D at*;obtain⟨⟨dk,ds,dp⟩,dn,de⟩:=D;simp only[]at*;obtain⟨d,rfl⟩:∃d:Nat,dn=d:=⟨dn.toNat,by omega⟩
   rw[nC]at e1 e2;subst g2;subst g3;have Qt:(ds !=ds)=false:=by simp
   have w1:IntKind.i64.wrap ((n:Int)+(d:Int))=((n+d:Nat):Int):=by rw[IntWalk.i64_in _ (by omega)];omega
   have w2:IntKind.i64.wrap (ds+1)=ds+1:=IntWalk.i64_in _ (by omega)
   have e3:(R++[(⟨dk,ds,dp⟩:Rec)])++(mE (l.drop (n+d)) (q+((R++[(⟨dk,ds,dp⟩:Rec)]).length:Int))).1=S1:=by
    rw[mY,kA,P8];exact e1
   have e4:((n+d:Nat):Int)+(mE (l.drop (n+d)) (q+((R++[(⟨dk,ds,dp⟩:Rec)]).length:Int))).2=S2:=by
    rw[mY];omega
   have lG:=mY ⟨dk,ds,dp⟩;have fW:=Qx R dk ds dp;clear e2 e1 mY
   replace e3:=aU.mk e3
   replace e4:=aU.mk e4
   replace lG:=aU.mk lG
   have rB:(n:Int)<=l.length:=by omega
   unfold dN at c1;simp only[]at c1;cases hF:R.length with
   |zero=>
    have gJ:R=[]:=fI hF;subst gJ;have kW:([]++[(⟨dk,ds,dp⟩:Rec)]).length=1:=rfl;clear aC hF fW;refine aE ?_;refine⟨m+40,([]++[⟨dk,ds,dp⟩],n+d,m+1+1+1),?_,⟨⟨⟨?_,?_⟩,e3.out,e4.out⟩,fun _=> ?_⟩,?_⟩
    ·simp only[];omega
    ·simp only[];omega
    ·simp only[];omega
    ·simp only[];omega
    ·simp only[]
     rw[lG.out];exact aN
   |succ p=>
    have J1:=aC (by omega)
    have kW:(R++[(⟨dk,ds,dp⟩:Rec)]).length=p+1+1:=by rw[cP,hF];rfl
    clear aC;refine aE ?_;refine⟨m+40,(R++[⟨dk,ds,dp⟩],n+d,m+1+1+1),?_,⟨⟨⟨?_,?_⟩,e3.out,e4.out⟩,fun _=> ?_⟩,?_⟩
    ·simp only[];omega
    ·simp only[];omega
    ·simp only[];omega
    ·simp only[];omega
    ·simp only[]
     rw[lG.out,kW];exact aN
  ·rw[J0 g]at e1 e2
   simp only[rO]at e1 e2;rw[Z4]at e2;subst e1;subst e2;clear eW J0 hc hq mY;generalize fK (l.drop n)=D at*;obtain⟨⟨dk,ds,dp⟩,dn,de⟩:=D;simp only[]at*;unfold dN at c1;simp only[]at c1;have rB:(n:Int)<=l.length:=by omega
   have uX:aU (¬(1<=Q/\de=0/\ds=Q)):=⟨g⟩;clear g;by_cases g1:1<=Q
   case neg=>
    clear uX;cases hF:R.length with
    |zero=>
     have gJ:R=[]:=fI hF;subst gJ;clear aC hF;refine aE ?_;exact aB
    |succ p=>
     have J1:=aC (by omega)
     have iD:R.take (p+1)=R:=cR (by omega)
     clear aC;refine aE ?_;exact aB
   by_cases g2:de=0
   case neg=>
    have CG:(de !=0)=true:=by simpa using g2
    clear g2 uX;cases hF:R.length with
    |zero=>
     have gJ:R=[]:=fI hF;subst gJ;clear aC hF;refine aE ?_;exact aB
    |succ p=>
     have J1:=aC (by omega)
     have iD:R.take (p+1)=R:=cR (by omega)
     clear aC;refine aE ?_;exact aB
   have AO:(ds !=Q)=true:=by simpa using fun e=>uX.out ⟨g1,g2,e⟩
   subst g2;clear uX;cases hF:R.length with
   |zero=>
    have gJ:R=[]:=fI hF;subst gJ;clear aC hF;refine aE ?_;exact aB
   |succ p=>
    have J1:=aC (by omega)
    have iD:R.take (p+1)=R:=cR (by omega)
    clear aC;refine aE ?_;exact aB
theorem aG1(l:List aY)(q:Int)(hs:∀s∈l,eR s)(hl:l.length<=1000000):PC 118 [.snap (aA aQ l),zV q] (.aR [.snap (aA dN (mE l q).1),zV (mE l q).2]):=by
 refine aT Tryz.func118 Tryz.ntmps118 (by simp only[go_sem]) ?_
 have DR:=fun n=>aF1 (l.drop n) (fun s h=>hs s (l5 h)) (by rw[fX];omega)
 obtain⟨S,hS⟩:∃S,mE l q=S:=⟨_,rfl⟩;rw[hS];obtain⟨S1,S2⟩:=S;have DS:=fun n (q:Int)=>Qy (l:=l.drop n) (q:=q) (fun s h=>hs s (l5 h))
 have DT:=fun n (q:Int)=>Qz (l:=l.drop n) (q:=q) (fun s h=>hs s (l5 h))
 have DU:=fun n=>MA (l.drop n) (fun s h=>hs s (l5 h))
 have DV:=fun n=> @Ra (l.drop n) (fun s h=>hs s (l5 h))
 replace DR:=aU.mk DR
 replace DS:=aU.mk DS
 replace DT:=aU.mk DT
 replace DU:=aU.mk DU
 replace DV:=aU.mk DV
 clear hs;refine aE ?_
 refine D7 (α:=List Rec×Nat×Nat) (fun a=> [(1,true,zV (q+(a.1.length:Int))),(7,true,zV (a.2.1:Int)),(6,true,nG a.1.length a.2.2),(0,true,.snap (aA aQ l))]) (fun a=>oB 111 3 (aA dN a.1) a.1.length a.2.2)
  (fun m a=>((a.2.1<=l.length/\a.1.length<=a.2.1)/\a.1++(mE (l.drop a.2.1) (q+(a.1.length:Int))).1=S1/\(a.2.1:Int)+(mE (l.drop a.2.1) (q+(a.1.length:Int))).2=S2)/\(0<a.1.length->a.2.2<m)) (fun a=>l.length-a.2.1) ([],0,0) ⟨100,⟨⟨⟨mT _,mT _⟩,?_,?_⟩,fun h=>absurd h (by simp)⟩,?_⟩ (fun m a hR=> ?_)
 ·simp only[gL,tH,x8]
  rw[show q+((0:Nat):Int)=q by omega,hS]
 ·simp only[gL,tH]
  rw[show q+((0:Nat):Int)=q by omega,hS]
  omega
 ·simp only[gL]
  rw[show q+((0:Nat):Int)=q by omega]
  exact aN
 ·obtain⟨R,n,id⟩:=a
  simp only[]at hR⊢;obtain⟨⟨⟨hn,IZ⟩,e1,e2⟩,aC⟩:=hR;have c1:=DR.out n;have eW:=DS.out n (q+(R.length:Int));have J0:=DT.out n (q+(R.length:Int));have hc:=DU.out n;have hq:=DV.out n;have r6:(l.drop n).length=l.length-n:=fX;have aG0:List.take (l.length-n) (l.drop n)=l.drop n:=cR (by omega)
  rw[KZ]at eW;clear DR DS DT DU DV;have mY:∀r:Rec,q+((R++[r]).length:Int)=q+(R.length:Int)+1:=fun r=>by rw[cP];simp only[eI,gL];omega
  generalize q+(R.length:Int)=Q at*;by_cases g:1<=Q/\(fK (l.drop n)).2.2=0/\(fK (l.drop n)).1.seq=Q
  ·obtain⟨f1,f2⟩:=eW g
   obtain⟨g1,g2,g3⟩:=g;clear J0 eW;rcases hc with hc|⟨k1,k2,-⟩
   ·exact absurd g2 hc
   rw[r6]at k2;have bG:=hq g2;rw[f1]at e1;rw[f2]at e2;clear f1 f2 hq;generalize fK (l.drop n)=D at*;obtain⟨⟨dk,ds,dp⟩,dn,de⟩:=D;simp only[]at*;obtain⟨d,rfl⟩:∃d:Nat,dn=d:=⟨dn.toNat,by omega⟩
   rw[nC]at e1 e2;subst g2;subst g3;have Qt:(ds !=ds)=false:=by simp
   have w1:IntKind.i64.wrap ((n:Int)+(d:Int))=((n+d:Nat):Int):=by rw[IntWalk.i64_in _ (by omega)];omega
   have w2:IntKind.i64.wrap (ds+1)=ds+1:=IntWalk.i64_in _ (by omega)
   have e3:(R++[(⟨dk,ds,dp⟩:Rec)])++(mE (l.drop (n+d)) (q+((R++[(⟨dk,ds,dp⟩:Rec)]).length:Int))).1=S1:=by
    rw[mY,kA,P8];exact e1
   have e4:((n+d:Nat):Int)+(mE (l.drop (n+d)) (q+((R++[(⟨dk,ds,dp⟩:Rec)]).length:Int))).2=S2:=by
    rw[mY];omega
   have lG:=mY ⟨dk,ds,dp⟩;have fW:=Qx R dk ds dp;clear e2 e1 mY
   replace e3:=aU.mk e3
   replace e4:=aU.mk e4
   replace lG:=aU.mk lG
   have rB:(n:Int)<=l.length:=by omega
   unfold dN at c1;simp only[]at c1;cases hF:R.length with
   |zero=>
    have gJ:R=[]:=fI hF;subst gJ;have kW:([]++[(⟨dk,ds,dp⟩:Rec)]).length=1:=rfl;clear aC hF fW;refine aE ?_;refine⟨m+40,([]++[⟨dk,ds,dp⟩],n+d,m+1+1+1),?_,⟨⟨⟨?_,?_⟩,e3.out,e4.out⟩,fun _=> ?_⟩,?_⟩
    ·simp only[];omega
    ·simp only[];omega
    ·simp only[];omega
    ·simp only[];omega
    ·simp only[]
     rw[lG.out];exact aN
   |succ p=>
    have J1:=aC (by omega)
    have kW:(R++[(⟨dk,ds,dp⟩:Rec)]).length=p+1+1:=by rw[cP,hF];rfl
    clear aC;refine aE ?_;refine⟨m+40,(R++[⟨dk,ds,dp⟩],n+d,m+1+1+1),?_,⟨⟨⟨?_,?_⟩,e3.out,e4.out⟩,fun _=> ?_⟩,?_⟩
    ·simp only[];omega
    ·simp only[];omega
    ·simp only[];omega
    ·simp only[];omega
    ·simp only[]
     rw[lG.out,kW];exact aN
  ·rw[J0 g]at e1 e2
   simp only[rO]at e1 e2;rw[Z4]at e2;subst e1;subst e2;clear eW J0 hc hq mY;generalize fK (l.drop n)=D at*;obtain⟨⟨dk,ds,dp⟩,dn,de⟩:=D;simp only[]at*;unfold dN at c1;simp only[]at c1;have rB:(n:Int)<=l.length:=by omega
   have uX:aU (¬(1<=Q/\de=0/\ds=Q)):=⟨g⟩;clear g;by_cases g1:1<=Q
   case neg=>
    clear uX;cases hF:R.length with
    |zero=>
     have gJ:R=[]:=fI hF;subst gJ;clear aC hF;refine aE ?_;exact aB
    |succ p=>
     have J1:=aC (by omega)
     have iD:R.take (p+1)=R:=cR (by omega)
     clear aC;refine aE ?_;exact aB
   by_cases g2:de=0
   case neg=>
    have CG:(de !=0)=true:=by simpa using g2
    clear g2 uX;cases hF:R.length with
    |zero=>
     have gJ:R=[]:=fI hF;subst gJ;clear aC hF;refine aE ?_;exact aB
    |succ p=>
     have J1:=aC (by omega)
     have iD:R.take (p+1)=R:=cR (by omega)
     clear aC;refine aE ?_;exact aB
   have AO:(ds !=Q)=true:=by simpa using fun e=>uX.out ⟨g1,g2,e⟩
   subst g2;clear uX;cases hF:R.length with
   |zero=>
    have gJ:R=[]:=fI hF;subst gJ;clear aC hF;refine aE ?_;exact aB
   |succ p=>
    have J1:=aC (by omega)
    have iD:R.take (p+1)=R:=cR (by omega)
    clear aC;refine aE ?_;exact aB
end Go.Proofs.YtioafciifiggaaaGreatDoor
