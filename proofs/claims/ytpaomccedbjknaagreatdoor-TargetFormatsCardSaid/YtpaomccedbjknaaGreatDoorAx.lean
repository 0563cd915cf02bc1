/- Target: contracts of its functions (Ax). No condition but those named. -/
import Derived.Test.YtpaomccedbjknaaGreatDoorAw
set_option linter.all false
namespace Go.Proofs.YtpaomccedbjknaaGreatDoor
open Go.Proofs Go.AL Tryz
set_option maxRecDepth 100000
set_option maxHeartbeats 8000000
attribute [local irreducible] bT AW b8 cF dB hold
attribute [local irreducible] iX
theorem aD8{k s:Int}{p:List Int}:(rE k s p).1.length<=1100:=by
 unfold rE;split
 ·simp
 ·split
  ·simp
  ·rename_i h
   simp only[zP,List.length_range];have:(C0 k p).length=7+p.length:=by unfold C0 qO;simp only[cU,iQ,FG];omega
   unfold xI;omega
theorem Bq(G:Nat->Option aI)(k:Nat)(l:List Int):(aB aW l).map (fun row=>row.map (bJ G k))=aB aW l:=KQ (fun a x hx=>by simp[aW]at hx;exact⟨_,hx⟩) G k l
theorem aD9(a n p:Int)(l:List aQ):(FH a n p l).length<=2:=by
 unfold FH;split<;>simp
theorem aE0(G:Nat->Option aI)(k:Nat)(W:List bR):(aB aH W++[[zV 1,zV 0,.c (.slice none 0 0)]]).map (fun row=>row.map (bJ G k))=aB aH W++[[zV 1,zV 0,.c (.slice none 0 0)]]:=by
 rw[CV,Ju];cases k<;>rfl
theorem aE1(W:List bR):∀row∈aB aH W++[[zV 1,zV 0,.c (.slice none 0 0)]],∀x∈row,bF x:=fun row hr x hx=>by
 rcases qW.1 hr with h|h
 ·exact oN W row h x hx
 ·simp only[dJ,iI,or_false]at h
  subst h;simp only[dJ,iI,or_false]at hx;rcases hx with rfl|rfl|rfl<;>exact .c _
theorem aE2(j:Jr)(k:Int)(p:List Int)(hl:j.aR.length<=100000)(hp:∀x∈p,bZ x)(nX:p.length<=100000):PC 194 [.agg (gF j),zV k,.snap (aB aO p)] (.aK [.agg (gF (rF j k p).1),.snap (aB aH (rF j k p).2.1),zV (rF j k p).2.2]):=by
 refine iZ func194 ntmps194 (by simp only[go_sem,gF]) ?_
 have c1:=UP j hl;obtain⟨M,hM⟩:∃M,rF j k p=M:=⟨_,rfl⟩;rw[hM];unfold rF at hM;by_cases g1:jE j=0
 case neg=>
  rw[if_neg g1]at hM;subst hM;rw[decide_eq_false g1]at c1;obtain⟨js,jc,jh,jt,jf,jz⟩:=j;unfold gF encS lB at*;simp only[]at*;clear g1;exact zE
 rw[if_pos g1]at hM;rw[decide_eq_true g1]at c1;have hN:jN j=j.first+j.aR.length:=by unfold jN;rw[if_pos g1]
 obtain⟨hv,e1,e2,e3,e4,e5,e6,e7⟩:=DM g1;have h5:=L8 hv
 have hU:jU j=j.aR.sum:=by
  unfold jU;rw[if_pos hv];have h9:=((ZX j hv).1 g1).2.1;have:=(UO (j.count-16) j.aR 0 oM).2 h9
  omega
 have h4:=(L7 _ (L6 e7)).1;rw[hU]at c1;have c2:=Pk j j.aR.sum e3 oM hl
 have c3:=aD1 k (jN j) p hp nX;have c4:=aD0 j j.aR.sum oM oM oM oM
 have c5:=QM j.start j.count;rw[IntWalk.i64_in (j.count-16) oM]at c5
 have rU:=aD8 (k:=k) (s:=jN j) (p:=p)
 have h6:0<=j.tail/\j.tail<j.count-16:=by
  rw[e5];exact⟨Zl _ oM,Zm _ oM⟩
 have c6:=Pm j.start j.count j.tail (rE k (jN j) p).1 oM oM oM oM h6.1 h6.2 oM
 simp only[hN]at hM c3 c6 rU;clear hN;generalize rE k (j.first+j.aR.length) p=E at*
 obtain⟨l,e⟩:=E;simp only[]at*;clear g1 hv e7 e5 hU hp;by_cases g2:e=0
 case neg=>
  rw[if_neg g2]at hM;subst hM;obtain⟨js,jc,jh,jt,jf,jz⟩:=j;unfold gF encS lB at*;simp only[]at*;clear c4 c5 c6;exact zE
 rw[if_pos g2]at hM;subst g2;by_cases g3:1073741824<=j.first+(j.aR.length:Int)
 ·rw[if_pos g3]at hM
  subst hM;obtain⟨js,jc,jh,jt,jf,jz⟩:=j;unfold gF encS lB at*;simp only[]at*;clear c4 c5 c6;exact zE
 rw[if_neg g3]at hM;by_cases g4:j.count-16-j.aR.sum<(l.length:Int)
 ·rw[if_pos g4]at hM
  subst hM;obtain⟨js,jc,jh,jt,jf,jz⟩:=j;unfold gF encS lB at*;simp only[]at*;clear c5 c6;exact zE
 rw[if_neg g4]at hM;subst hM;obtain⟨js,jc,jh,jt,jf,jz⟩:=j;unfold gF encS at*;simp only[]at*;have hrw:=aD9 js (jc-16) jt l;generalize FH js (jc-16) jt l=W at*;have nW:=Kx W;have hex:=fun G k=>aE0 G k W
 have bX7:(∀row,row∈aB aH W++[[zV 1,zV 0,.c (.slice none 0 0)]]->∀x,x∈row->bF x)=True:=eq_true (aE1 W);have cI:(aB aH W++[[zV 1,zV 0,.c (.slice none 0 0)]]).take (W.length+1)=aB aH W++[[zV 1,zV 0,.c (.slice none 0 0)]]:=cN (by rw[cU,fK];exact cA _)
 by_cases FN:jz=[]
 ·subst FN
  refine aE ?_;refine eO func218 ntmps218 ?_;refine aE ?_;refine⟨?_,?_⟩
  ·(simp(maxSteps:=2000000) (disch:=omega) only[go_sem,fH,eM,fD,fC,false_implies,implies_true, *])
  ·(simp(maxSteps:=2000000) (disch:=omega) only[go_sem,fH,eM,fD,fC,false_implies,implies_true, *];(repeat (first|exact .refl _|exact .nil|exact mS|refine eE ?_ ?_|refine H9 ?_|refine vD ?_|refine HA ?_|exact BH|exact nW|exact EV _|refine u3 ?_ ?_)))
 ·have aT:=qF FN
  have xQ:=Nat.lt_of_le_of_lt (cA jz.length) (by omega:jz.length<5000)
  have ID:(∀row,row∈aB aW (jz++[(l.length:Int)])->∀x,x∈row->bF x)=True:=eq_true (oN _);have Pt:(jz++[(l.length:Int)]).take (jz.length+1)=jz++[(l.length:Int)]:=cN (by simp)
  have Pu:=fun G k=>Bq G k (jz++[(l.length:Int)])
  refine aE ?_;refine eO func218 ntmps218 ?_;refine aE ?_;refine⟨?_,?_⟩
  ·(simp(maxSteps:=2000000) (disch:=omega) only[go_sem,fH,eM,fD,fC,false_implies,implies_true, *])
  ·(simp(maxSteps:=2000000) (disch:=omega) only[go_sem,fH,eM,fD,fC,false_implies,implies_true, *];(repeat (first|exact .refl _|exact .nil|exact mS|refine eE ?_ ?_|refine H9 ?_|refine vD ?_|refine HA ?_|exact BH|exact nW|exact EV _|refine u3 ?_ ?_)))
theorem Pv(s:jB)(hs:yV s):PC 122 [.agg (dH s)] (.aK [.agg (dH s),.snap (aB aH []),zV 0]):=by
 refine aZ func122 ntmps122 (by simp only[go_sem,dH]) ?_
 have c1:=yK s.j.aR (by have:=hs.aR;omega)
 have c2:=Bn s.bI hs.bI hs.one;clear hs;obtain⟨⟨js,jc,jh,jt,jf,jz⟩,l⟩:=s;unfold dH;simp only[]at*;exact zE
theorem Pw(s:jB)(k:Int)(p:List Int)(x:bK)(hs:yV s)(uK:HX s.bI)(hp:∀x∈p,bZ x)(nX:p.length<=100000):PC 117 [.agg (dH s),zV k,.snap (aB aO p),.agg (bX x)] (.aK [.agg (dH (DP s k p x).1),.snap (aB aH (DP s k p x).2.1),zV (DP s k p x).2.2]):=by
 refine aZ func117 ntmps117 (by simp only[go_sem,dH]) ?_
 have c1:=aE2 s.j k p hs.aR hp nX;have c2:=Bn s.bI hs.bI hs.one;have c3:=aD6 s.bI x uK hs.bI;obtain⟨M,hM⟩:∃M,DP s k p x=M:=⟨_,rfl⟩;rw[hM];unfold DP at hM;clear hs uK hp;obtain⟨⟨js,jc,jh,jt,jf,jz⟩,l⟩:=s;obtain⟨xn,xp,xs,xh,xe,xr,xc⟩:=x;unfold dH;rw[lY]at*;unfold gF at c1;simp only[]at*;generalize rF ⟨js,jc,jh,jt,jf,jz⟩ k p=E at*;obtain⟨⟨ks,kc,kh,kt,kf,kz⟩,ops,e⟩:=E
 simp only[]at*;generalize rZ l ⟨xn,xp,xs,xh,xe,xr,xc⟩=L at*;by_cases g:e=0
 ·rw[if_pos g]at hM
  subst hM g;simp only[];exact zE
 ·rw[if_neg g]at hM
  subst hM;unfold o0 lB;simp only[];exact zE
structure FP(a:oX):Prop where
 dF:a.dF.length<=100000
 seen:a.seen.length<=100000
 one:∀x∈a.dF,x.length<=100000/\∀y∈x,bZ y
theorem Q4.ok{a:oX}(h:Q4 a):FP a:=⟨h.dF,h.seen,h.one⟩
theorem aE3{a:oX}{b:List Int}(h:FP a)(hb:∀x∈b,bZ x):FP (vL a b).1:=by
 have h0:FP pU:=⟨by simp[pU],by simp[pU],fun x hx=>by simp[pU]at hx⟩
 have eC:=UM hb;unfold vL;split
 ·split
  ·rename_i g
   obtain⟨-,-,-,-,-,-,-,-,h9,fG,-⟩:=eC g;split
   ·split
    ·split
     ·exact h0
     ·refine⟨by simp only[GR];exact h.dF,by simp only[GR];exact h.seen,fun x hx=> ?_⟩
      simp only[]at hx;rcases Y7 hx with h1|h1
      ·exact h.one x h1
      ·subst h1
       exact⟨oM,fG⟩
    ·exact h0
   ·exact h0
  ·exact h0
 ·exact h0
theorem aE4{b:List Int}(hb:∀x∈b,bZ x):FP (BN b).1:=by
 have h0:FP pU:=⟨by simp[pU],by simp[pU],fun x hx=>by simp[pU]at hx⟩
 have eC:=UM hb;unfold BN;split
 ·rename_i g
  obtain⟨-,-,-,-,h5,-,-,-,h9,fG,-⟩:=eC g;refine⟨by simp only[GR,yG];omega,by simp only[GR,yG];omega,fun x hx=> ?_⟩
  simp only[]at hx;rcases Y7 hx with h1|h1
  ·rw[(Ih.1 h1).2]
   exact⟨by simp,fun y hy=>by simp at hy⟩
  ·subst h1
   exact⟨oM,fG⟩
 ·exact h0
theorem aE5(b:List Int):(BN b).2=(dA b).2:=by
 unfold BN;split
 ·rename_i h;exact h.symm
 ·rfl
theorem Px{j:Jr}{x:bK}(h:mW j x=true):x.records≠[]:=fun he=>by
 unfold mW at h;split at h
 ·split at h
  ·exact absurd h dE
  ·rename_i g
   split at h
   ·exact absurd h dE
   ·split at h
    ·rw[he]at h
     have:0=BS x:=by simpa using h
     unfold BS at this;split at this<;>omega
    ·exact absurd h dE
 ·exact absurd h dE
theorem aE6(s:jB)(p:List Int)(hs:yV s)(hp:∀x∈p,bZ x)(nX:p.length<=100000):PC 56 [.agg (dH s),.snap (aB aO p)] (.aK [.agg (dH (C3 s p).1),.snap (aB aH (C3 s p).2.1),zV (C3 s p).2.2]):=by
 refine aZ func56 ntmps56 (by simp only[go_sem,dH]) ?_
 have c1:=L9 s hs;have c2:=Mw p hp nX;have c5:=av9 p hp nX;have c6:=Pv s hs;have AI:=aE4 hp;have P2:=aE5 p;have hJ:=UQ s.j hs.aR;have FQ:∀(x:bK),HV x->FP (vL (cD x) p).1:=fun x hx=>aE3 hx.cD.ok hp
 have DS:=fun(x:bK) (hx:HV x)=>aC9 (cD x) p hx.cD hp nX
 have tL:=fun k x uK=>Pw s k p x hs uK hp nX
 have hG:= @FA s;have dM:=hs.one;have hl:=hs.bI;have QF:dH o0=[zV 0,zV 0,zV 0,zV 0,zV 0,.snap (aB aW []),.snap (aB bX [])]:=rfl;obtain⟨M,hM⟩:∃M,C3 s p=M:=⟨_,rfl⟩;rw[hM];unfold C3 at hM;clear hs;by_cases g1:l5 s=0
 case neg=>
  rw[if_neg g1]at hM;subst hM;obtain⟨⟨js,jc,jh,jt,jf,jz⟩,l⟩:=s;unfold dH at*;simp only[]at*;generalize l5 ⟨⟨js,jc,jh,jt,jf,jz⟩,l⟩=e at*;clear hG dM FQ DS tL c2 c5 c6 hJ AI P2;exact zE
 rw[if_pos g1]at hM;rw[g1]at c1;obtain⟨hj,-,h3⟩:=hG g1;have uK:=Al h3;have oC:=HZ s.j _ _ _ h3;rw[if_pos hj]at hJ;have hN:jN s.j=s.j.first+s.j.aR.length:=by unfold jN;rw[if_pos hj]
 rw[hN]at hM;clear hN hG g1 h3 hj
 replace tL:=fun k x=>tL k x uK
 generalize BN p=B at*;obtain⟨ba,be⟩:=B;simp only[]at AI P2 c5;subst P2;by_cases g2:(dA p).2=0
 case neg=>
  rw[if_neg g2]at hM;subst hM;obtain⟨⟨js,jc,jh,jt,jf,jz⟩,l⟩:=s;unfold dH at*;simp only[]at*;generalize dA p=R at*;obtain⟨⟨n,i,pp,ps,pl⟩,e⟩:=R;clear dM FQ DS tL c5 c6 hJ AI;exact zE
 rw[if_pos g2]at hM;rw[g2]at c2 c5;have c4:=UU s.bI (dA p).1.number uK hl;generalize dA p=R at*;obtain⟨⟨n,pi,pp,ps,pl⟩,e⟩:=R;simp only[]at*;subst g2;by_cases g3:pE s.bI n=true
 case neg=>
  rw[if_neg g3]at hM;have qI:pE s.bI n=false:=by simpa using g3
  rw[qI]at c4;clear g3 qI DS FQ dM oC c6;generalize fE s.bI n=i at*;by_cases g4:1024<=s.bI.length
  ·rw[if_pos g4]at hM
   subst hM;have IE:(1024:Int)<=s.bI.length:=oM
   obtain⟨⟨js,jc,jh,jt,jf,jz⟩,l⟩:=s;unfold dH gF at*;simp only[]at*;clear tL AI c5;exact zE
  ·rw[if_neg g4]at hM
   have IE:¬(1024:Int)<=s.bI.length:=oM
   have c7:=VC ba [s.j.first+s.j.aR.length] false AI.dF AI.seen (fun x hx=>(AI.one x hx).1) (by simp)
   have c8:=tL 1 (z7 ba [s.j.first+s.j.aR.length] false)
   have wR:aB aW [s.j.first+(s.j.aR.length:Int)]=[[zV (s.j.first+(s.j.aR.length:Int))]]:=rfl
   rw[wR]at c7;rw[hM]at c8;clear tL AI hM wR;obtain⟨⟨⟨ks,kc,kh,kt,kf,kz⟩,kl⟩,ko,ke⟩:=M;rw[lY]at c7 c8;unfold z7 at c7 c8;obtain⟨⟨js,jc,jh,jt,jf,jz⟩,l⟩:=s;obtain⟨bn,bp,bs,bh,bz⟩:=ba;unfold dH gF jX at*;simp only[]at*;generalize jf+(jz.length:Int)=N at*;clear g4;refine aE ?_;refine VL ?_;exact zE
 ·rw[if_pos g3]at hM
  obtain⟨hi,-⟩:=FB g3;rw[g3]at c4;clear g3 c5 AI;generalize fE s.bI n=i at*;have oB:=yU s.bI i hi;have hx:=dM _ (eB bU hi);have QT:=Px (oC _ (eB bU hi));generalize s.bI.getD i bU=x at*;have c7:=Q7 x;have c8:=DS x hx;have IF:=FQ x hx;have c9:=aC3 (vL (cD x) p).1 (cD x) IF.dF hx.cD.dF IF.seen hx.cD.seen (fun y hy=>(IF.one y hy).2) (fun y hy=>(hx.cD.one y hy).2)
  have C5:=YI x.records QT (by have:=hx.records;omega)
  have xZ:=fun hr=>VC (vL (cD x) p).1 (x.records++[s.j.first+s.j.aR.length]) x.closed IF.dF IF.seen (fun x hx=>(IF.one x hx).1) hr
  have wS:=tL 1 (z7 (vL (cD x) p).1 (x.records++[s.j.first+s.j.aR.length]) x.closed)
  have rU:=hx.records
  replace xZ:=xZ (by rw[cU];simp only[iQ,kT];have:=hx.records;omega)
  clear DS FQ tL dM oC hx IF QT;generalize vL (cD x) p=A at*;obtain⟨aa,ae⟩:=A;simp only[]at*;by_cases g5:ae=0
  case neg=>
   rw[if_neg g5]at hM;subst hM;obtain⟨⟨js,jc,jh,jt,jf,jz⟩,l⟩:=s;obtain⟨xn,xp,xs,xh,xe,xr,xc⟩:=x;obtain⟨bn,bp,bs,bh,bz⟩:=aa;rw[lY]at*;unfold dH gF jX cD at*;simp only[]at*;clear c6 c9 C5 xZ wS;exact zE
  rw[if_pos g5]at hM;subst g5;by_cases g6:aa=cD x
  ·rw[if_pos g6]at hM
   subst hM;rw[decide_eq_true g6]at c9;subst g6;obtain⟨⟨js,jc,jh,jt,jf,jz⟩,l⟩:=s;obtain⟨xn,xp,xs,xh,xe,xr,xc⟩:=x;rw[lY]at*;unfold dH gF jX cD at*;simp only[]at*;clear C5 xZ wS;exact zE
  ·rw[if_neg g6]at hM
   rw[decide_eq_false g6]at c9;rw[hM]at wS;clear g6 hM;obtain⟨⟨⟨ks,kc,kh,kt,kf,kz⟩,kl⟩,ko,ke⟩:=M;rw[lY]at xZ wS;unfold z7 at xZ wS;obtain⟨⟨js,jc,jh,jt,jf,jz⟩,l⟩:=s;obtain⟨xn,xp,xs,xh,xe,xr,xc⟩:=x;obtain⟨bn,bp,bs,bh,bz⟩:=aa;rw[lY]at c7 oB;unfold dH gF jX cD at*;simp only[]at*;generalize jf+(jz.length:Int)=N at*;have cI:(xr++[N]).take (xr.length+1)=xr++[N]:=cN (by simp)
   clear c6;refine aE ?_;refine VL ?_;exact zE
theorem aE7(n:Int):∀x∈aV n,bZ x:=by unfold aV;exact La _
theorem aE8(s:jB)(n:Int)(hs:yV s):PC 59 [.agg (dH s),zV n] (.aK [.agg (dH (rG s n).1),.snap (aB aH (rG s n).2.1),zV (rG s n).2.2]):=by
 refine aZ func59 ntmps59 (by simp only[go_sem,dH]) ?_
 have c1:=L9 s hs;have c6:=Pv s hs;have hJ:=UQ s.j hs.aR;have Br:(aV n).length<=100000:=by have:=lR n;omega
 have tL:=fun x uK=>Pw s 2 (aV n) x hs uK (aE7 n) Br
 have hG:= @FA s;have dM:=hs.one;have hl:=hs.bI;have c3:=H6 n;rw[sF]at c3;obtain⟨M,hM⟩:∃M,rG s n=M:=⟨_,rfl⟩;rw[hM];unfold rG at hM;clear hs;by_cases g1:l5 s=0
 case neg=>
  rw[if_neg g1]at hM;subst hM;obtain⟨⟨js,jc,jh,jt,jf,jz⟩,l⟩:=s;unfold dH at*;simp only[]at*;generalize l5 ⟨⟨js,jc,jh,jt,jf,jz⟩,l⟩=e at*;clear hG dM tL c3 c6 hJ;exact zE
 rw[if_pos g1]at hM;rw[g1]at c1;obtain⟨hj,-,h3⟩:=hG g1;have uK:=Al h3;have oC:=HZ s.j _ _ _ h3;rw[if_pos hj]at hJ;have hN:jN s.j=s.j.first+s.j.aR.length:=by unfold jN;rw[if_pos hj]
 rw[hN]at hM;clear hN hG g1 h3 hj
 replace tL:=fun x=>tL x uK
 have c4:=UU s.bI n uK hl;by_cases g3:pE s.bI n=true
 case neg=>
  rw[if_neg g3]at hM;have qI:pE s.bI n=false:=by simpa using g3
  rw[qI]at c4;subst hM;clear g3 qI dM oC c3 c6 tL;generalize fE s.bI n=i at*;obtain⟨⟨js,jc,jh,jt,jf,jz⟩,l⟩:=s;unfold dH gF at*;simp only[]at*;exact zE
 rw[if_pos g3]at hM;obtain⟨hi,-⟩:=FB g3;rw[g3]at c4;clear g3;generalize fE s.bI n=i at*;have oB:=yU s.bI i hi;have hx:=dM _ (eB bU hi);have QT:=Px (oC _ (eB bU hi));generalize s.bI.getD i bU=x at*;by_cases g4:x.closed=true
 ·rw[if_pos g4]at hM
  subst hM;obtain⟨⟨js,jc,jh,jt,jf,jz⟩,l⟩:=s;obtain⟨xn,xp,xs,xh,xe,xr,xc⟩:=x;rw[lY]at*;unfold dH gF at*;simp only[]at*;subst g4;clear tL dM oC c3;exact zE
 rw[if_neg g4]at hM;have IE:x.closed=false:=by simpa using g4
 have c7:=Q7 x;have c8:=ZZ (cD x) hx.cD;have C5:=YI x.records QT (by have:=hx.records;omega)
 have xZ:=VC (cD x) (x.records++[s.j.first+s.j.aR.length]) true hx.cD.dF hx.cD.seen (fun y hy=>(hx.cD.one y hy).1) (by rw[cU];simp only[iQ,kT];have:=hx.records;omega)
 have wS:=tL (z7 (cD x) (x.records++[s.j.first+s.j.aR.length]) true)
 have rU:=hx.records;clear tL dM oC hx QT c6 g4;generalize uE (cD x)=cy at*;obtain⟨⟨cb,cn,ct,cp,cw⟩,ce⟩:=cy;unfold iO at c8;simp only[]at*;by_cases g5:ce=0
 case neg=>
  rw[if_neg g5]at hM;subst hM;obtain⟨⟨js,jc,jh,jt,jf,jz⟩,l⟩:=s;obtain⟨xn,xp,xs,xh,xe,xr,xc⟩:=x;rw[lY]at oB c7;unfold dH gF jX cD at*;simp only[]at*;subst IE;clear c3 C5 xZ wS;exact zE
 rw[if_pos g5]at hM;subst g5;rw[hM]at wS;clear hM;obtain⟨⟨⟨ks,kc,kh,kt,kf,kz⟩,kl⟩,ko,ke⟩:=M;rw[lY]at xZ wS;unfold z7 at xZ wS;obtain⟨⟨js,jc,jh,jt,jf,jz⟩,l⟩:=s;obtain⟨xn,xp,xs,xh,xe,xr,xc⟩:=x;rw[lY]at c7 oB;unfold dH gF jX cD at*;simp only[]at*;subst IE;generalize jf+(jz.length:Int)=N at*;have cI:(xr++[N]).take (xr.length+1)=xr++[N]:=cN (by simp)
 have htv:(aV n).take (aV n).length=aV n:=gP;generalize aV n=V at*;refine aE ?_;refine VL ?_;exact zE
structure QU(x:bK):Prop where
 cD:FP (cD x)
 records:x.records.length<=100000
theorem HV.l2{x:bK}(h:HV x):QU x:=⟨h.cD.ok,h.records⟩
theorem aE9(G:Nat->Option aI)(k:Nat)(l:List bK):(aB bX l).map (fun row=>row.map (bJ G k))=aB bX l:=by
 unfold aB;rw[B9];refine sG fun o _=> ?_
 cases k<;>simp[bX,bJ]
theorem aF0{j:Jr}{x:bK}(h:mW j x=true):x.records.length<=65537:=by
 unfold mW at h;split at h
 ·rename_i g
  obtain⟨-,-,-,p,-,-,-,q,-⟩:=Nb g;split at h
  ·exact absurd h dE
  ·split at h
   ·exact absurd h dE
   ·split at h
    ·have h2:x.records.length=BS x:=by simpa using h
     have h3:DN x<=x.seen.length:=Zn _ _;have h4:(x.seen.length:Int)=(cD x).parts:=q;rw[h2];unfold BS;split<;>omega
    ·exact absurd h dE
 ·exact absurd h dE
theorem Py(l:List bK)(x:bK):(rZ l x).length<=l.length+1:=by
 have:=UT l x.number;unfold rZ;split
 ·rw[GR];omega
 ·rw[cU,iQ,dX,kR];omega
theorem Pz{l:List bK}{x y:bK}(h:y∈rZ l x):y=x\/y∈l:=by
 unfold rZ at h;split at h
 ·rcases Y7 h with h|h
  ·exact .inr h
  ·exact .inl h
 ·rcases qW.1 h with h|h
  ·exact .inr (GO h)
  ·rcases dJ.1 h with h|h
   ·exact .inl h
   ·exact .inr (BA h)
theorem aF1(j:Jr)(hl:j.aR.length<=1000000):PC 100 [.agg (gF j),.agg (gF j)] (bV true):=by
 refine aZ func100 ntmps100 (.c _) ?_;obtain⟨js,jc,jh,jt,jf,jz⟩:=j;unfold gF;simp only[]at*;have hg:=gI jz;have d1:vJ prog 37 (.agg [zV js,zV jc]) (.agg [zV js,zV jc])=some true:=(aC7 [js,jc] [js,jc] rfl rfl).trans (by simp)
 obtain⟨d2,C4⟩:=jJ jh;obtain⟨d3,I4⟩:=jJ jt;obtain⟨d4,Pb⟩:=jJ jf;obtain⟨d5,Bh⟩:=jJ jz.length;refine aE ?_;refine nS jz.length 100 [(0,some (.cells 39 6 [[zV js,zV jc,zV jh,zV jt,zV jf,.snap (aB aW jz)]] true false)),(1,some (.cells 39 6 [[zV js,zV jc,zV jh,zV jt,zV jf,.snap (aB aW jz)]] true false))] (fun k=> [(5,true,zV k),(3,true,.ptr 1 0 0),(2,true,.ptr 0 0 0)]) aG (fun k m bG hm=> ?_) (fun m hm=> ?_)
 ·have bO:=hg k bG
  clear hg;generalize jz.getD k 0=v at*;obtain⟨d,dx⟩:=jJ v;refine aE ?_;refine⟨m+200,oM,aG⟩
 ·clear hg
  exact zE
theorem aF2(x:bK)(hx:QU x):PC 101 [.agg (bX x),.agg (bX x)] (bV true):=by
 refine aZ func101 ntmps101 (.c _) ?_;have c1:=ax1 x;have c2:=aC4 (cD x) (cD x) hx.cD.dF hx.cD.dF hx.cD.seen hx.cD.seen (fun y hy=>(hx.cD.one y hy).2) (fun y hy=>(hx.cD.one y hy).2)
 rw[decide_eq_true rfl]at c2;have c3:=aq2 x.records (by have:=hx.records;omega)
 clear hx;obtain⟨n,p,s,h,e,r,c⟩:=x;rw[lY]at*;unfold cD jX at*;simp only[]at*;have d:(c==c)=true:=by simp
 exact zE
theorem aF3(s:jB)(hz:s.j.aR.length<=1000000)(hl:s.bI.length<=1000000)(ho:∀x∈s.bI,QU x):PC 44 [.agg (dH s),.agg (dH s)] (bV true):=by
 refine aZ func44 ntmps44 (.c _) ?_;have c1:=aF1 s.j hz;have hc:∀k,k<s.bI.length->PC 101 [.agg (bX (s.bI.getD k bU)),.agg (bX (s.bI.getD k bU))] (bV true):=fun k hk=>aF2 _ (ho _ (eB bU hk))
 clear ho;obtain⟨⟨js,jc,jh,jt,jf,jz⟩,l⟩:=s;unfold dH gF at*;simp only[]at*;have hg:=yU l
 replace hc:=bC.mk hc
 obtain⟨d5,Bh⟩:=jJ l.length;refine aE ?_;refine nS l.length 100 [(0,some (.cells 42 7 [[zV js,zV jc,zV jh,zV jt,zV jf,.snap (aB aW jz),.snap (aB bX l)]] true false)),(1,some (.cells 42 7 [[zV js,zV jc,zV jh,zV jt,zV jf,.snap (aB aW jz),.snap (aB bX l)]] true false))] (fun k=> [(5,true,zV k),(3,true,.ptr 1 0 0),(2,true,.ptr 0 0 0)]) aG (fun k m bG hm=> ?_) (fun m hm=> ?_)
 ·have bO:=hg k bG
  have c2:=hc.out k bG;clear hg hc c1;generalize l.getD k bU=x at*;obtain⟨n,p,s,h,e,r,c⟩:=x;rw[lY]at*;simp only[]at*;refine aE ?_;refine⟨m+200,oM,aG⟩
 ·clear hg hc
  exact zE
theorem aF4(l:List bR)(hl:l.length<=1000000)(hs:∀o∈l,o.2.2.length<=1000000):PC 173 [.snap (aB aH l),.snap (aB aH l)] (bV true):=by
 refine aZ func173 ntmps173 (.c _) ?_;have hc:∀k,k<l.length->PC 47 [.snap (aB aP (l.getD k (0,0,[])).2.2),.snap (aB aP (l.getD k (0,0,[])).2.2)] (bV true):=fun k hk=>Lv _ (hs _ (eB (0,0,[]) hk))
 clear hs;have hg:=Nr l
 replace hc:=bC.mk hc
 obtain⟨d5,Bh⟩:=jJ l.length;refine aE ?_;refine nS l.length 0 [] (fun k=> [(5,true,zV k),(0,true,.snap (aB aH l)),(1,true,.snap (aB aH l))]) aG (fun k m bG hm=> ?_) (fun m hm=> ?_)
 ·have bO:=hg k bG
  have c2:=hc.out k bG;clear hg hc;generalize l.getD k (0,0,[])=x at*;obtain⟨v,a,d⟩:=x;rw[UY]at bO;simp only[]at*;obtain⟨d1,wQ⟩:=jJ v;obtain⟨d2,C4⟩:=jJ a;refine aE ?_;refine⟨m+200,oM,aG⟩
 ·clear hg hc
  exact zE
end Go.Proofs.YtpaomccedbjknaaGreatDoor
