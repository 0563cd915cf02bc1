/- Staging. No condition. -/
import Derived.Test.YtioafciifiggaaaGreatDoorL0
import Derived.Test.YtioafciifiggaaaGreatDoorAv
import Derived.Test.YtioafciifiggaaaGreatDoorAu
import Derived.Test.YtioafciifiggaaaGreatDoorAr
import Derived.Test.YtioafciifiggaaaGreatDoorAw
set_option linter.all false
namespace Go.Proofs.YtioafciifiggaaaGreatDoor
open Go.Proofs Go.AL
set_option maxRecDepth 100000
set_option maxHeartbeats 8000000
attribute [local irreducible] cH AW b9 dR eH hold
attribute [local irreducible] jI
theorem ac6{k s:Int}{p:List Int}:(tB k s p).1.length<=1100:=by
 unfold tB;split
 ·simp
 ·split
  ·simp
  ·rename_i h
   simp only[l4,KF];have:(fS k p).length=7+p.length:=by unfold fS mN;simp only[bP,dK,GV];omega
   unfold sY;omega
theorem Kr(G:Nat->Option aI)(k:Nat)(l:List Int):(aA bD l).map (fun row=>row.map (cR G k))=aA bD l:=Gk (fun a x hx=>by simp[bD]at hx;exact⟨_,hx⟩) G k l
theorem ac7(a n p:Int)(l:List aH):(tC a n p l).length<=2:=by
 unfold tC;split<;>simp
theorem bl3(G:Nat->Option aI)(k:Nat)(W:List eW):(aA bJ W++[[zV 1,zV 0,.c (.slice none 0 0)]]).map (fun row=>row.map (cR G k))=aA bJ W++[[zV 1,zV 0,.c (.slice none 0 0)]]:=by
 rw[vY,aL9];cases k<;>rfl
theorem ac8(W:List eW):∀row∈aA bJ W++[[zV 1,zV 0,.c (.slice none 0 0)]],∀x∈row,bK x:=fun row hr x hx=>by
 rcases lS.1 hr with h|h
 ·exact oB W row h x hx
 ·simp only[cG,jF,or_false]at h
  subst h;simp only[cG,jF,or_false]at hx;rcases hx with rfl|rfl|rfl<;>exact .c _
theorem bl4(j:Jr)(k:Int)(p:List Int)(hl:j.b8.length<=100000)(hp:∀x∈p,aV x)(lQ:p.length<=100000):PC 148 [.agg (eZ j),zV k,.snap (aA aN p)] (.aU [.agg (eZ (kD j k p).1),.snap (aA bJ (kD j k p).2.1),zV (kD j k p).2.2]):=by
 refine BI Tryz.func148 Tryz.ntmps148 (by simp only[go_sem,eZ]) ?_
 have c1:=P6 j hl;obtain⟨M,hM⟩:∃M,kD j k p=M:=⟨_,rfl⟩;rw[hM];unfold kD at hM;by_cases g1:jE j=0
 case neg=>
  rw[if_neg g1]at hM;subst hM;rw[decide_eq_false g1]at c1;obtain⟨js,jc,jh,jt,jf,jz⟩:=j;unfold eZ encS j9 at*;simp only[]at*;clear g1;refine aD ?_;exact aC
 rw[if_pos g1]at hM;rw[decide_eq_true g1]at c1;have hN:jN j=j.first+j.b8.length:=by unfold jN;rw[if_pos g1]
 obtain⟨hv,e1,e2,e3,e4,e5,e6,e7⟩:=uP g1;have h5:=IS hv
 have hU:jU j=j.b8.sum:=by
  unfold jU;rw[if_pos hv];have h9:=((An j hv).1 g1).2.1;have:=(V6 (j.count-16) j.b8 0 (by omega)).2 h9
  omega
 have h4:=(GN _ (GM e7)).1;rw[hU]at c1;have c2:=Kj j j.b8.sum e3 (by omega) hl
 have c3:=bk9 k (jN j) p hp lQ;have c4:=Kk j j.b8.sum (by omega) (by omega) (by omega) (by omega)
 have c5:=IX j.start j.count;rw[IntWalk.i64_in (j.count-16) (by omega)]at c5
 have iR:=ac6 (k:=k) (s:=jN j) (p:=p)
 have h6:0<=j.tail/\j.tail<j.count-16:=by
  rw[e5];exact⟨BC _ (by omega),zM _ (by omega)⟩
 have c6:=ab7 j.start j.count j.tail (tB k (jN j) p).1 (by omega) (by omega) (by omega) (by omega) h6.1 h6.2 (by omega)
 simp only[hN]at hM c3 c6 iR;clear hN;generalize tB k (j.first+j.b8.length) p=E at*
 obtain⟨l,e⟩:=E;simp only[]at*;clear g1 hv e7 e5 hU hp;by_cases g2:e=0
 case neg=>
  rw[if_neg g2]at hM;subst hM;obtain⟨js,jc,jh,jt,jf,jz⟩:=j;unfold eZ encS j9 at*;simp only[]at*;clear c4 c5 c6;refine aD ?_;exact aC
 rw[if_pos g2]at hM;subst g2;by_cases g3:1073741824<=j.first+(j.b8.length:Int)
 ·rw[if_pos g3]at hM
  subst hM;obtain⟨js,jc,jh,jt,jf,jz⟩:=j;unfold eZ encS j9 at*;simp only[]at*;clear c4 c5 c6;refine aD ?_;exact aC
 rw[if_neg g3]at hM;by_cases g4:j.count-16-j.b8.sum<(l.length:Int)
 ·rw[if_pos g4]at hM
  subst hM;obtain⟨js,jc,jh,jt,jf,jz⟩:=j;unfold eZ encS j9 at*;simp only[]at*;clear c5 c6;refine aD ?_;exact aC
 rw[if_neg g4]at hM;subst hM;obtain⟨js,jc,jh,jt,jf,jz⟩:=j;unfold eZ encS at*;simp only[]at*;have PQ:=ac7 js (jc-16) jt l;generalize tC js (jc-16) jt l=W at*;have A6:=Vm W;have hex:=fun G k=>bl3 G k W
 have Ks:(∀row,row∈aA bJ W++[[zV 1,zV 0,.c (.slice none 0 0)]]->∀x,x∈row->bK x)=True:=eq_true (ac8 W);have iI:(aA bJ W++[[zV 1,zV 0,.c (.slice none 0 0)]]).take (W.length+1)=aA bJ W++[[zV 1,zV 0,.c (.slice none 0 0)]]:=eD (by rw[bP,mH];exact cE _)
 by_cases DN:jz=[]
 ·subst DN
  refine aD ?_;refine kA Tryz.func86 Tryz.ntmps86 ?_;refine aD ?_;refine⟨?_,?_⟩
  ·(simp(maxSteps:=2000000) (disch:=omega) only[go_sem,fQ,eV,fN,fC,false_implies,implies_true, *])
  ·(simp(maxSteps:=2000000) (disch:=omega) only[go_sem,fQ,eV,fN,fC,false_implies,implies_true, *];(repeat (first|exact .refl _|exact .nil|exact sD|refine jH ?_ ?_|refine KL ?_|refine BJ ?_|refine IC ?_|exact CY|exact A6|exact TY _|refine yN ?_ ?_)))
 ·have aJ:=wG DN
  have tA:=Nat.lt_of_le_of_lt (cE jz.length) (by omega:jz.length<5000)
  have LN:(∀row,row∈aA bD (jz++[(l.length:Int)])->∀x,x∈row->bK x)=True:=eq_true (oB _);have Kt:(jz++[(l.length:Int)]).take (jz.length+1)=jz++[(l.length:Int)]:=eD (by simp)
  have hjx:=fun G k=>Kr G k (jz++[(l.length:Int)])
  refine aD ?_;refine kA Tryz.func86 Tryz.ntmps86 ?_;refine aD ?_;refine⟨?_,?_⟩
  ·(simp(maxSteps:=2000000) (disch:=omega) only[go_sem,fQ,eV,fN,fC,false_implies,implies_true, *])
  ·(simp(maxSteps:=2000000) (disch:=omega) only[go_sem,fQ,eV,fN,fC,false_implies,implies_true, *];(repeat (first|exact .refl _|exact .nil|exact sD|refine jH ?_ ?_|refine KL ?_|refine BJ ?_|refine IC ?_|exact CY|exact A6|exact TY _|refine yN ?_ ?_)))
theorem ad0(s:cX)(hs:rA s):PC 77 [.agg (dG s)] (.aU [.agg (dG s),.snap (aA bJ []),zV 0]):=by
 refine bI Tryz.func77 Tryz.ntmps77 (by simp only[go_sem,dG]) ?_
 have c1:=ZF s.j.b8 (by have:=hs.b8;omega)
 have c2:=Km s.aR hs.aR hs.one;clear hs;obtain⟨⟨js,jc,jh,jt,jf,jz⟩,l⟩:=s;unfold dG;simp only[]at*;refine aD ?_;exact aC
theorem ad1(s:cX)(k:Int)(p:List Int)(x:aW)(hs:rA s)(xM:L3 s.aR)(hp:∀x∈p,aV x)(lQ:p.length<=100000):PC 72 [.agg (dG s),zV k,.snap (aA aN p),.agg (bQ x)] (.aU [.agg (dG (vN s k p x).1),.snap (aA bJ (vN s k p x).2.1),zV (vN s k p x).2.2]):=by
 refine bI Tryz.func72 Tryz.ntmps72 (by simp only[go_sem,dG]) ?_
 have c1:=bl4 s.j k p hs.b8 hp lQ;have c2:=Km s.aR hs.aR hs.one;have c3:=Kn s.aR x xM hs.aR;obtain⟨M,hM⟩:∃M,vN s k p x=M:=⟨_,rfl⟩;rw[hM];unfold vN at hM;clear hs xM hp;obtain⟨⟨js,jc,jh,jt,jf,jz⟩,l⟩:=s;obtain⟨xn,xp,xs,xh,xe,xr,xc⟩:=x;unfold dG;rw[iK]at*;unfold eZ at c1;simp only[]at*;generalize kD ⟨js,jc,jh,jt,jf,jz⟩ k p=E at*;obtain⟨⟨ks,kc,kh,kt,kf,kz⟩,ops,e⟩:=E
 simp only[]at*;generalize lP l ⟨xn,xp,xs,xh,xe,xr,xc⟩=L at*;by_cases g:e=0
 ·rw[if_pos g]at hM
  subst hM g;simp only[];refine aD ?_;exact aC
 ·rw[if_neg g]at hM
  subst hM;unfold lZ j9;simp only[];refine aD ?_;exact aC
structure EZ(a:nT):Prop where
 bS:a.bS.length<=100000
 seen:a.seen.length<=100000
 one:∀x∈a.bS,x.length<=100000/\∀y∈x,aV y
theorem V8.ok{a:nT}(h:V8 a):EZ a:=⟨h.bS,h.seen,h.one⟩
theorem Bo{a:nT}{b:List Int}(h:EZ a)(hb:∀x∈b,aV x):EZ (iA a b).1:=by
 have h0:EZ rL:=⟨by simp[rL],by simp[rL],fun x hx=>by simp[rL]at hx⟩
 have dO:=IQ hb;unfold iA;split
 ·split
  ·rename_i g
   obtain⟨-,-,-,-,-,-,-,-,h9,dY,-⟩:=dO g;split
   ·split
    ·split
     ·exact h0
     ·refine⟨by simp only[BD];exact h.bS,by simp only[BD];exact h.seen,fun x hx=> ?_⟩
      simp only[]at hx;rcases O4 hx with h1|h1
      ·exact h.one x h1
      ·subst h1
       exact⟨by omega,dY⟩
    ·exact h0
   ·exact h0
  ·exact h0
 ·exact h0
theorem Bp{b:List Int}(hb:∀x∈b,aV x):EZ (lW b).1:=by
 have h0:EZ rL:=⟨by simp[rL],by simp[rL],fun x hx=>by simp[rL]at hx⟩
 have dO:=IQ hb;unfold lW;split
 ·rename_i g
  obtain⟨-,-,-,-,h5,-,-,-,h9,dY,-⟩:=dO g;refine⟨by simp only[BD,s6];omega,by simp only[BD,s6];omega,fun x hx=> ?_⟩
  simp only[]at hx;rcases O4 hx with h1|h1
  ·rw[(I2.1 h1).2]
   exact⟨by simp,fun y hy=>by simp at hy⟩
  ·subst h1
   exact⟨by omega,dY⟩
 ·exact h0
theorem ad2(b:List Int):(lW b).2=(bZ b).2:=by
 unfold lW;split
 ·rename_i h;exact h.symm
 ·rfl
theorem Bq{j:Jr}{x:aW}(h:nU j x=true):x.records≠[]:=fun he=>by
 unfold nU at h;split at h
 ·split at h
  ·exact absurd h (by decide)
  ·rename_i g
   split at h
   ·exact absurd h (by decide)
   ·split at h
    ·rw[he]at h
     have:0=tU x:=by simpa using h
     unfold tU at this;split at this<;>omega
    ·exact absurd h (by decide)
 ·exact absurd h (by decide)
theorem Br(s:cX)(p:List Int)(hs:rA s)(hp:∀x∈p,aV x)(lQ:p.length<=100000):PC 29 [.agg (dG s),.snap (aA aN p)] (.aU [.agg (dG (nL s p).1),.snap (aA bJ (nL s p).2.1),zV (nL s p).2.2]):=by
 refine bI Tryz.func29 Tryz.ntmps29 (by simp only[go_sem,dG]) ?_
 have c1:=PA s hs;have c2:=Iy p hp lQ;have c5:=Yl p hp lQ;have c6:=ad0 s hs;have uT:=Bp hp;have IZ:=ad2 p;have hJ:=Ao s.j hs.b8;have GZ:∀(x:aW),GQ x->EZ (iA (bF x) p).1:=fun x hx=>Bo hx.bF.ok hp
 have wP:=fun(x:aW) (hx:GQ x)=>ab4 (bF x) p hx.bF hp lQ
 have vP:=fun k x xM=>ad1 s k p x hs xM hp lQ
 have hG:= @BV s;have gG:=hs.one;have hl:=hs.aR;have VJ:dG lZ=[zV 0,zV 0,zV 0,zV 0,zV 0,.snap (aA bD []),.snap (aA bQ [])]:=rfl;obtain⟨M,hM⟩:∃M,nL s p=M:=⟨_,rfl⟩;rw[hM];unfold nL at hM;clear hs;by_cases g1:mK s=0
 case neg=>
  rw[if_neg g1]at hM;subst hM;obtain⟨⟨js,jc,jh,jt,jf,jz⟩,l⟩:=s;unfold dG at*;simp only[]at*;generalize mK ⟨⟨js,jc,jh,jt,jf,jz⟩,l⟩=e at*;clear hG gG GZ wP vP c2 c5 c6 hJ uT IZ;refine aD ?_;exact aC
 rw[if_pos g1]at hM;rw[g1]at c1;obtain⟨hj,-,h3⟩:=hG g1;have xM:=Jo h3;have mM:=ET s.j _ _ _ h3;rw[if_pos hj]at hJ;have hN:jN s.j=s.j.first+s.j.b8.length:=by unfold jN;rw[if_pos hj]
 rw[hN]at hM;clear hN hG g1 h3 hj
 replace vP:=fun k x=>vP k x xM
 generalize lW p=B at*;obtain⟨ba,be⟩:=B;simp only[]at uT IZ c5;subst IZ;by_cases g2:(bZ p).2=0
 case neg=>
  rw[if_neg g2]at hM;subst hM;obtain⟨⟨js,jc,jh,jt,jf,jz⟩,l⟩:=s;unfold dG at*;simp only[]at*;generalize bZ p=R at*;obtain⟨⟨n,i,pp,ps,pl⟩,e⟩:=R;clear gG GZ wP vP c5 c6 hJ uT;refine aD ?_;exact aC
 rw[if_pos g2]at hM;rw[g2]at c2 c5;have c4:=P9 s.aR (bZ p).1.number xM hl;generalize bZ p=R at*;obtain⟨⟨n,pi,pp,ps,pl⟩,e⟩:=R;simp only[]at*;subst g2;by_cases g3:nW s.aR n=true
 case neg=>
  rw[if_neg g3]at hM;have xW:nW s.aR n=false:=by simpa using g3
  rw[xW]at c4;clear g3 xW wP GZ gG mM c6;generalize bT s.aR n=i at*;by_cases g4:1024<=s.aR.length
  ·rw[if_pos g4]at hM
   subst hM;have Bs:(1024:Int)<=s.aR.length:=by omega
   obtain⟨⟨js,jc,jh,jt,jf,jz⟩,l⟩:=s;unfold dG eZ at*;simp only[]at*;clear vP uT c5;refine aD ?_;exact aC
  ·rw[if_neg g4]at hM
   have Bs:¬(1024:Int)<=s.aR.length:=by omega
   have c7:=LD ba [s.j.first+s.j.b8.length] false uT.bS uT.seen (fun x hx=>(uT.one x hx).1) (by simp)
   have c8:=vP 1 (iT ba [s.j.first+s.j.b8.length] false)
   have wQ:aA bD [s.j.first+(s.j.b8.length:Int)]=[[zV (s.j.first+(s.j.b8.length:Int))]]:=rfl
   rw[wQ]at c7;rw[hM]at c8;clear vP uT hM wQ;obtain⟨⟨⟨ks,kc,kh,kt,kf,kz⟩,kl⟩,ko,ke⟩:=M;rw[iK]at c7 c8;unfold iT at c7 c8;obtain⟨⟨js,jc,jh,jt,jf,jz⟩,l⟩:=s;obtain⟨bn,bp,bs,bh,bz⟩:=ba;unfold dG eZ iZ at*;simp only[]at*;generalize jf+(jz.length:Int)=N at*;clear g4;refine aD ?_;refine J0 ?_;refine aD ?_;exact aC
 ·rw[if_pos g3]at hM
  obtain⟨hi,-⟩:=yR g3;rw[g3]at c4;clear g3 c5 uT;generalize bT s.aR n=i at*;have k8:=BR s.aR i hi;have hx:=gG _ (cQ aY hi);have DO:=Bq (mM _ (cQ aY hi));generalize s.aR.getD i aY=x at*;have c7:=L4 x;have c8:=wP x hx;have xZ:=GZ x hx;have c9:=aa8 (iA (bF x) p).1 (bF x) xZ.bS hx.bF.bS xZ.seen hx.bF.seen (fun y hy=>(xZ.one y hy).2) (fun y hy=>(hx.bF.one y hy).2)
  have DP:=ZE x.records DO (by have:=hx.records;omega)
  have uU:=fun hr=>LD (iA (bF x) p).1 (x.records++[s.j.first+s.j.b8.length]) x.closed xZ.bS xZ.seen (fun x hx=>(xZ.one x hx).1) hr
  have sL:=vP 1 (iT (iA (bF x) p).1 (x.records++[s.j.first+s.j.b8.length]) x.closed)
  have iR:=hx.records
  replace uU:=uU (by rw[bP];simp only[dK,fJ];have:=hx.records;omega)
  clear wP GZ vP gG mM hx xZ DO;generalize iA (bF x) p=A at*;obtain⟨aa,ae⟩:=A;simp only[]at*;by_cases g5:ae=0
  case neg=>
   rw[if_neg g5]at hM;subst hM;obtain⟨⟨js,jc,jh,jt,jf,jz⟩,l⟩:=s;obtain⟨xn,xp,xs,xh,xe,xr,xc⟩:=x;obtain⟨bn,bp,bs,bh,bz⟩:=aa;rw[iK]at*;unfold dG eZ iZ bF at*;simp only[]at*;clear c6 c9 DP uU sL;refine aD ?_;exact aC
  rw[if_pos g5]at hM;subst g5;by_cases g6:aa=bF x
  ·rw[if_pos g6]at hM
   subst hM;rw[decide_eq_true g6]at c9;subst g6;obtain⟨⟨js,jc,jh,jt,jf,jz⟩,l⟩:=s;obtain⟨xn,xp,xs,xh,xe,xr,xc⟩:=x;rw[iK]at*;unfold dG eZ iZ bF at*;simp only[]at*;clear DP uU sL;refine aD ?_;exact aC
  ·rw[if_neg g6]at hM
   rw[decide_eq_false g6]at c9;rw[hM]at sL;clear g6 hM;obtain⟨⟨⟨ks,kc,kh,kt,kf,kz⟩,kl⟩,ko,ke⟩:=M;rw[iK]at uU sL;unfold iT at uU sL;obtain⟨⟨js,jc,jh,jt,jf,jz⟩,l⟩:=s;obtain⟨xn,xp,xs,xh,xe,xr,xc⟩:=x;obtain⟨bn,bp,bs,bh,bz⟩:=aa;rw[iK]at c7 k8;unfold dG eZ iZ bF at*;simp only[]at*;generalize jf+(jz.length:Int)=N at*;have iI:(xr++[N]).take (xr.length+1)=xr++[N]:=eD (by simp)
   clear c6;refine aD ?_;refine J0 ?_;refine aD ?_;exact aC
theorem wR(n:Int):∀x∈aQ n,aV x:=by unfold aQ;exact aS6 _
theorem Ku(s:cX)(n:Int)(hs:rA s):PC 30 [.agg (dG s),zV n] (.aU [.agg (dG (mT s n).1),.snap (aA bJ (mT s n).2.1),zV (mT s n).2.2]):=by
 refine bI Tryz.func30 Tryz.ntmps30 (by simp only[go_sem,dG]) ?_
 have c1:=PA s hs;have c6:=ad0 s hs;have hJ:=Ao s.j hs.b8;have Kv:(aQ n).length<=100000:=by have:=yL n;omega
 have vP:=fun x xM=>ad1 s 2 (aQ n) x hs xM (wR n) Kv
 have hG:= @BV s;have gG:=hs.one;have hl:=hs.aR;have c3:=TV n;rw[pW]at c3;obtain⟨M,hM⟩:∃M,mT s n=M:=⟨_,rfl⟩;rw[hM];unfold mT at hM;clear hs;by_cases g1:mK s=0
 case neg=>
  rw[if_neg g1]at hM;subst hM;obtain⟨⟨js,jc,jh,jt,jf,jz⟩,l⟩:=s;unfold dG at*;simp only[]at*;generalize mK ⟨⟨js,jc,jh,jt,jf,jz⟩,l⟩=e at*;clear hG gG vP c3 c6 hJ;refine aD ?_;exact aC
 rw[if_pos g1]at hM;rw[g1]at c1;obtain⟨hj,-,h3⟩:=hG g1;have xM:=Jo h3;have mM:=ET s.j _ _ _ h3;rw[if_pos hj]at hJ;have hN:jN s.j=s.j.first+s.j.b8.length:=by unfold jN;rw[if_pos hj]
 rw[hN]at hM;clear hN hG g1 h3 hj
 replace vP:=fun x=>vP x xM
 have c4:=P9 s.aR n xM hl;by_cases g3:nW s.aR n=true
 case neg=>
  rw[if_neg g3]at hM;have xW:nW s.aR n=false:=by simpa using g3
  rw[xW]at c4;subst hM;clear g3 xW gG mM c3 c6 vP;generalize bT s.aR n=i at*;obtain⟨⟨js,jc,jh,jt,jf,jz⟩,l⟩:=s;unfold dG eZ at*;simp only[]at*;refine aD ?_;exact aC
 rw[if_pos g3]at hM;obtain⟨hi,-⟩:=yR g3;rw[g3]at c4;clear g3;generalize bT s.aR n=i at*;have k8:=BR s.aR i hi;have hx:=gG _ (cQ aY hi);have DO:=Bq (mM _ (cQ aY hi));generalize s.aR.getD i aY=x at*;by_cases g4:x.closed=true
 ·rw[if_pos g4]at hM
  subst hM;obtain⟨⟨js,jc,jh,jt,jf,jz⟩,l⟩:=s;obtain⟨xn,xp,xs,xh,xe,xr,xc⟩:=x;rw[iK]at*;unfold dG eZ at*;simp only[]at*;subst g4;clear vP gG mM c3;refine aD ?_;exact aC
 rw[if_neg g4]at hM;have Bs:x.closed=false:=by simpa using g4
 have c7:=L4 x;have c8:=Ap (bF x) hx.bF;have DP:=ZE x.records DO (by have:=hx.records;omega)
 have uU:=LD (bF x) (x.records++[s.j.first+s.j.b8.length]) true hx.bF.bS hx.bF.seen (fun y hy=>(hx.bF.one y hy).1) (by rw[bP];simp only[dK,fJ];have:=hx.records;omega)
 have sL:=vP (iT (bF x) (x.records++[s.j.first+s.j.b8.length]) true)
 have iR:=hx.records;clear vP gG mM hx DO c6 g4;generalize rM (bF x)=cy at*;obtain⟨⟨cb,cn,ct,cp,cw⟩,ce⟩:=cy;unfold mI at c8;simp only[]at*;by_cases g5:ce=0
 case neg=>
  rw[if_neg g5]at hM;subst hM;obtain⟨⟨js,jc,jh,jt,jf,jz⟩,l⟩:=s;obtain⟨xn,xp,xs,xh,xe,xr,xc⟩:=x;rw[iK]at k8 c7;unfold dG eZ iZ bF at*;simp only[]at*;subst Bs;clear c3 DP uU sL;refine aD ?_;exact aC
 rw[if_pos g5]at hM;subst g5;rw[hM]at sL;clear hM;obtain⟨⟨⟨ks,kc,kh,kt,kf,kz⟩,kl⟩,ko,ke⟩:=M;rw[iK]at uU sL;unfold iT at uU sL;obtain⟨⟨js,jc,jh,jt,jf,jz⟩,l⟩:=s;obtain⟨xn,xp,xs,xh,xe,xr,xc⟩:=x;rw[iK]at c7 k8;unfold dG eZ iZ bF at*;simp only[]at*;subst Bs;generalize jf+(jz.length:Int)=N at*;have iI:(xr++[N]).take (xr.length+1)=xr++[N]:=eD (by simp)
 have htv:(aQ n).take (aQ n).length=aQ n:=lI;generalize aQ n=V at*;refine aD ?_;refine J0 ?_;refine aD ?_;exact aC
structure F3(x:aW):Prop where
 bF:EZ (bF x)
 records:x.records.length<=100000
theorem GQ.l2{x:aW}(h:GQ x):F3 x:=⟨h.bF.ok,h.records⟩
theorem VT{j:Jr}{x:aW}(h:nU j x=true):x.records.length<=65537:=by
 unfold nU at h;split at h
 ·rename_i g
  obtain⟨-,-,-,p,-,-,-,q,-⟩:=Yp g;split at h
  ·exact absurd h (by decide)
  ·split at h
   ·exact absurd h (by decide)
   ·split at h
    ·have h2:x.records.length=tU x:=by simpa using h
     have h3:vL x<=x.seen.length:=KB _ _;have h4:(x.seen.length:Int)=(bF x).parts:=q;rw[h2];unfold tU;split<;>omega
    ·exact absurd h (by decide)
 ·exact absurd h (by decide)
theorem LO(l:List aW)(x:aW):(lP l x).length<=l.length+1:=by
 have:=Ar l x.number;unfold lP;split
 ·rw[BD];omega
 ·rw[bP,dK,cU,eF];omega
theorem VU{l:List aW}{x y:aW}(h:y∈lP l x):y=x\/y∈l:=by
 unfold lP at h;split at h
 ·rcases O4 h with h|h
  ·exact .inr h
  ·exact .inl h
 ·rcases lS.1 h with h|h
  ·exact .inr (oS h)
  ·rcases cG.1 h with h|h
   ·exact .inl h
   ·exact .inr (lJ h)
theorem bl5{j:Jr}{k:Int}{p:List Int}:(kD j k p).1.b8.length<=j.b8.length+1:=by
 unfold kD;split
 ·split
  ·split
   ·simp[j9]
   ·split
    ·simp[j9]
    ·simp
  ·simp[j9]
 ·simp[j9]
theorem ad3(l:List Int)(hl:l.length<=1000000):PC 32 [.snap (aA bD l),.snap (aA bD l)] (bV true):=by
 refine bI Tryz.func32 Tryz.ntmps32 (.c _) ?_;have hg:=gI l;obtain⟨d,dx⟩:=l8 l.length;refine aD ?_;refine zS l.length 0 [] (fun k=> [(13,true,zV k),(12,true,zV l.length),(0,true,.snap (aA bD l)),(1,true,.snap (aA bD l))]) aT (fun k m bG hm=> ?_) (fun m hm=> ?_)
 ·have fD:=hg k bG
  clear hg d dx;generalize l.getD k 0=v at*;obtain⟨d,dx⟩:=l8 v;refine aD ?_;refine⟨m+200,by omega,aT⟩
 ·clear hg
  refine aD ?_;exact aC
theorem bl6(l:List eW)(hl:l.length<=1000000)(hs:∀o∈l,o.2.2.length<=1000000):PC 82 [.snap (aA bJ l),.snap (aA bJ l)] (bV true):=by
 refine bI Tryz.func82 Tryz.ntmps82 (.c _) ?_;have hc:∀k,k<l.length->PC 45 [.snap (aA aS (l.getD k (0,0,[])).2.2),.snap (aA aS (l.getD k (0,0,[])).2.2)] (bV true):=fun k hk=>aY6 _ (hs _ (cQ (0,0,[]) hk))
 clear hs;have hg:=Zf l
 replace hc:=bB.mk hc
 obtain⟨d5,d5x⟩:=l8 l.length;refine aD ?_;refine zS l.length 0 [] (fun k=> [(5,true,zV k),(0,true,.snap (aA bJ l)),(1,true,.snap (aA bJ l))]) aT (fun k m bG hm=> ?_) (fun m hm=> ?_)
 ·have fD:=hg k bG
  have c2:=hc.out k bG;clear hg hc;generalize l.getD k (0,0,[])=x at*;obtain⟨v,a,d⟩:=x;rw[Av]at fD;simp only[]at*;obtain⟨d1,vO⟩:=l8 v;obtain⟨d2,EW⟩:=l8 a;refine aD ?_;refine⟨m+200,by omega,aT⟩
 ·clear hg hc
  refine aD ?_;exact aC
theorem bl7(c:jJ)(hp:c.pos.length<=1000000)(hl:c.writes.length<=1000000)(hs:∀o∈c.writes,o.2.2.length<=1000000):PC 33 [.agg (mI c),.agg (mI c)] (bV true):=by
 refine bI Tryz.func33 Tryz.ntmps33 (.c _) ?_;have c1:=aY5 c.pos hp;have c2:=bl6 c.writes hl hs;clear hp hl hs;obtain⟨cb,cn,ct,cp,cw⟩:=c;unfold mI;simp only[]at*;obtain⟨d1,vO⟩:=l8 cb;obtain⟨d2,EW⟩:=l8 cn;obtain⟨d3,PI⟩:=l8 ct;refine aD ?_;exact aC
end Go.Proofs.YtioafciifiggaaaGreatDoor
