/- Staging. No condition. -/
import Derived.Test.YtioafciifiggaaaGreatDoorL0
import Derived.Test.YtioafciifiggaaaGreatDoorAza
import Derived.Test.YtioafciifiggaaaGreatDoorAw
import Derived.Test.YtioafciifiggaaaGreatDoorAy
set_option linter.all false
namespace Go.Proofs.YtioafciifiggaaaGreatDoor
open Go.Proofs Go.AL
set_option maxRecDepth 100000
set_option maxHeartbeats 8000000
attribute [local irreducible] cB AW aX cZ dK hold
attribute [local irreducible] eV
structure AP(a:mO):Prop where
 cI:a.cI.length<=100000
 seen:a.seen.length<=100000
 one:∀x∈a.cI,x.length<=100000/\∀y∈x,aV y
theorem I0.ok{a:mO}(h:I0 a):AP a:=⟨h.cI,h.seen,h.one⟩
theorem WG{a:mO}{b:List Int}(h:AP a)(hb:∀x∈b,aV x):AP (kG a b).1:=by
 have h0:AP lX:=⟨by simp[lX],by simp[lX],fun x hx=>by simp[lX]at hx⟩
 have cK:=FG hb;unfold kG;split
 ·split
  ·rename_i g
   obtain⟨-,-,-,-,-,-,-,-,h9,cO,-⟩:=cK g;split
   ·split
    ·split
     ·exact h0
     ·refine⟨by simp only[KY];exact h.cI,by simp only[KY];exact h.seen,fun x hx=> ?_⟩
      simp only[]at hx;rcases TX hx with h1|h1
      ·exact h.one x h1
      ·subst h1
       exact⟨by omega,cO⟩
    ·exact h0
   ·exact h0
  ·exact h0
 ·exact h0
theorem WH{b:List Int}(hb:∀x∈b,aV x):AP (qF b).1:=by
 have h0:AP lX:=⟨by simp[lX],by simp[lX],fun x hx=>by simp[lX]at hx⟩
 have cK:=FG hb;unfold qF;split
 ·rename_i g
  obtain⟨-,-,-,-,h5,-,-,-,h9,cO,-⟩:=cK g;refine⟨by simp only[KY,BO];omega,by simp only[KY,BO];omega,fun x hx=> ?_⟩
  simp only[]at hx;rcases TX hx with h1|h1
  ·rw[(Yj.1 h1).2]
   exact⟨by simp,fun y hy=>by simp at hy⟩
  ·subst h1
   exact⟨by omega,cO⟩
 ·exact h0
theorem Cm(b:List Int):(qF b).2=(bM b).2:=by
 unfold qF;split
 ·rename_i h;exact h.symm
 ·rfl
theorem Pe{j:Jr}{x:bI}(h:uR j x=true):x.records≠[]:=fun he=>by
 unfold uR at h;split at h
 ·split at h
  ·exact absurd h (by decide)
  ·rename_i g
   split at h
   ·exact absurd h (by decide)
   ·split at h
    ·rw[he]at h
     have:0=VH x:=by simpa using h
     unfold VH at this;split at this<;>omega
    ·exact absurd h (by decide)
 ·exact absurd h (by decide)
theorem Cn(s:l8)(p:List Int)(hs:xI s)(hp:∀x∈p,aV x)(j9:p.length<=100000):PC 29 [.agg (fO s),.snap (aA aH p)] (.aR [.agg (fO (wF s p).1),.snap (aA bC (wF s p).2.1),zV (wF s p).2.2]):=by
 refine aT Tryz.func29 Tryz.ntmps29 (by simp only[go_sem,fO]) ?_
 have c1:=VL s hs;have c2:=Ao p hp j9;have c5:=Me p hp j9;have c6:=Pc s hs;have pE:=WH hp;have uG:=Cm p;have hJ:=Ax s.j hs.cD;have DN:∀(x:bI),FI x->AP (kG (bF x) p).1:=fun x hx=>WG hx.bF.ok hp
 have DO:=fun(x:bI) (hx:FI x)=>Oj (bF x) p hx.bF hp j9
 have sY:=fun k x zC=>Pd s k p x hs zC hp j9
 have hG:= @Bj s;have eM:=hs.one;have hl:=hs.cN;have QQ:fO nI=[zV 0,zV 0,zV 0,zV 0,zV 0,.snap (aA bA []),.snap (aA cG [])]:=rfl;obtain⟨M,hM⟩:∃M,wF s p=M:=⟨_,rfl⟩;rw[hM];unfold wF at hM;clear hs;by_cases g1:s7 s=0
 case neg=>
  rw[if_neg g1]at hM;subst hM;obtain⟨⟨js,jc,jh,jt,jf,jz⟩,l⟩:=s;unfold fO at*;simp only[]at*;generalize s7 ⟨⟨js,jc,jh,jt,jf,jz⟩,l⟩=e at*;clear hG eM DN DO sY c2 c5 c6 hJ pE uG;refine aE ?_;exact aB
 rw[if_pos g1]at hM;rw[g1]at c1;obtain⟨hj,-,h3⟩:=hG g1;have zC:=Bg h3;have wB:=Bh s.j _ _ _ h3;rw[if_pos hj]at hJ;have hN:jN s.j=s.j.first+s.j.cD.length:=by unfold jN;rw[if_pos hj]
 rw[hN]at hM;clear hN hG g1 h3 hj
 replace sY:=fun k x=>sY k x zC
 generalize qF p=B at*;obtain⟨ba,be⟩:=B;simp only[]at pE uG c5;subst uG;by_cases g2:(bM p).2=0
 case neg=>
  rw[if_neg g2]at hM;subst hM;obtain⟨⟨js,jc,jh,jt,jf,jz⟩,l⟩:=s;unfold fO at*;simp only[]at*;generalize bM p=R at*;obtain⟨⟨n,i,pp,ps,pl⟩,e⟩:=R;clear eM DN DO sY c5 c6 hJ pE;refine aE ?_;exact aB
 rw[if_pos g2]at hM;rw[g2]at c2 c5;have c4:=LP s.cN (bM p).1.number zC hl;generalize bM p=R at*;obtain⟨⟨n,pi,pp,ps,pl⟩,e⟩:=R;simp only[]at*;subst g2;by_cases g3:iW s.cN n=true
 case neg=>
  rw[if_neg g3]at hM;have uO:iW s.cN n=false:=by simpa using g3
  rw[uO]at c4;clear g3 uO DO DN eM wB c6;generalize bE s.cN n=i at*;by_cases g4:1024<=s.cN.length
  ·rw[if_pos g4]at hM
   subst hM;have WI:(1024:Int)<=s.cN.length:=by omega
   obtain⟨⟨js,jc,jh,jt,jf,jz⟩,l⟩:=s;unfold fO eG at*;simp only[]at*;clear sY pE c5;refine aE ?_;exact aB
  ·rw[if_neg g4]at hM
   have WI:¬(1024:Int)<=s.cN.length:=by omega
   have c7:=ID ba [s.j.first+s.j.cD.length] false pE.cI pE.seen (fun x hx=>(pE.one x hx).1) (by simp)
   have c8:=sY 1 (jT ba [s.j.first+s.j.cD.length] false)
   have pF:aA bA [s.j.first+(s.j.cD.length:Int)]=[[zV (s.j.first+(s.j.cD.length:Int))]]:=rfl
   rw[pF]at c7;rw[hM]at c8;clear sY pE hM pF;obtain⟨⟨⟨ks,kc,kh,kt,kf,kz⟩,kl⟩,ko,ke⟩:=M;rw[iP]at c7 c8;unfold jT at c7 c8;obtain⟨⟨js,jc,jh,jt,jf,jz⟩,l⟩:=s;obtain⟨bn,bp,bs,bh,bz⟩:=ba;unfold fO eG eL at*;simp only[]at*;generalize jf+(jz.length:Int)=N at*;clear g4;refine aE ?_;refine xL ?_;refine aE ?_;exact aB
 ·rw[if_pos g3]at hM
  obtain⟨hi,-⟩:=yZ g3;rw[g3]at c4;clear g3 c5 pE;generalize bE s.cN n=i at*;have iE:=uP s.cN i hi;have hx:=eM _ (dC b8 hi);have AQ:=Pe (wB _ (dC b8 hi));generalize s.cN.getD i b8=x at*;have c7:=I1 x;have c8:=DO x hx;have qJ:=DN x hx;have c9:=Of (kG (bF x) p).1 (bF x) qJ.cI hx.bF.cI qJ.seen hx.bF.seen (fun y hy=>(qJ.one y hy).2) (fun y hy=>(hx.bF.one y hy).2)
  have v8:=UL x.records AQ (by have:=hx.records;omega)
  have nK:=fun hr=>ID (kG (bF x) p).1 (x.records++[s.j.first+s.j.cD.length]) x.closed qJ.cI qJ.seen (fun x hx=>(qJ.one x hx).1) hr
  have mD:=sY 1 (jT (kG (bF x) p).1 (x.records++[s.j.first+s.j.cD.length]) x.closed)
  have gH:=hx.records
  replace nK:=nK (by rw[cP];simp only[eI,gL];have:=hx.records;omega)
  clear DO DN sY eM wB hx qJ AQ;generalize kG (bF x) p=A at*;obtain⟨aa,ae⟩:=A;simp only[]at*;by_cases g5:ae=0
  case neg=>
   rw[if_neg g5]at hM;subst hM;obtain⟨⟨js,jc,jh,jt,jf,jz⟩,l⟩:=s;obtain⟨xn,xp,xs,xh,xe,xr,xc⟩:=x;obtain⟨bn,bp,bs,bh,bz⟩:=aa;rw[iP]at*;unfold fO eG eL bF at*;simp only[]at*;clear c6 c9 v8 nK mD;refine aE ?_;exact aB
  rw[if_pos g5]at hM;subst g5;by_cases g6:aa=bF x
  ·rw[if_pos g6]at hM
   subst hM;rw[decide_eq_true g6]at c9;subst g6;obtain⟨⟨js,jc,jh,jt,jf,jz⟩,l⟩:=s;obtain⟨xn,xp,xs,xh,xe,xr,xc⟩:=x;rw[iP]at*;unfold fO eG eL bF at*;simp only[]at*;clear v8 nK mD;refine aE ?_;exact aB
  ·rw[if_neg g6]at hM
   rw[decide_eq_false g6]at c9;rw[hM]at mD;clear g6 hM;obtain⟨⟨⟨ks,kc,kh,kt,kf,kz⟩,kl⟩,ko,ke⟩:=M;rw[iP]at nK mD;unfold jT at nK mD;obtain⟨⟨js,jc,jh,jt,jf,jz⟩,l⟩:=s;obtain⟨xn,xp,xs,xh,xe,xr,xc⟩:=x;obtain⟨bn,bp,bs,bh,bz⟩:=aa;rw[iP]at c7 iE;unfold fO eG eL bF at*;simp only[]at*;generalize jf+(jz.length:Int)=N at*;have iD:(xr++[N]).take (xr.length+1)=xr++[N]:=cR (by simp)
   clear c6;refine aE ?_;refine xL ?_;refine aE ?_;exact aB
theorem ax1(n:Int):∀x∈b9 n,aV x:=by unfold b9;exact ag7 _
theorem Pf(s:l8)(n:Int)(hs:xI s):PC 30 [.agg (fO s),zV n] (.aR [.agg (fO (xR s n).1),.snap (aA bC (xR s n).2.1),zV (xR s n).2.2]):=by
 refine aT Tryz.func30 Tryz.ntmps30 (by simp only[go_sem,fO]) ?_
 have c1:=VL s hs;have c6:=Pc s hs;have hJ:=Ax s.j hs.cD;have Co:(b9 n).length<=100000:=by have:=rU n;omega
 have sY:=fun x zC=>Pd s 2 (b9 n) x hs zC (ax1 n) Co
 have hG:= @Bj s;have eM:=hs.one;have hl:=hs.cN;have c3:=PQ n;rw[x8]at c3;obtain⟨M,hM⟩:∃M,xR s n=M:=⟨_,rfl⟩;rw[hM];unfold xR at hM;clear hs;by_cases g1:s7 s=0
 case neg=>
  rw[if_neg g1]at hM;subst hM;obtain⟨⟨js,jc,jh,jt,jf,jz⟩,l⟩:=s;unfold fO at*;simp only[]at*;generalize s7 ⟨⟨js,jc,jh,jt,jf,jz⟩,l⟩=e at*;clear hG eM sY c3 c6 hJ;refine aE ?_;exact aB
 rw[if_pos g1]at hM;rw[g1]at c1;obtain⟨hj,-,h3⟩:=hG g1;have zC:=Bg h3;have wB:=Bh s.j _ _ _ h3;rw[if_pos hj]at hJ;have hN:jN s.j=s.j.first+s.j.cD.length:=by unfold jN;rw[if_pos hj]
 rw[hN]at hM;clear hN hG g1 h3 hj
 replace sY:=fun x=>sY x zC
 have c4:=LP s.cN n zC hl;by_cases g3:iW s.cN n=true
 case neg=>
  rw[if_neg g3]at hM;have uO:iW s.cN n=false:=by simpa using g3
  rw[uO]at c4;subst hM;clear g3 uO eM wB c3 c6 sY;generalize bE s.cN n=i at*;obtain⟨⟨js,jc,jh,jt,jf,jz⟩,l⟩:=s;unfold fO eG at*;simp only[]at*;refine aE ?_;exact aB
 rw[if_pos g3]at hM;obtain⟨hi,-⟩:=yZ g3;rw[g3]at c4;clear g3;generalize bE s.cN n=i at*;have iE:=uP s.cN i hi;have hx:=eM _ (dC b8 hi);have AQ:=Pe (wB _ (dC b8 hi));generalize s.cN.getD i b8=x at*;by_cases g4:x.closed=true
 ·rw[if_pos g4]at hM
  subst hM;obtain⟨⟨js,jc,jh,jt,jf,jz⟩,l⟩:=s;obtain⟨xn,xp,xs,xh,xe,xr,xc⟩:=x;rw[iP]at*;unfold fO eG at*;simp only[]at*;subst g4;clear sY eM wB c3;refine aE ?_;exact aB
 rw[if_neg g4]at hM;have WI:x.closed=false:=by simpa using g4
 have c7:=I1 x;have c8:=VE (bF x) hx.bF;have v8:=UL x.records AQ (by have:=hx.records;omega)
 have nK:=ID (bF x) (x.records++[s.j.first+s.j.cD.length]) true hx.bF.cI hx.bF.seen (fun y hy=>(hx.bF.one y hy).1) (by rw[cP];simp only[eI,gL];have:=hx.records;omega)
 have mD:=sY (jT (bF x) (x.records++[s.j.first+s.j.cD.length]) true)
 have gH:=hx.records;clear sY eM wB hx AQ c6 g4;generalize oA (bF x)=cy at*;obtain⟨⟨cb,cn,ct,cp,cw⟩,ce⟩:=cy;unfold gT at c8;simp only[]at*;by_cases g5:ce=0
 case neg=>
  rw[if_neg g5]at hM;subst hM;obtain⟨⟨js,jc,jh,jt,jf,jz⟩,l⟩:=s;obtain⟨xn,xp,xs,xh,xe,xr,xc⟩:=x;rw[iP]at iE c7;unfold fO eG eL bF at*;simp only[]at*;subst WI;clear c3 v8 nK mD;refine aE ?_;exact aB
 rw[if_pos g5]at hM;subst g5;rw[hM]at mD;clear hM;obtain⟨⟨⟨ks,kc,kh,kt,kf,kz⟩,kl⟩,ko,ke⟩:=M;rw[iP]at nK mD;unfold jT at nK mD;obtain⟨⟨js,jc,jh,jt,jf,jz⟩,l⟩:=s;obtain⟨xn,xp,xs,xh,xe,xr,xc⟩:=x;rw[iP]at c7 iE;unfold fO eG eL bF at*;simp only[]at*;subst WI;generalize jf+(jz.length:Int)=N at*;have iD:(xr++[N]).take (xr.length+1)=xr++[N]:=cR (by simp)
 have htv:(b9 n).take (b9 n).length=b9 n:=l4;generalize b9 n=V at*;refine aE ?_;refine xL ?_;refine aE ?_;exact aB
end Go.Proofs.YtioafciifiggaaaGreatDoor
namespace Go.Proofs.YtioafciifiggaaaGreatDoor
open Go.Proofs Go.AL
set_option maxRecDepth 100000
set_option maxHeartbeats 8000000
attribute [local irreducible] cB AW aX cZ dK hold
attribute [local irreducible] eV lO
theorem WJ{h:List (List Int)}{j dd:Nat}(hj:j<h.length):IJ dd (aA aH (h.getD j [])) ((lO h j).set j [.own dd 0 (h.getD j []).length]) (lO h (j+1)):=by
 have hl:=IG (h:=h) (k:=j) (by omega)
 have:=Cd (dd:=dd) (n:=(h.getD j []).length) (j:=j) (A:=(lO h j).set j [.own dd 0 (h.getD j []).length]) (rows:=aA aH (h.getD j [])) (U9 (by omega)) (by rw[fZ])
 rw[List.set_set,Cc hj]at this;exact this
end Go.Proofs.YtioafciifiggaaaGreatDoor
