/- Staging. No condition. -/
import Derived.Test.YtioafciifiggaaaGreatDoorL0
import Derived.Test.YtioafciifiggaaaGreatDoorAx
import Derived.Test.YtioafciifiggaaaGreatDoorAw
import Derived.Test.YtioafciifiggaaaGreatDoorAv
import Derived.Test.YtioafciifiggaaaGreatDoorLg
import Derived.Test.YtioafciifiggaaaGreatDoorAy
import Derived.Test.YtioafciifiggaaaGreatDoorAs
set_option linter.all false
namespace Go.Proofs.YtioafciifiggaaaGreatDoor
open Go.Proofs Go.AL
set_option maxRecDepth 100000
set_option maxHeartbeats 8000000
attribute [local irreducible] cB AW aX cZ dK hold
attribute [local irreducible] eV
theorem Ou(l:List bI)(hl:l.length<=100000)(ho:∀x∈l,FI x):PC 36 [.snap (aA cG l)] (.snap (aA cG l)):=by
 refine aT Tryz.func36 Tryz.ntmps36 (iJ _) ?_;have hg:=uP l
 replace ho:=aU.mk ho
 refine aE ?_;refine dP (α:=Nat) l.length (fun k id=> [(8,true,zV k),(7,true,zV l.length),(6,true,.snap (aA cG l)),(3,true,nG k id)]) (fun k id=>oB 64 7 (aA cG (l.take k)) k id) (fun k m id=>(0<k->id<m)) ⟨100,0,fun h=>absurd h (by omega),aN⟩ (fun k m id hk hR=> ?_) (fun m id hR=> ?_)
 ·have cV:=hg k hk
  have hx:=ho.out _ (dC b8 hk);have iD:=vZ b8 hk;have IE:(l.take k).length=k:=by rw[eD];omega
  have c1:=I1 (l.getD k b8);have c2:PC 73 [.agg (eL (bF (l.getD k b8))),.snap (aA bA (l.getD k b8).records),bV (l.getD k b8).closed] (.agg (cG (l.getD k b8))):=ID (bF (l.getD k b8)) (l.getD k b8).records (l.getD k b8).closed hx.bF.cI hx.bF.seen (fun y hy=>(hx.bF.one y hy).1) (by have:=hx.records;omega)
  rw[iD];clear iD hg ho hx;generalize l.take k=F at*;generalize l.getD k b8=x at*;obtain⟨n,p,s,h,e,r,c⟩:=x;rw[iP]at cV c1 c2;unfold bF eL at c1 c2;simp only[]at*;have eM:aA cG ([]++[⟨n,p,s,h,e,r,c⟩])=[[zV n,zV p,zV s,.snap (aA bW h),.snap (aA cM e),.snap (aA bA r),bV c]]:=rfl;cases k with
  |zero=>
   have gJ:F=[]:=fI IE;subst gJ;clear hR IE;refine aE ?_;exact⟨m+40,m+1+1+9,fun _=>by omega,aN⟩
  |succ q=>
   have i2:=hR (by omega)
   clear hR eM;refine aE ?_;exact⟨m+40,m+1+1+9,fun _=>by omega,aN⟩
 ·rw[l4]
  clear hg ho;cases hh:l.length with
  |zero=>
   have Bx:l=[]:=fI hh;subst Bx;clear hR hh;refine aE ?_;exact aB
  |succ q=>
   have i2:=hR (by omega)
   have iD:l.take (q+1)=l:=cR (by omega)
   clear hR;refine aE ?_;exact aB
theorem Ch(l:List bI)(x:bI)(hs:DG l)(hl:l.length<=100000):PC 149 [.snap (aA cG l),.agg (cG x)] (.snap (aA cG (pD l x))):=by
 have c1:=LP l x.number hs hl;by_cases aM:l=[]
 ·subst aM
  have hp:pD [] x=[x]:=rfl;have Ov:bE [] x.number=0:=rfl;have Ow:iW [] x.number=false:=rfl;rw[hp];rw[Ov,Ow]at c1;clear hp Ov Ow hs hl;obtain⟨n,p,s,h,e,r,c⟩:=x;refine fD.nil (pre:=[]) (post:=[.agg (cG ⟨n,p,s,h,e,r,c⟩)]) fun a cap=> ?_
  show PC 149 [.c (.slice a 0 cap),.agg (cG ⟨n,p,s,h,e,r,c⟩)] _
  refine aT Tryz.func149 Tryz.ntmps149 (iJ _) ?_;have eM:aA cG [⟨n,p,s,h,e,r,c⟩]=[[zV n,zV p,zV s,.snap (aA bW h),.snap (aA cM e),.snap (aA bA r),bV c]]:=rfl;rw[eM];rw[iP];simp only[]at*
  have c2:PC 70 [.c (.slice a 0 cap),zV n] (.aR [zV 0,bV false]):=fD.less c1 (by
   refine iO .nil (UR _))
  clear c1;have hz:((0:Nat):Int)=0:=rfl;refine aE ?_;refine nS Tryz.func199 Tryz.ntmps199 ?_;cases a with
  |none=>
   refine aE ?_;refine nS Tryz.func200 Tryz.ntmps200 ?_
   (repeat (first|refine Ci (p:=_) ?_ uC uS rfl rfl rfl (by(first|rfl|decide)) (by(exact aJ))|refine LK ?_))
   exact aB
  |some a=>
   refine aE ?_;refine nS Tryz.func200 Tryz.ntmps200 ?_
   (repeat (first|refine Ci (p:=_) ?_ uC uS rfl rfl rfl (by(first|rfl|decide)) (by(exact aJ))|refine LK ?_))
   exact aB
 ·refine aT Tryz.func149 Tryz.ntmps149 (iJ _) ?_
  have c2:=au8 l aM (by omega)
  have hle:=LO l x.number;have bG:=fun h=>(yZ (l:=l) (n:=x.number) h).1
  obtain⟨R,hR⟩:∃R,pD l x=R:=⟨_,rfl⟩;rw[hR];unfold pD at hR;generalize bE l x.number=i at*;generalize iW l x.number=fb at*;clear hs;have jD:(aA cG l).set i (cG x)=aA cG (l.set i x):=EY l i x
  have M3:FK (aA cG l) i (cG x)=aA cG (l.take i++x::l.drop i):=by
   unfold FK;rw[ZI,ZE,aw5,FU,FU];simp
  have eT:(aA cG l).all (fun r=>r.length==7&&r.all AV.one)=true:=Cj l
  have QZ:([cG x]).all (fun r=>r.length==7&&r.all AV.one)=true:=Cj (f:=cG) [x]
  have pB:i=l.length->aA cG l++[cG x]=aA cG (l.take i++x::l.drop i):=fun h=>by rw[h,l4,wZ];exact nR l x
  have Ox:(aA cG l).length=l.length:=fZ l;have gG:(∀row,row∈aA cG l->∀x,x∈row->bJ x)=True:=eq_true (mN l);obtain⟨n,p,s,h,e,r,c⟩:=x;rw[iP]at jD M3 QZ pB⊢;simp only[]at*;cases fb with
  |true=>
   have hi:=bG rfl;rw[if_pos rfl]at hR;rw[hR]at jD;have iE:=uP l i hi;rw[iP]at iE;clear M3 eT QZ pB bG hle hR;have hEr:(aA cG R).length=l.length:=by rw[<-jD,KY,Ox]
   have Oy:(∀row,row∈aA cG R->∀x,x∈row->bJ x)=True:=eq_true (mN R);have iD:(aA cG R).take l.length=aA cG R:=cR (by omega)
   generalize aA cG R=RR at*;refine aE ?_;exact aB
  |false=>
   rw[if_neg (by decide)]at hR
   rw[hR]at M3 pB;clear jD bG;rcases lU i l.length with hi|hi
   ·clear pB
    have ha:=as7 (H:=⟨3,dH [(1,some (.cells 64 7 (aA cG l) true true)),(2,some (.cells 64 7 [[zV n,zV p,zV s,.snap (aA bW h),.snap (aA cM e),.snap (aA bA r),bV c]] true true))]⟩) (id:=1) (id2:=2) (i:=i) (by decide) rfl rfl (by omega) (by omega) eT QZ
    rw[Ox,M3]at ha
    have CE:R.length=l.length+1:=by
     have h9:=congrArg List.length hR;rw[cP,eI,eD,fX]at h9;omega
    have Oy:(∀row,row∈aA cG R->∀x,x∈row->bJ x)=True:=eq_true (mN R);have iD:R.take (l.length+1)=R:=cR (by omega)
    clear M3 eT QZ hR;refine aE ?_;refine UN ha ?_;rintro r' H' ⟨rfl,rfl⟩;refine aE ?_;exact aB
   ·have zA:i=l.length:=by omega
    have pB:=pB zA
    have CE:R.length=l.length+1:=by
     have h9:=congrArg List.length hR;rw[cP,eI,eD,fX]at h9;omega
    have Oy:(∀row,row∈aA cG R->∀x,x∈row->bJ x)=True:=eq_true (mN R);have iD:R.take (l.length+1)=R:=cR (by omega)
    clear M3 eT QZ hle hi hR;subst zA;refine aE ?_;refine nS Tryz.func200 Tryz.ntmps200 ?_
    (repeat (first|refine Ci (p:=_) ?_ uC uS rfl rfl rfl (by(first|rfl|decide)) (by(exact aJ))|refine LK ?_))
    exact aB
theorem Oz(l m:List Int)(hl:l.length<=100000)(hm:m.length<=100000):PC 96 [.snap (aA bA l),.snap (aA bA m)] (.snap (aA bA (l++m))):=by
 refine aT Tryz.func96 Tryz.ntmps96 (iJ _) ?_;have he:aA bA l++aA bA m=aA bA (l++m):=FU l m;have e1:(aA bA l).length=l.length:=fZ l;have e2:(aA bA m).length=m.length:=fZ m;by_cases h:l=[]
 ·subst h
  rw[x8];by_cases h2:m=[]
  ·subst h2
   refine aD ?_;exact aB
  ·have h3:=rS h2
   refine aD ?_;exact aB
 ·have h1:=rS h
  by_cases h2:m=[]
  ·subst h2
   rw[rO];clear he e2;refine aD ?_;exact aB
  ·have h3:=rS h2
   have h4:(aA bA (l++m)).take (l.length+m.length)=aA bA (l++m):=cR (by rw[fZ,cP];exact cA _)
   refine aD ?_;exact aB
theorem Ck(a:mO)(r:List Int)(c:Bool):PC 93 [.agg (eL a),.snap (aA bA r),bV c] (.agg (cG (jT a r c))):=by
 refine aT Tryz.func93 Tryz.ntmps93 (by rw[iP];simp only[go_sem]) ?_
 obtain⟨n,p,s,h,e⟩:=a;rw[iP];unfold jT eL;simp only[];refine aE ?_;exact aB
theorem aw6{k s:Int}{p:List Int}:(wE k s p).1.length<=1100:=by
 unfold wE;split
 ·simp
 ·split
  ·simp
  ·rename_i h
   simp only[mJ,UA];have:(FN k p).length=7+p.length:=by unfold FN qI;simp only[cP,eI,I9];omega
   unfold xG;omega
theorem aw7(G:Nat->Option aI)(k:Nat)(l:List Int):(aA bA l).map (fun row=>row.map (cT G k))=aA bA l:=ZC (fun a x hx=>by simp[bA]at hx;exact⟨_,hx⟩) G k l
theorem aw8(a n p:Int)(l:List aY):(FP a n p l).length<=2:=by
 unfold FP;split<;>simp
theorem Pb(G:Nat->Option aI)(k:Nat)(W:List iC):(aA bC W++[[zV 1,zV 0,.c (.slice none 0 0)]]).map (fun row=>row.map (cT G k))=aA bC W++[[zV 1,zV 0,.c (.slice none 0 0)]]:=by
 rw[yO,ac3];cases k<;>rfl
theorem Cl(W:List iC):∀row∈aA bC W++[[zV 1,zV 0,.c (.slice none 0 0)]],∀x∈row,bJ x:=fun row hr x hx=>by
 rcases BR.1 hr with h|h
 ·exact mN W row h x hx
 ·simp only[fB,mR,or_false]at h
  subst h;simp only[fB,mR,or_false]at hx;rcases hx with rfl|rfl|rfl<;>exact .c _
theorem aw9(j:Jr)(k:Int)(p:List Int)(hl:j.cD.length<=100000)(hp:∀x∈p,aV x)(j9:p.length<=100000):PC 148 [.agg (eG j),zV k,.snap (aA aH p)] (.aR [.agg (eG (CD j k p).1),.snap (aA bC (CD j k p).2.1),zV (CD j k p).2.2]):=by
 refine uH Tryz.func148 Tryz.ntmps148 (by simp only[go_sem,eG]) ?_
 have c1:=VC j hl;obtain⟨M,hM⟩:∃M,CD j k p=M:=⟨_,rfl⟩;rw[hM];unfold CD at hM;by_cases g1:jE j=0
 case neg=>
  rw[if_neg g1]at hM;subst hM;rw[decide_eq_false g1]at c1;obtain⟨js,jc,jh,jt,jf,jz⟩:=j;unfold eG encS l7 at*;simp only[]at*;clear g1;refine aE ?_;exact aB
 rw[if_pos g1]at hM;rw[decide_eq_true g1]at c1;have hN:jN j=j.first+j.cD.length:=by unfold jN;rw[if_pos g1]
 obtain⟨hv,e1,e2,e3,e4,e5,e6,e7⟩:=VD g1;have h5:=yW hv
 have hU:jU j=j.cD.sum:=by
  unfold jU;rw[if_pos hv];have h9:=((Aw j hv).1 g1).2.1;have:=(VB (j.count-16) j.cD 0 (by omega)).2 h9
  omega
 have h4:=(VA _ (Av e7)).1;rw[hU]at c1;have c2:=Ol j j.cD.sum e3 (by omega) hl
 have c3:=aw0 k (jN j) p hp j9;have c4:=Om j j.cD.sum (by omega) (by omega) (by omega) (by omega)
 have c5:=II j.start j.count;rw[IntWalk.i64_in (j.count-16) (by omega)]at c5
 have gH:=aw6 (k:=k) (s:=jN j) (p:=p)
 have h6:0<=j.tail/\j.tail<j.count-16:=by
  rw[e5];exact⟨HG _ (by omega),KW _ (by omega)⟩
 have c6:=On j.start j.count j.tail (wE k (jN j) p).1 (by omega) (by omega) (by omega) (by omega) h6.1 h6.2 (by omega)
 simp only[hN]at hM c3 c6 gH;clear hN;generalize wE k (j.first+j.cD.length) p=E at*
 obtain⟨l,e⟩:=E;simp only[]at*;clear g1 hv e7 e5 hU hp;by_cases g2:e=0
 case neg=>
  rw[if_neg g2]at hM;subst hM;obtain⟨js,jc,jh,jt,jf,jz⟩:=j;unfold eG encS l7 at*;simp only[]at*;clear c4 c5 c6;refine aE ?_;exact aB
 rw[if_pos g2]at hM;subst g2;by_cases g3:1073741824<=j.first+(j.cD.length:Int)
 ·rw[if_pos g3]at hM
  subst hM;obtain⟨js,jc,jh,jt,jf,jz⟩:=j;unfold eG encS l7 at*;simp only[]at*;clear c4 c5 c6;refine aE ?_;exact aB
 rw[if_neg g3]at hM;by_cases g4:j.count-16-j.cD.sum<(l.length:Int)
 ·rw[if_pos g4]at hM
  subst hM;obtain⟨js,jc,jh,jt,jf,jz⟩:=j;unfold eG encS l7 at*;simp only[]at*;clear c5 c6;refine aE ?_;exact aB
 rw[if_neg g4]at hM;subst hM;obtain⟨js,jc,jh,jt,jf,jz⟩:=j;unfold eG encS at*;simp only[]at*;have zB:=aw8 js (jc-16) jt l;generalize FP js (jc-16) jt l=W at*;have yV:=ZV W;have hex:=fun G k=>Pb G k W
 have M4:(∀row,row∈aA bC W++[[zV 1,zV 0,.c (.slice none 0 0)]]->∀x,x∈row->bJ x)=True:=eq_true (Cl W);have iD:(aA bC W++[[zV 1,zV 0,.c (.slice none 0 0)]]).take (W.length+1)=aA bC W++[[zV 1,zV 0,.c (.slice none 0 0)]]:=cR (by rw[cP,fZ];exact cA _)
 by_cases M5:jz=[]
 ·subst M5
  refine aE ?_;refine nS Tryz.func86 Tryz.ntmps86 ?_;refine aE ?_;refine⟨?_,?_⟩
  ·(simp(maxSteps:=2000000) (disch:=omega) only[go_sem,eU,e8,eN,eF,false_implies,implies_true, *])
  ·(simp(maxSteps:=2000000) (disch:=omega) only[go_sem,eU,e8,eN,eF,false_implies,implies_true, *];(repeat (first|exact .refl _|exact .nil|exact sP|refine iO ?_ ?_|refine DA ?_|refine DB ?_|refine C3 ?_|exact yS|exact yV|exact PT _|refine vV ?_ ?_)))
 ·have aM:=rS M5
  have oS:=Nat.lt_of_le_of_lt (cA jz.length) (by omega:jz.length<5000)
  have R1:(∀row,row∈aA bA (jz++[(l.length:Int)])->∀x,x∈row->bJ x)=True:=eq_true (mN _);have hjt:(jz++[(l.length:Int)]).take (jz.length+1)=jz++[(l.length:Int)]:=cR (by simp)
  have hjx:=fun G k=>aw7 G k (jz++[(l.length:Int)])
  refine aE ?_;refine nS Tryz.func86 Tryz.ntmps86 ?_;refine aE ?_;refine⟨?_,?_⟩
  ·(simp(maxSteps:=2000000) (disch:=omega) only[go_sem,eU,e8,eN,eF,false_implies,implies_true, *])
  ·(simp(maxSteps:=2000000) (disch:=omega) only[go_sem,eU,e8,eN,eF,false_implies,implies_true, *];(repeat (first|exact .refl _|exact .nil|exact sP|refine iO ?_ ?_|refine DA ?_|refine DB ?_|refine C3 ?_|exact yS|exact yV|exact PT _|refine vV ?_ ?_)))
theorem Pc(s:l8)(hs:xI s):PC 77 [.agg (fO s)] (.aR [.agg (fO s),.snap (aA bC []),zV 0]):=by
 refine aT Tryz.func77 Tryz.ntmps77 (by simp only[go_sem,fO]) ?_
 have c1:=Jo s.j.cD (by have:=hs.cD;omega)
 have c2:=Ou s.cN hs.cN hs.one;clear hs;obtain⟨⟨js,jc,jh,jt,jf,jz⟩,l⟩:=s;unfold fO;simp only[]at*;refine aE ?_;exact aB
theorem Pd(s:l8)(k:Int)(p:List Int)(x:bI)(hs:xI s)(zC:DG s.cN)(hp:∀x∈p,aV x)(j9:p.length<=100000):PC 72 [.agg (fO s),zV k,.snap (aA aH p),.agg (cG x)] (.aR [.agg (fO (FQ s k p x).1),.snap (aA bC (FQ s k p x).2.1),zV (FQ s k p x).2.2]):=by
 refine aT Tryz.func72 Tryz.ntmps72 (by simp only[go_sem,fO]) ?_
 have c1:=aw9 s.j k p hs.cD hp j9;have c2:=Ou s.cN hs.cN hs.one;have c3:=Ch s.cN x zC hs.cN;obtain⟨M,hM⟩:∃M,FQ s k p x=M:=⟨_,rfl⟩;rw[hM];unfold FQ at hM;clear hs zC hp;obtain⟨⟨js,jc,jh,jt,jf,jz⟩,l⟩:=s;obtain⟨xn,xp,xs,xh,xe,xr,xc⟩:=x;unfold fO;rw[iP]at*;unfold eG at c1;simp only[]at*;generalize CD ⟨js,jc,jh,jt,jf,jz⟩ k p=E at*;obtain⟨⟨ks,kc,kh,kt,kf,kz⟩,ops,e⟩:=E
 simp only[]at*;generalize pD l ⟨xn,xp,xs,xh,xe,xr,xc⟩=L at*;by_cases g:e=0
 ·rw[if_pos g]at hM
  subst hM g;simp only[];refine aE ?_;exact aB
 ·rw[if_neg g]at hM
  subst hM;unfold nI l7;simp only[];refine aE ?_;exact aB
end Go.Proofs.YtioafciifiggaaaGreatDoor
