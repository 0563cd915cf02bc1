/- Staging. No condition. -/
import Derived.Test.YtioafciifiggaaaGreatDoorL0
import Derived.Test.YtioafciifiggaaaGreatDoorAzk
import Derived.Test.YtioafciifiggaaaGreatDoorAzj
import Derived.Test.YtioafciifiggaaaGreatDoorAzb
import Derived.Test.YtioafciifiggaaaGreatDoorAza
import Derived.Test.YtioafciifiggaaaGreatDoorLg
import Derived.Test.YtioafciifiggaaaGreatDoorAzc
set_option linter.all false
namespace Go.Proofs.YtioafciifiggaaaGreatDoor
open Go.Proofs Go.AL
set_option maxRecDepth 100000
set_option maxHeartbeats 8000000
attribute [local irreducible] cB AW aX cZ dK hold
attribute [local irreducible] eV
def pM(l:List bI)(m:Int):aI:= .cells 109 2 [[.snap (aA cG l),zV m]] true false
theorem aJ3(l:List bI)(m:Int)(r:Rec)(n:Nat)(h:nU l n)(hn:n<=90000)(hb:∀x∈r.cH,aV x)(hl:r.cH.length<=4096)(hk:r.kind=1)(ho:(bM r.cH).2=0)(id:Nat):
  jZ Tryz.prog 114 [.ptr id 0 0,.agg (dN r)] id (pM l m) (some (pM (iY l r).1 m)) (zV 0) 300:=by
 refine AU Tryz.func114 Tryz.ntmps114 ?_;intro N G aC iL hG;have c2:=Ao r.cH hb (by omega)
 have c5:=Me r.cH hb (by omega)
 have pE:=WH hb;have uG:=Cm r.cH;have vH:=h.len;have c4:=LP l (bM r.cH).1.number h.pw.sort (by omega)
 have rD:=fun x=>Ch l x h.pw.sort (by omega)
 obtain⟨M,hM⟩:∃M,(iY l r).1=M:=⟨_,rfl⟩;rw[hM]
 have cK:nL r=true:=by
  unfold nL;rw[if_neg (by omega)]
  exact decide_eq_true ⟨hk,ho⟩
 have wO:pY r=(bM r.cH).1.number:=by
  unfold pY;rw[if_neg (by omega)]
 unfold iY at hM;rw[if_pos cK,if_neg (by omega),wO]at hM
 rw[ho]at c2 uG;rw[uG]at c5;clear cK wO ho;obtain⟨rk,rq,p⟩:=r;unfold dN pM at*;simp only[]at*;generalize qF p=B at*;obtain⟨ba,be⟩:=B;simp only[]at pE uG c5 hM;subst uG;generalize I2:(bM p).1.number=q at*;generalize bM p=R at*;obtain⟨⟨n',pi,pp,ps,pl⟩,e⟩:=R;simp only[]at*;clear I2;have c7:=ID ba [rq] false pE.cI pE.seen (fun x hx=>(pE.one x hx).1) (by simp)
 have c8:=rD (jT ba [rq] false);have pF:aA bA [rq]=[[zV rq]]:=rfl;rw[pF]at c7;obtain⟨bn,bp,bs,bh,bz⟩:=ba;by_cases g3:iW l q=true
 case neg=>
  have uO:iW l q=false:=by simpa using g3
  rw[uO]at c4;rw[if_neg (fun hh=>g3 hh.1)]at hM
  simp only[]at hM;rw[hM]at c8;rw[iP]at c7 c8;unfold jT eL at*;simp only[]at*;clear g3 uO rD pE hb h pF hM;generalize bE l q=i at*;refine bO ?_;refine xL ?_;refine bO ?_;exact pI
 ·obtain⟨hi,-⟩:=yZ g3
  rw[g3]at c4;have iE:=uP l (bE l q) hi;have hx:=(h.one _ (dC b8 hi)).RE (by omega)
  have AQ:=(h.one _ (dC b8 hi)).ne;have qJ:AP (kG (bF (l.getD (bE l q) b8)) p).1:=WG hx.bF.ok hb;have c9:=Oj (bF (l.getD (bE l q) b8)) p hx.bF hb (by omega)
  have vI:=I1 (l.getD (bE l q) b8);have gH:=hx.records;have v8:=Of (kG (bF (l.getD (bE l q) b8)) p).1 (bF (l.getD (bE l q) b8)) qJ.cI hx.bF.cI qJ.seen hx.bF.seen (fun y hy=>(qJ.one y hy).2) (fun y hy=>(hx.bF.one y hy).2)
  have nK:=UL (l.getD (bE l q) b8).records AQ (by omega)
  have mD:=ID (kG (bF (l.getD (bE l q) b8)) p).1 ((l.getD (bE l q) b8).records++[rq]) (l.getD (bE l q) b8).closed qJ.cI qJ.seen (fun x hx=>(qJ.one x hx).1) (by rw[cP];simp only[eI,gL];omega)
  have pH:=rD (jT (kG (bF (l.getD (bE l q) b8)) p).1 ((l.getD (bE l q) b8).records++[rq]) (l.getD (bE l q) b8).closed);clear rD pE hb h pF hx qJ AQ;generalize bE l q=i at*;generalize l.getD i b8=x at*;generalize kG (bF x) p=A at*;obtain⟨aa,ae⟩:=A;simp only[]at*;by_cases g5:ae=0
  case neg=>
   rw[if_neg (fun hh=>g5 hh.2)]at hM
   simp only[]at hM;rw[hM]at c8;have R6:(ae==0)=false:=by simpa using g5
   rw[iP]at c7 c8 vI iE;obtain⟨xn,xp,xs,xh,xe,xr,xc⟩:=x;obtain⟨an,ap,X5,ah,az⟩:=aa;unfold jT eL bF at*;simp only[]at*;clear g5 hM v8 nK mD pH g3;refine bO ?_;refine xL ?_;refine bO ?_;exact pI
  rw[if_pos ⟨g3,g5⟩]at hM;subst g5;clear g3;by_cases g6:aa=bF x
  ·rw[if_pos g6]at hM
   subst hM;rw[decide_eq_true g6]at v8;subst g6;rw[iP]at vI iE;obtain⟨xn,xp,xs,xh,xe,xr,xc⟩:=x;unfold eL bF at*;simp only[]at*;clear nK mD pH c7 c8 c5;refine bO ?_;exact pI
  ·rw[if_neg g6]at hM
   rw[decide_eq_false g6]at v8;simp only[]at hM;rw[hM]at pH;rw[iP]at mD pH vI iE;obtain⟨xn,xp,xs,xh,xe,xr,xc⟩:=x;obtain⟨an,ap,X5,ah,az⟩:=aa;unfold jT eL bF at*;simp only[]at*;have iD:(xr++[rq]).take (xr.length+1)=xr++[rq]:=cR (by simp)
   clear g6 hM c7 c8 c5;refine bO ?_;refine xL ?_;refine bO ?_;exact pI
theorem aJ4(l:List bI)(m:Int)(r:Rec)(hb:∀x∈r.cH,aV x)(hl:r.cH.length<=4096)(ho:(bM r.cH).2≠0)(id:Nat):
  jZ Tryz.prog 114 [.ptr id 0 0,.agg (dN r)] id (pM l m) (some (pM l m)) (zV 3) 300:=by
 refine AU Tryz.func114 Tryz.ntmps114 ?_;intro N G aC iL hG;have c2:=Ao r.cH hb (by omega)
 obtain⟨rk,rq,p⟩:=r;unfold dN pM at*;simp only[]at*;generalize bM p=R at*;obtain⟨⟨n',pi,pp,ps,pl⟩,e⟩:=R;simp only[]at*;have gx:(e !=0)=true:=by simpa using ho
 clear ho hb;refine bO ?_;exact pI
theorem aJ5(l:List bI)(m:Int)(r:Rec)(hb:∀x∈r.cH,aV x)(hl:r.cH.length<=4096)(ho:¬((aF r.cH).2.2=0/\(aF r.cH).2.1=[]))(id:Nat):
  jZ Tryz.prog 115 [.ptr id 0 0,.agg (dN r)] id (pM l m) (some (pM l m)) (zV 3) 300:=by
 refine AU Tryz.func115 Tryz.ntmps115 ?_;intro N G aC iL hG;have c2:=A5 r.cH hb (by omega)
 obtain⟨rk,rq,p⟩:=r;unfold dN pM at*;simp only[]at*;generalize aF p=R at*;obtain⟨v,rest,e⟩:=R;simp only[]at*;by_cases g1:e=0
 ·subst g1
  have g2:0<(rest.length:Int):=by
   have:rest≠[]:=fun h=>ho ⟨rfl,h⟩
   have:=BP.2 this;omega
  clear ho hb;refine bO ?_;exact pI
 ·have gx:(e !=0)=true:=by simpa using g1
  clear ho hb g1;refine bO ?_;exact pI
theorem aJ6(l:List bI)(m:Int)(r:Rec)(n:Nat)(h:nU l n)(hn:n<=90000)(hb:∀x∈r.cH,aV x)(hl:r.cH.length<=4096)(hk:r.kind=2)(ho:(aF r.cH).2.2=0/\(aF r.cH).2.1=[])(id:Nat):
  jZ Tryz.prog 115 [.ptr id 0 0,.agg (dN r)] id (pM l m) (some (pM (iY l r).1 m)) (zV 0) 300:=by
 refine AU Tryz.func115 Tryz.ntmps115 ?_;intro N G aC iL hG;have c2:=A5 r.cH hb (by omega)
 have vH:=h.len;have c4:=LP l (aF r.cH).1 h.pw.sort (by omega)
 have rD:=fun x=>Ch l x h.pw.sort (by omega)
 obtain⟨M,hM⟩:∃M,(iY l r).1=M:=⟨_,rfl⟩;rw[hM]
 have cK:nL r=true:=by
  unfold nL;rw[if_pos hk];exact decide_eq_true ho
 have wO:pY r=(aF r.cH).1:=by
  unfold pY;rw[if_pos hk]
 unfold iY at hM;rw[if_pos cK,if_pos hk,wO]at hM;rw[ho.1,ho.2]at c2;clear cK wO ho;obtain⟨rk,rq,p⟩:=r;unfold dN pM at*;simp only[]at*;generalize (aF p).1=q at*;by_cases g3:iW l q=true
 case neg=>
  have uO:iW l q=false:=by simpa using g3
  rw[uO]at c4;rw[if_neg (fun hh=>g3 hh.1)]at hM
  simp only[]at hM;subst hM;clear g3 uO rD hb h;generalize bE l q=i at*;refine bO ?_;exact pI
 obtain⟨hi,-⟩:=yZ g3;rw[g3]at c4;have iE:=uP l (bE l q) hi;have hx:=(h.one _ (dC b8 hi)).RE (by omega)
 have AQ:=(h.one _ (dC b8 hi)).ne;have c9:=VE (bF (l.getD (bE l q) b8)) hx.bF;have vI:=I1 (l.getD (bE l q) b8);have gH:=hx.records;have nK:=UL (l.getD (bE l q) b8).records AQ (by omega)
 have mD:=ID (bF (l.getD (bE l q) b8)) ((l.getD (bE l q) b8).records++[rq]) true hx.bF.cI hx.bF.seen (fun x hy=>(hx.bF.one x hy).1) (by rw[cP];simp only[eI,gL];omega)
 have pH:=rD (jT (bF (l.getD (bE l q) b8)) ((l.getD (bE l q) b8).records++[rq]) true);clear rD hb h hx AQ;generalize bE l q=i at*;generalize l.getD i b8=x at*;by_cases g4:x.closed=false
 case neg=>
  have R5:x.closed=true:=by simpa using g4
  rw[if_neg (fun hh=>g4 hh.2.1)]at hM
  simp only[]at hM;subst hM;rw[iP]at iE;obtain⟨xn,xp,xs,xh,xe,xr,xc⟩:=x;simp only[]at*;subst R5;clear g4 c9 nK mD pH vI gH g3;refine bO ?_;exact pI
 by_cases g5:(oA (bF x)).2=0
 case neg=>
  have gx:((oA (bF x)).2==0)=false:=by simpa using g5
  rw[if_neg (fun hh=>g5 hh.2.2)]at hM
  simp only[]at hM;subst hM;generalize oA (bF x)=Y at*;obtain⟨⟨y1,y2,y3⟩,ye⟩:=Y;rw[iP]at iE vI;obtain⟨xn,xp,xs,xh,xe,xr,xc⟩:=x;unfold eL bF gT at*;simp only[]at*;subst g4;clear g5 nK mD pH gH g3;refine bO ?_;exact pI
 ·rw[if_pos ⟨g3,g4,g5⟩]at hM
  simp only[]at hM;rw[hM]at pH;rw[g5]at c9;generalize oA (bF x)=Y at*;obtain⟨⟨y1,y2,y3⟩,ye⟩:=Y;rw[iP]at iE vI mD pH;obtain⟨xn,xp,xs,xh,xe,xr,xc⟩:=x;unfold jT eL bF gT at*;simp only[]at*;subst g4;have iD:(xr++[rq]).take (xr.length+1)=xr++[rq]:=cR (by simp)
  clear g5 g3 hM;refine bO ?_;refine xL ?_;refine bO ?_;exact pI
theorem aJ7(l:List bI)(m:Nat)(r:Rec)(n:Nat)(h:nU l n)(hn:n<=90000)(hb:∀x∈r.cH,aV x)(hl:r.cH.length<=4096)(ho:nL r=true)(id:Nat):
  jZ Tryz.prog 49 [.ptr id 0 0,.agg (dN r)] id (pM l m) (some (pM (iY l r).1 (max m (iY l r).1.length:Nat))) (zV 0) 600:=by
 refine AU Tryz.func49 Tryz.ntmps49 ?_;intro N G aC iL hG;have hmx:(if((iY l r).1.length:Int)>(m:Int)then((iY l r).1.length:Int)else(m:Int))=((max m (iY l r).1.length:Nat):Int):=by split<;>omega
 have fE:(IntKind.i64==IntKind.i64)=true:=rfl;by_cases hk:r.kind=2
 ·have hq:(aF r.cH).2.2=0/\(aF r.cH).2.1=[]:=by
   unfold nL at ho;rw[if_pos hk]at ho;exact of_decide_eq_true ho
  have c1:=aJ6 l m r n h hn hb hl hk hq id;generalize (iY l r).1=M at*;obtain⟨rk,rq,p⟩:=r;unfold dN pM at*;simp only[]at*;subst hk;clear ho hq hb h;refine tC ?_;refine B4 ?_;refine rE ?_;refine gE ?_;refine tC ?_;refine RT _ ?_;refine rE ?_;refine bO ?_;exact pI
 ·have hq:r.kind=1/\(bM r.cH).2=0:=by
   unfold nL at ho;rw[if_neg hk]at ho;exact of_decide_eq_true ho
  have c1:=aJ3 l m r n h hn hb hl hq.1 hq.2 id;generalize (iY l r).1=M at*;obtain⟨rk,rq,p⟩:=r;obtain⟨h1,h2⟩:=hq;unfold dN pM at*;simp only[]at*;subst h1;clear ho h2 hb h hk;refine tC ?_;refine B4 ?_;refine rE ?_;refine gE ?_;refine tC ?_;refine RT _ ?_;refine rE ?_;refine bO ?_;exact pI
theorem aJ9(l:List bI)(m:Nat)(r:Rec)(hb:∀x∈r.cH,aV x)(hl:r.cH.length<=4096)(ho:nL r=false)(id:Nat):
  jZ Tryz.prog 49 [.ptr id 0 0,.agg (dN r)] id (pM l m) none (zV 3) 600:=by
 refine AU Tryz.func49 Tryz.ntmps49 ?_;intro N G aC iL hG;have fE:(IntKind.i64==IntKind.i64)=true:=rfl;by_cases hk:r.kind=2
 ·have hq:¬((aF r.cH).2.2=0/\(aF r.cH).2.1=[]):=by
   unfold nL at ho;rw[if_pos hk]at ho;exact of_decide_eq_false ho
  have c1:=aJ5 l m r hb hl hq id;obtain⟨rk,rq,p⟩:=r;unfold dN pM at*;simp only[]at*;subst hk;clear ho hq hb;refine tC ?_;refine B4 ?_;refine rE ?_;refine gE ?_;refine tC ?_;refine RT _ ?_;refine rE ?_;refine bO ?_;exact pI
 ·have hq:¬(r.kind=1/\(bM r.cH).2=0):=by
   unfold nL at ho;rw[if_neg hk]at ho;exact of_decide_eq_false ho
  by_cases h1:r.kind=1
  ·have c1:=aJ4 l m r hb hl (fun h=>hq ⟨h1,h⟩) id
   obtain⟨rk,rq,p⟩:=r;unfold dN pM at*;simp only[]at*;subst h1;clear ho hq hb hk;refine tC ?_;refine B4 ?_;refine rE ?_;refine gE ?_;refine tC ?_;refine RT _ ?_;refine rE ?_;refine bO ?_;exact pI
  ·obtain⟨rk,rq,p⟩:=r
   unfold dN pM at*;simp only[]at*;have k1:((1:Int)==rk)=false:=by simp;omega
   have k2:((2:Int)==rk)=false:=by simp;omega
   clear ho hq hb hk h1;refine tC ?_;refine B4 ?_;refine rE ?_;refine gE ?_;refine tC ?_;refine RT _ ?_;refine rE ?_;refine bO ?_;exact pI
theorem aK0(p:List Int)(hb:∀x∈p,aV x)(hl:p.length<=4096):PC 121 [.snap (aA aH p)] (.aR [zV (if(aF p).2.2=0/\(aF p).2.1=[]then(aF p).1 else 0),zV (if(aF p).2.2=0/\(aF p).2.1=[]then 0 else 3)]):=by
 refine aT Tryz.func121 Tryz.ntmps121 (by simp only[go_sem]) ?_
 have c2:=vW p hb (by omega)
 generalize aF p=R at*;obtain⟨v,rest,e⟩:=R;simp only[]at*;by_cases g1:e=0
 ·subst g1
  by_cases g2:rest=[]
  ·subst g2
   rw[if_pos ⟨rfl,rfl⟩,if_pos ⟨rfl,rfl⟩];refine aE ?_;exact aB
  ·have g3:0<(rest.length:Int):=by
    have:=BP.2 g2;omega
   rw[if_neg (fun h=>g2 h.2),if_neg (fun h=>g2 h.2)]
   clear g2;refine aE ?_;exact aB
 ·have gx:(e !=0)=true:=by simpa using g1
  rw[if_neg (fun h=>g1 h.1),if_neg (fun h=>g1 h.1)]
  clear g1;refine aE ?_;exact aB
def RU(l:List bI)(r:Rec):List bI:=if nL r=true then(iY l r).1 else if r.kind=2 then l else []
theorem Rt(l:List bI)(r:Rec)(n:Nat)(h:nU l n)(hn:n<=90000)(hb:∀x∈r.cH,aV x)(hl:r.cH.length<=4096):
  PC 51 [.snap (aA cG l),.agg (dN r)] (.aR [.snap (aA cG (RU l r)),zV (iY l r).2]):=by
 refine aT Tryz.func51 Tryz.ntmps51 (by simp only[go_sem]) ?_
 rw[Cx];have vH:=h.len;have rD:=fun x=>av5 l x h.pw.sort (by omega)
 obtain⟨M,hM⟩:∃M,RU l r=M:=⟨_,rfl⟩;rw[hM];unfold RU iY at hM;by_cases hk:r.kind=2
 ·have c2:=aK0 r.cH hb hl
  have wO:pY r=(aF r.cH).1:=by
   unfold pY;rw[if_pos hk]
  by_cases hq:(aF r.cH).2.2=0/\(aF r.cH).2.1=[]
  case neg=>
   have cK:nL r=false:=by
    unfold nL;rw[if_pos hk];exact decide_eq_false hq
   rw[cK,if_neg (by decide),if_pos hk]at hM
   rw[cK,if_neg (by decide)]
   rw[if_neg hq,if_neg hq]at c2;have c4:=Bi l 0 h.pw.sort (by omega)
   subst hM;generalize I5 l 0=i at*;obtain⟨rk,rq,p⟩:=r;unfold dN at*;simp only[]at*;subst hk;clear hq cK wO rD h hb;refine aE ?_;exact aB
  have cK:nL r=true:=by
   unfold nL;rw[if_pos hk];exact decide_eq_true hq
  rw[if_pos cK,if_pos cK,if_pos hk,wO]at hM;rw[cK,if_pos rfl];rw[if_pos hq,if_pos hq]at c2;have c4:=Bi l (aF r.cH).1 h.pw.sort (by omega)
  obtain⟨rk,rq,p⟩:=r;unfold dN at*;simp only[]at*;subst hk;generalize (aF p).1=q at*;clear hq cK wO;unfold I5 at c4;by_cases g3:iW l q=true
  case neg=>
   rw[if_neg (fun hh=>g3 hh.1)]at hM
   rw[if_neg g3]at c4;simp only[]at hM;subst hM;clear g3 rD h hb;refine aE ?_;exact aB
  rw[if_pos g3]at c4;obtain⟨hi,-⟩:=yZ g3;have iE:=uP l (bE l q) hi;have hx:=(h.one _ (dC b8 hi)).RE (by omega)
  have c9:=ap6 (bF (l.getD (bE l q) b8)) hx.bF;have vI:=Az (l.getD (bE l q) b8);have gH:=hx.records;have nK:=Oz (l.getD (bE l q) b8).records [rq] (by omega) (by simp)
  have mD:=Ck (bF (l.getD (bE l q) b8)) ((l.getD (bE l q) b8).records++[rq]) true;have pH:=rD (jT (bF (l.getD (bE l q) b8)) ((l.getD (bE l q) b8).records++[rq]) true);have pF:aA bA [rq]=[[zV rq]]:=rfl;rw[pF]at nK;clear rD h hx pF;have LW:¬(bE l q:Int)<0:=by omega
  generalize bE l q=i at*;generalize l.getD i b8=x at*;by_cases g4:x.closed=false
  case neg=>
   have R5:x.closed=true:=by simpa using g4
   rw[if_neg (fun hh=>g4 hh.2.1)]at hM
   simp only[]at hM;subst hM;rw[iP]at iE;obtain⟨xn,xp,xs,xh,xe,xr,xc⟩:=x;simp only[]at*;subst R5;clear g4 c9 nK mD pH vI gH g3 hb;refine aE ?_;exact aB
  by_cases g5:(oA (bF x)).2=0
  case neg=>
   have gx:((oA (bF x)).2 !=0)=true:=by simpa using g5
   rw[if_neg (fun hh=>g5 hh.2.2)]at hM
   simp only[]at hM;subst hM;generalize oA (bF x)=Y at*;obtain⟨⟨y1,y2,y3⟩,ye⟩:=Y;rw[iP]at iE vI;obtain⟨xn,xp,xs,xh,xe,xr,xc⟩:=x;unfold eL bF gT at*;simp only[]at*;subst g4;clear g5 nK mD pH gH g3 hb;refine aE ?_;exact aB
  ·rw[if_pos ⟨g3,g4,g5⟩]at hM
   simp only[]at hM;rw[hM]at pH;rw[g5]at c9;generalize oA (bF x)=Y at*;obtain⟨⟨y1,y2,y3⟩,ye⟩:=Y;rw[iP]at iE vI mD pH;obtain⟨xn,xp,xs,xh,xe,xr,xc⟩:=x;unfold jT eL bF gT at*;simp only[]at*;subst g4;clear g5 g3 hM hb;refine aE ?_;refine xL ?_;refine aE ?_;exact aB
 ·have c2:=an1 r.cH hb (by omega)
  have wO:pY r=(bM r.cH).1.number:=by
   unfold pY;rw[if_neg hk]
  by_cases hq:r.kind=1/\(bM r.cH).2=0
  case neg=>
   have cK:nL r=false:=by
    unfold nL;rw[if_neg hk];exact decide_eq_false hq
   rw[cK,if_neg (by decide),if_neg hk]at hM
   rw[cK,if_neg (by decide)]
   subst hM;obtain⟨rk,rq,p⟩:=r;unfold dN at*;simp only[]at*;generalize bM p=R at*;obtain⟨⟨n',pi,pp,ps,pl⟩,e⟩:=R;simp only[]at*;have k0:(rk==2)=false:=by simpa using hk
   by_cases h1:rk=1
   ·subst h1
    have k1:(e !=0)=true:=by
     have:e≠0:=fun h=>hq ⟨rfl,h⟩
     simpa using this
    clear hq cK wO rD h hb hk;refine aE ?_;exact aB
   ·have k1:(rk !=1)=true:=by simpa using h1
    clear hq cK wO rD h hb hk h1;refine aE ?_;exact aB
  have cK:nL r=true:=by
   unfold nL;rw[if_neg hk];exact decide_eq_true hq
  rw[if_pos cK,if_pos cK,if_neg hk,wO]at hM;rw[cK,if_pos rfl];have c5:=an9 r.cH hb (by omega)
  have pE:=WH hb;have uG:=Cm r.cH;have c4:=Bi l (bM r.cH).1.number h.pw.sort (by omega)
  rw[hq.2]at c2 uG;rw[uG]at c5;obtain⟨rk,rq,p⟩:=r;unfold dN at*;simp only[]at*;obtain⟨xQ,-⟩:=hq;subst xQ;generalize qF p=B at*;obtain⟨ba,be⟩:=B;simp only[]at pE uG c5 hM;subst uG;generalize I2:(bM p).1.number=q at*;generalize bM p=R at*;obtain⟨⟨n',pi,pp,ps,pl⟩,e⟩:=R;simp only[]at*;clear I2 cK wO hk;have c7:=Ck ba [rq] false;have c8:=rD (jT ba [rq] false);have pF:aA bA [rq]=[[zV rq]]:=rfl
  rw[pF]at c7;obtain⟨bn,bp,bs,bh,bz⟩:=ba;unfold I5 at c4;by_cases g3:iW l q=true
  case neg=>
   rw[if_neg g3]at c4;rw[if_neg (fun hh=>g3 hh.1)]at hM
   simp only[]at hM;rw[hM]at c8;rw[iP]at c7 c8;unfold jT eL at*;simp only[]at*;clear g3 rD pE hb h pF hM;refine aE ?_;exact aB
  rw[if_pos g3]at c4;obtain⟨hi,-⟩:=yZ g3;have iE:=uP l (bE l q) hi;have hx:=(h.one _ (dC b8 hi)).RE (by omega)
  have qJ:AP (kG (bF (l.getD (bE l q) b8)) p).1:=WG hx.bF.ok hb;have c9:=ax2 (bF (l.getD (bE l q) b8)) p hx.bF hb (by omega)
  have vI:=Az (l.getD (bE l q) b8);have gH:=hx.records;have v8:=Og (kG (bF (l.getD (bE l q) b8)) p).1 (bF (l.getD (bE l q) b8)) qJ.cI hx.bF.cI qJ.seen hx.bF.seen (fun y hy=>(qJ.one y hy).2) (fun y hy=>(hx.bF.one y hy).2)
  have nK:=Oz (l.getD (bE l q) b8).records [rq] (by omega) (by simp)
  have mD:=Ck (kG (bF (l.getD (bE l q) b8)) p).1 ((l.getD (bE l q) b8).records++[rq]) (l.getD (bE l q) b8).closed;have pH:=rD (jT (kG (bF (l.getD (bE l q) b8)) p).1 ((l.getD (bE l q) b8).records++[rq]) (l.getD (bE l q) b8).closed);rw[pF]at nK;have LW:(bE l q:Int)>=0:=by omega
  clear rD pE hb h pF hx qJ;generalize bE l q=i at*;generalize l.getD i b8=x at*;generalize kG (bF x) p=A at*;obtain⟨aa,ae⟩:=A;simp only[]at*;by_cases g5:ae=0
  case neg=>
   rw[if_neg (fun hh=>g5 hh.2)]at hM
   simp only[]at hM;rw[hM]at c8;have R6:(ae==0)=false:=by simpa using g5
   rw[iP]at c7 c8 vI iE;obtain⟨xn,xp,xs,xh,xe,xr,xc⟩:=x;obtain⟨an,ap,X5,ah,az⟩:=aa;unfold jT eL bF at*;simp only[]at*;clear g5 hM v8 nK mD pH g3;refine aE ?_;exact aB
  rw[if_pos ⟨g3,g5⟩]at hM;subst g5;clear g3;by_cases g6:aa=bF x
  ·rw[if_pos g6]at hM
   simp only[]at hM;subst hM;rw[decide_eq_true g6]at v8;subst g6;rw[iP]at vI iE;obtain⟨xn,xp,xs,xh,xe,xr,xc⟩:=x;unfold eL bF at*;simp only[]at*;clear nK mD pH c7 c8 c5;refine aE ?_;exact aB
  ·rw[if_neg g6]at hM
   rw[decide_eq_false g6]at v8;simp only[]at hM;rw[hM]at pH;rw[iP]at mD pH vI iE;obtain⟨xn,xp,xs,xh,xe,xr,xc⟩:=x;obtain⟨an,ap,X5,ah,az⟩:=aa;unfold jT eL bF at*;simp only[]at*;clear g6 hM c7 c8 c5;refine aE ?_;refine xL ?_;refine aE ?_;exact aB
end Go.Proofs.YtioafciifiggaaaGreatDoor
