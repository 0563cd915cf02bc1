/- Target: contracts of its functions (Az). No condition but those named. -/
import Derived.Test.YtpaomccedbjknaaGreatDoorAy
set_option linter.all false
namespace Go.Proofs.YtpaomccedbjknaaGreatDoor
open Go.Proofs Go.AL Tryz
set_option maxRecDepth 100000
set_option maxHeartbeats 8000000
attribute [local irreducible] bT AW b8 cF dB hold
attribute [local irreducible] iX
theorem aI8(d:bQ)(j:Jr)(n:Int)(hl:j.aR.length<=100000)(hs:d.st.length<=1000000)(h2:d.ca.length<=1000000)(hk:∀s∈k9 d.st d.ca,kL s):PC 146 [.agg (bD d),.agg (gF j),zV n] (.aK [.agg (gF (C6 d j n).1),.snap (aB aH (C6 d j n).2.1),zV (C6 d j n).2.2]):=by
 refine iZ func146 ntmps146 (by simp only[go_sem,gF]) ?_
 have c0:=EW d hs h2;have c1:=UP j hl;obtain⟨M,hM⟩:∃M,C6 d j n=M:=⟨_,rfl⟩;rw[hM];unfold C6 at hM;by_cases g0:gE d=0
 case neg=>
  rw[if_neg g0]at hM;subst hM;have g0x:(gE d !=0)=true:=by simpa using g0
  generalize gE d=e at*;obtain⟨st,ca⟩:=d;obtain⟨js,jc,jh,jt,jf,jz⟩:=j;unfold gF encS lB bD at*;simp only[]at*;clear c1 hk;exact zE
 rw[if_pos g0]at hM;rw[g0]at c0;by_cases g1:jE j=0
 case neg=>
  rw[if_neg g1]at hM;subst hM;rw[decide_eq_false g1]at c1;obtain⟨st,ca⟩:=d;obtain⟨js,jc,jh,jt,jf,jz⟩:=j;unfold gF encS lB bD at*;simp only[]at*;clear g1 hk;exact zE
 rw[if_pos g1]at hM;rw[decide_eq_true g1]at c1;obtain⟨hv,e1,e2,e3,e4,e5,e6,e7⟩:=DM g1;have h5:=L8 hv
 have hU:jU j=j.aR.sum:=by
  unfold jU;rw[if_pos hv];have h9:=((ZX j hv).1 g1).2.1;have:=(UO (j.count-16) j.aR 0 oM).2 h9
  omega
 rw[hU]at c1;have c2:=Pk j j.aR.sum e3 oM hl
 have c5:=QM j.start j.count;rw[IntWalk.i64_in (j.count-16) oM]at c5
 have w1:IntKind.i64.wrap (j.first-1)=j.first-1:=IntWalk.i64_in _ oM
 clear hU;by_cases g2:n<j.first-1
 ·rw[if_pos (.inl g2)]at hM
  subst hM;obtain⟨st,ca⟩:=d;obtain⟨js,jc,jh,jt,jf,jz⟩:=j;unfold gF encS lB bD at*;simp only[]at*;clear c5 hk g1 hv e7 e5;exact zE
 by_cases g3:j.first+(j.aR.length:Int)<=n
 ·rw[if_pos (.inr g3)]at hM
  subst hM;obtain⟨st,ca⟩:=d;obtain⟨js,jc,jh,jt,jf,jz⟩:=j;unfold gF encS lB bD at*;simp only[]at*;clear c5 hk g1 hv e7 e5;exact zE
 rw[if_neg oM]at hM
 have w2:IntKind.i64.wrap (n-j.first)=n-j.first:=IntWalk.i64_in _ oM
 obtain⟨k,nT⟩:∃k:Nat,n+1-j.first=k:=⟨(n+1-j.first).toNat,oM⟩
 have w3:IntKind.i64.wrap (n-j.first+1)=(k:Int):=by rw[IntWalk.i64_in _ oM];omega
 rw[nT,sY]at hM;have lC:=L6 e7;have tG:k<=j.aR.length:=oM
 by_cases g4:n=j.first-1
 ·rw[if_pos g4]at hM
  subst hM;have z8:((k:Int)==0)=true:=by rw[show k=0 by omega];rfl
  obtain⟨st,ca⟩:=d;obtain⟨js,jc,jh,jt,jf,jz⟩:=j;unfold gF encS bD at*;simp only[]at*;clear hk g1 hv e7 e5 g4 lC c5 g0;by_cases FN:jz=[]
  ·subst FN
   refine aE ?_;refine eO func218 ntmps218 ?_;refine aE ?_;exact dS
  ·have aT:=qF FN
   have ID:(∀row,row∈aB aW jz->∀x,x∈row->bF x)=True:=eq_true (oN _);have Pu:=fun G k=>Bq G k jz
   have Pt:jz.take jz.length=jz:=gP;refine aE ?_;refine eO func218 ntmps218 ?_;refine aE ?_;exact dS
 rw[if_neg g4]at hM;have z8:((k:Int)==0)=false:=by simpa using(show k≠0 by omega)
 have FN:j.aR≠[]:=fun e=>by rw[e]at tG;simp at tG;omega
 have aT:=qF FN;have wN:=fun i=>aI5 (j:=j) (k:=i) oM
 have QV:=fun i (hi:i<j.aR.length)=>aI3 (j:=j) (k:=i) oM hi
 have hz:=aI4 (j:=j) e1 e2;have c6:=Qa (vS j k) (n+1);have c7:=TX d j.start (aV (vS j k)++aV (n+1)) (by have:=aI6 (vS j k) (n+1);omega) hs h2 hk
 have QW:=gI j.aR;generalize hH:vS j=Hf at*;obtain⟨st,ca⟩:=d;obtain⟨js,jc,jh,jt,jf,jz⟩:=j;unfold gF encS bD at*;simp only[]at*
 replace wN:=bC.mk wN
 replace QV:=bC.mk QV
 replace lC:=bC.mk lC
 replace QW:=bC.mk QW
 clear hk g1 hv e7 e5 hH;refine aE ?_;refine eO func218 ntmps218 ?_;refine aE ?_
 refine dC (α:=Unit) k (fun i _=> [(61,true,zV i),(60,true,zV k),(59,true,.own 9 0 k),(12,true,.ptr 12 0 0),(10,true,.ptr 3 0 0),(13,true,zV k),(3,true,.ptr 0 0 0),(6,true,.ptr 2 0 0)])
  (fun i _=> [(0,some (.cells 61 2 [[.snap (aB aP st),.snap (aB kD ca)]] true false)),(2,some (.cells 39 6 [[zV 0,zV 0,zV 0,zV 0,zV 0,.c (.slice none 0 0)]] true false)),(3,some (.cells 292 9 [[zV js,zV jc,zV js,zV jc,zV jh,zV jt,zV jf,.snap (aB aW jz),zV jz.sum]] true false)),(9,some (.cells 3 1 (aB aW jz) true true)),(12,some (.cells 39 6 [[zV js,zV jc,zV (Hf i),zV jt,zV jf,.own 9 0 jz.length]] true false))])
  (fun i m _=>14<=m) ⟨100,(),oM,?_⟩ (fun i m _ hi hm=> ?_) (fun m _ hm=> ?_)
 ·rw[hz]
  exact aG
 ·have h3:=wN.out i
  have h4:=wN.out (i+1);have FR:=QV.out i oM
  have Qq:=QW.out i oM
  have hx:=lC.out _ (eB 0 (show i<jz.length by omega))
  clear wN QV QW lC hM c6 c7;generalize jz.getD i 0=x at*;have w4:IntKind.i64.wrap (Hf i+x)=Hf i+x:=IntWalk.i64_in _ oM
  have w6:¬jc-16=0:=oM
  have w8:(Hf i+x).tmod (jc-16)=Hf (i+1):=by rw[bH8 oM];exact FR
  have hw9:IntKind.i64.wrap (Hf (i+1))=Hf (i+1):=IntWalk.i64_in _ oM
  refine aE ?_;exact⟨m+60,(),oM,aG⟩
 ·have w5:IntKind.i64.wrap (jf+(k:Int))=n+1:=by rw[IntWalk.i64_in _ oM];omega
  have qJ:jz.length-k=(jz.drop k).length:=by rw[kR]
  have ID:(∀row,row∈aB aW (jz.drop k)->∀x,x∈row->bF x)=True:=eq_true (oN _);have Pu:=fun G q=>Bq G q (jz.drop k)
  have Pt:(jz.drop k).take (jz.drop k).length=jz.drop k:=gP;clear wN QV QW lC hz;generalize Hf k=H at*;generalize iR:iN ⟨st,ca⟩ js (aV H++aV (n+1))=So at*;generalize aV H++aV (n+1)=V at*;obtain⟨so,se⟩:=So;simp only[]at*;by_cases g5:se=0
  ·rw[if_pos g5]at hM
   subst hM;subst g5;simp only[];clear iR;refine aE ?_;exact dS
  ·rw[if_neg g5]at hM
   subst hM;have g5x:(se !=0)=true:=by simpa using g5
   clear iR g5;unfold lB;refine aE ?_;exact dS
theorem aJ1(j:Jr):PC 165 [.agg (gF j)] (.snap (aB aO (aV j.head++aV j.first))):=by
 refine aZ func165 ntmps165 (gJ _) ?_
 have c1:PC 168 [.c (.slice none 0 0),zV j.head] (.snap (aB aO (aV j.head))):=by
  have:=eA.less (P1 [] j.head (by simp)) (eE (Wk.nil (a:=none) (cap:=0)) (tY _))
  rwa[sF]at this
 have c2:=P1 (aV j.head) j.first (by have:=Qn j.head;omega)
 unfold gF;exact zE
theorem Cb(n:Int)(x:bK):∀(l:List bK) (m:Int),uL n (l++[x]) m=if n<x.number then min (uL n l m) (x.records.headD 0-1)else uL n l m
 |[],m=>by simp only[sF,uL]
 |y::l,m=>by
  simp only[BB,uL];split
  ·exact Cb n x l _
  ·exact Cb n x l _
theorem aJ2{j:Jr}{x:bK}(h:mW j x=true):x.records≠[]/\∀n∈x.records,j.first-1<n/\n<jN j:=by
 unfold mW at h;split at h
 ·split at h
  ·exact absurd h dE
  ·rename_i g2
   split at h
   ·exact absurd h dE
   ·split at h
    ·rename_i g4
     have h5:=of_decide_eq_true h;refine⟨fun e=> ?_,US _ _ _ g4⟩
     rw[e]at h5;unfold BS at h5;split at h5
     ·simp at h5
     ·simp only[kT]at h5
      omega
    ·exact absurd h dE
 ·exact absurd h dE
theorem headD_cons{l:List Int}(h:l≠[]):∃a r,l=a::r:=by
 cases l with
 |nil=>exact absurd rfl h
 |cons a r=>exact⟨a,r,rfl⟩
theorem Qr(d:bQ)(s:jB)(n:Int)(hS:yV s)(hs:d.st.length<=1000000)(h2:d.ca.length<=1000000)(hk:∀s∈k9 d.st d.ca,kL s):PC 68 [.agg (bD d),.agg (dH s),zV n] (.aK [.agg (dH (qP d s n).1),.snap (aB aH (qP d s n).2.1),zV (qP d s n).2.2]):=by
 refine aZ func68 ntmps68 (by simp only[go_sem,dH]) ?_
 have c0:=EW d hs h2;have c1:=L9 s hS;have hj:=hS.aR;have gZ:=hS.bI;obtain⟨M,hM⟩:∃M,qP d s n=M:=⟨_,rfl⟩;rw[hM];unfold qP at hM;by_cases g0:gE d=0
 case neg=>
  rw[if_neg g0]at hM;subst hM;have g0x:(gE d !=0)=true:=by simpa using g0
  generalize gE d=e at*;obtain⟨st,ca⟩:=d;obtain⟨⟨js,jc,jh,jt,jf,jz⟩,l⟩:=s;unfold dH o0 lB bD at*;simp only[]at*;clear c1 hk hS g0;exact zE
 rw[if_pos g0]at hM;rw[g0]at c0;clear g0;by_cases g1:l5 s=0
 case neg=>
  rw[if_neg g1]at hM;subst hM;have g1x:(l5 s !=0)=true:=by simpa using g1
  generalize l5 s=e at*;obtain⟨st,ca⟩:=d;obtain⟨⟨js,jc,jh,jt,jf,jz⟩,l⟩:=s;unfold dH o0 lB bD at*;simp only[]at*;clear hk hS g1;exact zE
 rw[if_pos g1]at hM;rw[g1]at c1;obtain⟨gj,-,g3⟩:=FA g1;have oC:=HZ s.j _ _ _ g3;have vO:=fun x hx=>aJ2 (oC x hx)
 obtain⟨hv,e1,e2,e3,e4,e5,e6,e7⟩:=DM gj;have hN:jN s.j=s.j.first+s.j.aR.length:=by unfold jN;rw[if_pos gj]
 have c2:=UQ s.j hj;rw[if_pos gj]at c2;clear g1 g3 oC hv e5 e6 e7 gj;rw[hN]at hM vO;by_cases g2:n<0\/1073741824<n
 ·rw[if_pos g2]at hM
  subst hM;obtain⟨st,ca⟩:=d;obtain⟨⟨js,jc,jh,jt,jf,jz⟩,l⟩:=s;unfold dH o0 lB bD gF at*;simp only[]at*;clear hk hS vO c2;by_cases g3:n<0
  ·refine aE ?_
   exact cR
  ·have g4:1073741824<n:=oM
   exact zE
 rw[if_neg g2]at hM;have g3:¬n<0:=oM
 have g4:¬1073741824<n:=oM
 clear g2;have c3:=Bn s.bI gZ hS.one;have c4:=fun q=>aI8 d s.j q hj hs h2 hk
 have w1:IntKind.i64.wrap (s.j.first+(s.j.aR.length:Int)-1)=s.j.first+(s.j.aR.length:Int)-1:=IntWalk.i64_in _ oM
 have hg:=yU s.bI;clear hk hS;generalize Ps:C6 d s.j=R at*;obtain⟨st,ca⟩:=d;obtain⟨⟨js,jc,jh,jt,jf,jz⟩,l⟩:=s;unfold dH bD gF at*;simp only[]at*;clear hN;generalize H7:jf+(jz.length:Int)-1=m0 at*
 replace vO:=bC.mk vO
 refine aE ?_
 refine dC (α:=Nat) l.length (fun k id=> [(45,true,zV k),(44,true,zV l.length),(43,true,.snap (aB bX l)),(11,true,zV (uL n (l.take k) m0)),(12,true,lJ ((l.take k).filter fun x=>decide (n<x.number)).length id),(3,true,.ptr 0 0 0),(4,true,.ptr 1 0 0),(6,true,.ptr 2 0 0),(2,true,zV n)])
  (fun k id=>(0,some (.cells 61 2 [[.snap (aB aP st),.snap (aB kD ca)]] true false))::(1,some (.cells 42 7 [[zV js,zV jc,zV jh,zV jt,zV jf,.snap (aB aW jz),.snap (aB bX l)]] true false))::(2,some (.cells 42 7 [[zV 0,zV 0,zV 0,zV 0,zV 0,.c (.slice none 0 0),.c (.slice none 0 0)]] true false))::lX 192 7 (aB bX ((l.take k).filter fun x=>decide (n<x.number))) ((l.take k).filter fun x=>decide (n<x.number)).length id)
  (fun k m id=>(3<=m/\((l.take k).filter fun x=>decide (n<x.number)).length<=k)/\(0<((l.take k).filter fun x=>decide (n<x.number)).length->3<=id/\id<m)) ⟨100,0,⟨⟨oM,by simp⟩,fun h=>absurd h (by simp)⟩,aG⟩ (fun k m id hk hR=> ?_) (fun m id hR=> ?_)
 ·obtain⟨⟨hm,qJ⟩,hR⟩:=hR
  have bO:=hg k hk;rw[lY]at bO;have cI:=kF bU hk;have Cc:=Cb n (l.getD k bU) (l.take k) m0;rw[<-cI]at Cc;have QX:=vO.out _ (eB bU hk);rw[Cc,cI,Im];clear cI hg hM Cc vO;generalize l.getD k bU=x at*;generalize uL n (l.take k) m0=L at*;generalize (l.take k).filter (fun x=>decide (n<x.number))=F at*
  obtain⟨xn,xp,xs,xh,xe,xr,xc⟩:=x;simp only[]at*;obtain⟨a,r,rfl⟩:=headD_cons QX.1;have ha:=QX.2 a (by simp)
  have wa:IntKind.i64.wrap (a-1)=a-1:=IntWalk.i64_in _ oM
  have AM:(0:Int)<((r.length+1:Nat):Int):=oM
  have Qs:(aB aW (a::r))[0]? =some [zV a]:=rfl;have h0r:0<r.length+1:=oM
  have h0s:0<(a::r).length:=by simp
  have hh:List.headD (a::r) (0:Int)=a:=rfl;have Qt:min L (a-1)=if a-1<L then a-1 else L:=by split<;>omega
  rw[hh,Qt];clear QX hh Qt;by_cases gn:n<xn
  ·have gn':¬xn<=n:=oM
   rw[if_pos gn,show List.filter (fun x:bK=>decide (n<x.number)) [⟨xn,xp,xs,xh,xe,a::r,xc⟩]=[⟨xn,xp,xs,xh,xe,a::r,xc⟩]from by simp[gn]]
   cases hF:F.length with
   |zero=>
    have jC:F=[]:=eL hF;subst jC;clear hR hF;refine aE ?_;exact⟨m+40,m+1+1+1,⟨⟨oM,by simp⟩,fun _=>by omega⟩,aG⟩
   |succ q=>
    obtain⟨i1,i2⟩:=hR oM
    have AB:(F++[(⟨xn,xp,xs,xh,xe,a::r,xc⟩:bK)]).length=q+1+1:=by simp[hF]
    rw[AB];clear hR AB;refine aE ?_;exact⟨m+40,m+1+1+1,⟨⟨oM,oM⟩,fun _=>by omega⟩,aG⟩
  ·have gn':xn<=n:=oM
   rw[if_neg gn,show List.filter (fun x:bK=>decide (n<x.number)) [⟨xn,xp,xs,xh,xe,a::r,xc⟩]=[]from by simp[gn],v7]
   cases hF:F.length with
   |zero=>
    have jC:F=[]:=eL hF;subst jC;clear hR hF;refine aE ?_;exact⟨m+40,0,⟨⟨oM,oM⟩,fun h=>absurd h (by simp)⟩,aG⟩
   |succ q=>
    obtain⟨i1,i2⟩:=hR oM
    clear hR;refine aE ?_;exact⟨m+40,id,⟨⟨oM,oM⟩,fun _=>by omega⟩,aG⟩
 ·rw[gP]at hR⊢
  obtain⟨⟨hm,qJ⟩,hR⟩:=hR;have c5:=c4 (uL n l m0);clear hg c4 vO;generalize hRR:R (uL n l m0)=RR at*;generalize uL n l m0=L at*;obtain⟨⟨rs,rc,rh,rt,rf,rz⟩,ro,re⟩:=RR;simp only[]at*;by_cases g5:re=0
  case neg=>
   rw[if_neg g5]at hM;subst hM;have g5x:(re !=0)=true:=by simpa using g5
   unfold o0 lB;clear g5;generalize l.filter (fun x=>decide (n<x.number))=F at*
   cases hF:F.length with
   |zero=>
    exact zE
   |succ q=>
    obtain⟨i1,i2⟩:=hR oM
    exact zE
  rw[if_pos g5]at hM;subst hM;subst g5;simp only[];generalize l.filter (fun x=>decide (n<x.number))=F at*
  cases hF:F.length with
  |zero=>
   have jC:F=[]:=eL hF;subst jC;clear hR hF;exact zE
  |succ q=>
   obtain⟨i1,i2⟩:=hR oM
   have cI:F.take (q+1)=F:=cN oM
   exact zE
end Go.Proofs.YtpaomccedbjknaaGreatDoor
namespace Go.Proofs.YtpaomccedbjknaaGreatDoor
open Go.Proofs Go.AL Tryz
set_option maxRecDepth 100000
set_option maxHeartbeats 8000000
attribute [local irreducible] bT AW b8 cF dB hold
instance :rN Qo 3:=⟨fun _=>rfl,fun _=>rfl,fun x a ha=>by
 simp only[Qo,dJ,iI,or_false]at ha;rcases ha with rfl|rfl|rfl
 ·exact .c _
 ·exact .c _
 ·exact gJ _⟩
end Go.Proofs.YtpaomccedbjknaaGreatDoor
namespace Go.Proofs.YtpaomccedbjknaaGreatDoor
open Go.Proofs Go.AL Tryz
set_option maxRecDepth 100000
set_option maxHeartbeats 8000000
attribute [local irreducible] bT AW b8 cF dB hold
attribute [local irreducible] iX
def Qu(x:Stp):List AV:=[zV x.kind,zV x.number,zV x.part,uV x.data]
@[irreducible] def Qv(n:Nat):Array Oper->Bool->Code:=Code.region n
theorem LM(n:Nat):Code.region n=Qv n:=by unfold Qv;rfl
theorem Qw{dd:Nat}{rows:List (List AV)}{p q:List AV}{k:Nat}(hk:k=rows.length):FL dd rows [p++ .own dd 0 k::q] [p++ .snap rows::q]:=by
 subst hk;refine⟨rfl,fun i r r' h1 h2=> ?_⟩
 cases i with
 |succ i=>simp at h1
 |zero=>
  simp only[qX,bM]at h1 h2;subst h1 h2;refine⟨by simp,fun k x y hx hy=> ?_⟩
  by_cases e:k=p.length
  ·subst e
   rw[nI (cA _),B7]at hx hy;simp only[qX,bM]at hx hy;subst hx hy;exact .inr ⟨0,rows.length,rfl,oM,by rw[sZ,gP]⟩
  ·have h9:(p++AV.own dd 0 rows.length::q)[k]? =(p++AV.snap rows::q)[k]? :=by
    by_cases e2:k<p.length
    ·rw[rM e2,rM e2]
    ·rw[nI oM,nI oM]
     obtain⟨j,hj⟩:∃j,k-p.length=j+1:=⟨k-p.length-1,oM⟩
     rw[hj];rfl
   rw[<-h9,hx]at hy;injection hy with hy
   exact .inl hy
instance :rN Qu 4:=⟨fun _=>rfl,fun _=>rfl,fun x a ha=>by
 simp only[Qu,dJ,iI,or_false]at ha
 rcases ha with rfl|rfl|rfl|rfl<;>exact fH _⟩
end Go.Proofs.YtpaomccedbjknaaGreatDoor
namespace Go.Proofs.YtpaomccedbjknaaGreatDoor
open Go.Proofs Go.AL Tryz
set_option maxRecDepth 100000
def Cd(v:Int):List Bool->Nat->List Pl
 |[],_=> []
 |true::l,p=>(v,(p:Int))::Cd v l (p+1)
 |false::l,p=>Cd v l (p+1)
def Qy(B:Nat->List Bool):Nat->Nat->List Pl
 |_,0=> []
 |v,n+1=>Cd (v:Int) (B v) 0++Qy B (v+1) n
structure lL where
 number:Int
 time:Int
 saved:List bR
structure lM where
 cur:List (List aQ)
 items:List lL
def gG:lL:=⟨0,0,[]⟩
def oE:lM:=⟨[],[]⟩
def cX(x:lL):List AV:=[zV x.number,zV x.time,.snap (aB aH x.saved)]
def kN(s:lM):List AV:=[.snap (aB bA s.cur),.snap (aB cX s.items)]
def aJ4(ws:List bR)(v:Nat):List Bool:=(List.range 4096).map fun(p:Nat)=>(ZB ((v:Int),(p:Int)) (Ls [] ws)).isSome
def aJ5(ws:List bR):List bR:=ap1 (Ls [] ws) (Qy (aJ4 ws) 0 8)
def Qz(sz:List Int)(ws:List bR):Prop:=∀w∈ws,lA sz w=0
def FT(sz:List Int):Int->Int->List lL->Int
 |_,_,[]=>0
 |n,t,x::r=>if fY x.number=false then 2 else if x.number<=n then 8 else if fY x.time=false\/x.time<t then 24 else if qH sz none x.saved=0 then FT sz x.number x.time r else qH sz none x.saved
def oG(s:lM):Int:=if cZ (bH s.cur)=0 then(if 1024<s.items.length then 6 else FT (bH s.cur) (-1) 0 s.items)else cZ (bH s.cur)
def Ra(sz:List Int)(x:lL):Prop:=fY x.number=true/\fY x.time=true/\qH sz none x.saved=0
def VN(x y:lL):Prop:=x.number<y.number/\x.time<=y.time
theorem Ce(sz:List Int):∀(l:List lL) (n t:Int),FT sz n t l=0↔(∀x∈l,Ra sz x/\n<x.number/\t<=x.time)/\l.Pairwise VN
 |[],n,t=>by simp[FT]
 |x::r,n,t=>by
  have ih:=Ce sz r x.number x.time;unfold FT;constructor
  ·intro h
   split at h
   ·cases h
   ·rename_i h1
    split at h
    ·cases h
    ·rename_i h2
     split at h
     ·cases h
     ·rename_i h3
      split at h
      ·rename_i h4
       obtain⟨i1,i2⟩:=ih.1 h;have h5:fY x.number=true:=by simpa using h1
       have h6:fY x.time=true/\t<=x.time:=by
        constructor
        ·cases h7:fY x.time with
         |true=>rfl
         |false=>exact absurd (.inl h7) h3
        ·exact Y6.1 fun h7=>h3 (.inr h7)
       refine⟨fun y hy=> ?_,It.2 ⟨fun y hy=>⟨(i1 y hy).2.1,(i1 y hy).2.2⟩,i2⟩⟩
       rcases dJ.1 hy with e|e
       ·subst e;exact⟨⟨h5,h6.1,h4⟩,oM,h6.2⟩
       ·obtain⟨j1,j2,j3⟩:=i1 y e
        exact⟨j1,oM,oM⟩
      ·exact absurd h ‹_›
  ·rintro⟨h1,h2⟩
   obtain⟨p1,p2⟩:=It.1 h2;obtain⟨⟨a1,a2,a3⟩,a4,a5⟩:=h1 x (by simp)
   rw[if_neg (by rw[a1];simp),if_neg oM,if_neg (by rw[a2];simp;omega),if_pos a3]
   exact ih.2 ⟨fun y hy=>⟨(h1 y (by simp[hy])).1,(p1 y hy).1,(p1 y hy).2⟩,p2⟩
theorem Rb(s:lM):oG s=0↔cZ (bH s.cur)=0/\s.items.length<=1024/\(∀x∈s.items,Ra (bH s.cur) x)/\s.items.Pairwise VN:=by
 unfold oG;constructor
 ·intro h
  split at h
  ·rename_i h1
   split at h
   ·cases h
   ·rename_i h2
    obtain⟨i1,i2⟩:=(Ce _ _ _ _).1 h;exact⟨h1,oM,fun x hx=>(i1 x hx).1,i2⟩
  ·exact absurd h ‹_›
 ·rintro⟨h1,h2,h3,h4⟩
  rw[if_pos h1,if_neg oM]
  refine(Ce _ _ _ _).2 ⟨fun x hx=>⟨h3 x hx,?_,?_⟩,h4⟩
  ·have:=(h3 x hx).1
   unfold fY at this;simp at this;omega
  ·have:=(h3 x hx).2.1
   unfold fY at this;simp at this;omega
def aJ6(im:List (List aQ))(l:List bR):List bR:=l.map fun w=>(w.1,w.2.1,((im.getD w.1.toNat []).drop w.2.1.toNat).take w.2.2.length)
def Rc(x:lL)(l:List bR):lL:={x with saved:=aJ5 (l++x.saved)}
def FU(l:List lL):lL:=l.getLastD ⟨-1,0,[]⟩
def Re:List lL->List bR->List lL
 |[],_=> []
 |[x],l=> [Rc x l]
 |x::y::r,l=>x::Re (y::r) l
def IG(s:lM)(l:List bR):lM×Int:=
 if oG s=0 then(if(kY s.cur l).2.2=0 then(⟨(kY s.cur l).1,Re s.items (aJ6 s.cur l)⟩,0)else(oE,(kY s.cur l).2.2))else(oE,oG s)
def IH(s:lM)(n t:Int):lM×Int:=
 if oG s=0 then(if fY n=false then(oE,2)else if n<=(FU s.items).number then(oE,8)else if fY t=false\/t<(FU s.items).time then(oE,24)else if 1024<=s.items.length then(oE,11)else(⟨s.cur,s.items++[⟨n,t,[]⟩]⟩,0))else(oE,oG s)
def aJ7(l:List lL)(n:Int):Option Nat:=l.findIdx? fun x=>x.number==n
def aJ8(l:List lL)(i:Nat):List lL:=(match i with|0=>l|k+1=>l.set k (Rc (l.getD k gG) (l.getD (k+1) gG).saved)).eraseIdx i
def aJ9(s:lM)(n:Int):lM×Int:=
 if oG s=0 then(match aJ7 s.items n with|none=>(oE,7)|some i=>(⟨s.cur,aJ8 s.items i⟩,0))else(oE,oG s)
end Go.Proofs.YtpaomccedbjknaaGreatDoor
