/- Staging. No condition. -/
import Derived.Test.YtioafciifiggaaaGreatDoorL0
import Derived.Test.YtioafciifiggaaaGreatDoorAze
import Derived.Test.YtioafciifiggaaaGreatDoorAy
import Derived.Test.YtioafciifiggaaaGreatDoorAj
import Derived.Test.YtioafciifiggaaaGreatDoorAza
import Derived.Test.YtioafciifiggaaaGreatDoorAd
import Derived.Test.YtioafciifiggaaaGreatDoorAu
import Derived.Test.YtioafciifiggaaaGreatDoorAc
import Derived.Test.YtioafciifiggaaaGreatDoorLg
set_option linter.all false
namespace Go.Proofs.YtioafciifiggaaaGreatDoor
open Go.Proofs Go.AL
set_option maxRecDepth 100000
set_option maxHeartbeats 8000000
attribute [local irreducible] cH AW b9 dR eH hold
attribute [local irreducible] jI
theorem Mp(n:Int)(x:aW):∀(l:List aW) (m:Int),p6 n (l++[x]) m=if n<x.number then min (p6 n l m) (x.records.headD 0-1)else p6 n l m
 |[],m=>by simp only[pW,p6]
 |y::l,m=>by
  simp only[yI,p6];split
  ·exact Mp n x l _
  ·exact Mp n x l _
theorem bx3{j:Jr}{x:aW}(h:nU j x=true):x.records≠[]/\∀n∈x.records,j.first-1<n/\n<jN j:=by
 unfold nU at h;split at h
 ·split at h
  ·exact absurd h (by decide)
  ·rename_i g2
   split at h
   ·exact absurd h (by decide)
   ·split at h
    ·rename_i g4
     have h5:=of_decide_eq_true h;refine⟨fun e=> ?_,P8 _ _ _ g4⟩
     rw[e]at h5;unfold tU at h5;split at h5
     ·simp at h5
     ·simp only[fJ]at h5
      omega
    ·exact absurd h (by decide)
 ·exact absurd h (by decide)
theorem headD_cons{l:List Int}(h:l≠[]):∃a r,l=a::r:=by
 cases l with
 |nil=>exact absurd rfl h
 |cons a r=>exact⟨a,r,rfl⟩
theorem ak3(d:bL)(s:cX)(n:Int)(hS:rA s)(hs:d.st.length<=1000000)(h2:d.ca.length<=1000000)(hk:∀s∈fA d.st d.ca,dC s):PC 10 [.agg (bM d),.agg (dG s),zV n] (.aU [.agg (dG (rR d s n).1),.snap (aA bJ (rR d s n).2.1),zV (rR d s n).2.2]):=by
 refine bI Tryz.func10 Tryz.ntmps10 (by simp only[go_sem,dG]) ?_
 have c0:=CZ d hs h2;have c1:=PA s hS;have hj:=hS.b8;have iE:=hS.aR;obtain⟨M,hM⟩:∃M,rR d s n=M:=⟨_,rfl⟩;rw[hM];unfold rR at hM;by_cases g0:dM d=0
 case neg=>
  rw[if_neg g0]at hM;subst hM;have g0x:(dM d !=0)=true:=by simpa using g0
  generalize dM d=e at*;obtain⟨st,ca⟩:=d;obtain⟨⟨js,jc,jh,jt,jf,jz⟩,l⟩:=s;unfold dG lZ j9 bM at*;simp only[]at*;clear c1 hk hS g0;refine aD ?_;exact aC
 rw[if_pos g0]at hM;rw[g0]at c0;clear g0;by_cases g1:mK s=0
 case neg=>
  rw[if_neg g1]at hM;subst hM;have JD:(mK s !=0)=true:=by simpa using g1
  generalize mK s=e at*;obtain⟨st,ca⟩:=d;obtain⟨⟨js,jc,jh,jt,jf,jz⟩,l⟩:=s;unfold dG lZ j9 bM at*;simp only[]at*;clear hk hS g1;refine aD ?_;exact aC
 rw[if_pos g1]at hM;rw[g1]at c1;obtain⟨gj,-,g3⟩:=BV g1;have mM:=ET s.j _ _ _ g3;have tV:=fun x hx=>bx3 (mM x hx)
 obtain⟨hv,e1,e2,e3,e4,e5,e6,e7⟩:=uP gj;have hN:jN s.j=s.j.first+s.j.b8.length:=by unfold jN;rw[if_pos gj]
 have c2:=Ao s.j hj;rw[if_pos gj]at c2;clear g1 g3 mM hv e5 e6 e7 gj;rw[hN]at hM tV;by_cases g2:n<0\/1073741824<n
 ·rw[if_pos g2]at hM
  subst hM;obtain⟨st,ca⟩:=d;obtain⟨⟨js,jc,jh,jt,jf,jz⟩,l⟩:=s;unfold dG lZ j9 bM eZ at*;simp only[]at*;clear hk hS tV c2;by_cases g3:n<0
  ·refine aD ?_
   exact aC
  ·have g4:1073741824<n:=by omega
   refine aD ?_;exact aC
 rw[if_neg g2]at hM;have g3:¬n<0:=by omega
 have g4:¬1073741824<n:=by omega
 clear g2;have c3:=Km s.aR iE hS.one;have c4:=fun q=>bx2 d s.j q hj hs h2 hk
 have w1:IntKind.i64.wrap (s.j.first+(s.j.b8.length:Int)-1)=s.j.first+(s.j.b8.length:Int)-1:=IntWalk.i64_in _ (by omega)
 have hg:=BR s.aR;clear hk hS;generalize GY:uY d s.j=R at*;obtain⟨st,ca⟩:=d;obtain⟨⟨js,jc,jh,jt,jf,jz⟩,l⟩:=s;unfold dG bM eZ at*;simp only[]at*;clear hN;generalize IB:jf+(jz.length:Int)-1=m0 at*
 replace tV:=bB.mk tV
 refine aD ?_
 refine fK (α:=Nat) l.length (fun k id=> [(45,true,zV k),(44,true,zV l.length),(43,true,.snap (aA bQ l)),(11,true,zV (p6 n (l.take k) m0)),(12,true,uO ((l.take k).filter fun x=>decide (n<x.number)).length id),(3,true,.ptr 0 0 0),(4,true,.ptr 1 0 0),(6,true,.ptr 2 0 0),(2,true,zV n)])
  (fun k id=>(0,some (.cells 25 2 [[.snap (aA aS st),.snap (aA iP ca)]] true false))::(1,some (.cells 33 7 [[zV js,zV jc,zV jh,zV jt,zV jf,.snap (aA bD jz),.snap (aA bQ l)]] true false))::(2,some (.cells 33 7 [[zV 0,zV 0,zV 0,zV 0,zV 0,.c (.slice none 0 0),.c (.slice none 0 0)]] true false))::wM 64 7 (aA bQ ((l.take k).filter fun x=>decide (n<x.number))) ((l.take k).filter fun x=>decide (n<x.number)).length id)
  (fun k m id=>(3<=m/\((l.take k).filter fun x=>decide (n<x.number)).length<=k)/\(0<((l.take k).filter fun x=>decide (n<x.number)).length->3<=id/\id<m)) ⟨100,0,⟨⟨by omega,by simp⟩,fun h=>absurd h (by simp)⟩,aT⟩ (fun k m id hk hR=> ?_) (fun m id hR=> ?_)
 ·obtain⟨⟨hm,yQ⟩,hR⟩:=hR
  have fD:=hg k hk;rw[iK]at fD;have iI:=A8 aY hk;have Mq:=Mp n (l.getD k aY) (l.take k) m0;rw[<-iI]at Mq;have WA:=tV.out _ (cQ aY hk);rw[Mq,iI,KC];clear iI hg hM Mq tV;generalize l.getD k aY=x at*;generalize p6 n (l.take k) m0=L at*;generalize (l.take k).filter (fun x=>decide (n<x.number))=F at*
  obtain⟨xn,xp,xs,xh,xe,xr,xc⟩:=x;simp only[]at*;obtain⟨a,r,rfl⟩:=headD_cons WA.1;have ha:=WA.2 a (by simp)
  have wa:IntKind.i64.wrap (a-1)=a-1:=IntWalk.i64_in _ (by omega)
  have wV:(0:Int)<((r.length+1:Nat):Int):=by omega
  have wW:(aA bD (a::r))[0]? =some [zV a]:=rfl;have h0r:0<r.length+1:=by omega
  have h0s:0<(a::r).length:=by simp
  have hh:List.headD (a::r) (0:Int)=a:=rfl;have Cs:min L (a-1)=if a-1<L then a-1 else L:=by split<;>omega
  rw[hh,Cs];clear WA hh Cs;by_cases gn:n<xn
  ·have gn':¬xn<=n:=by omega
   rw[if_pos gn,show List.filter (fun x:aW=>decide (n<x.number)) [⟨xn,xp,xs,xh,xe,a::r,xc⟩]=[⟨xn,xp,xs,xh,xe,a::r,xc⟩]from by simp[gn]]
   cases hF:F.length with
   |zero=>
    have m5:F=[]:=jQ hF;subst m5;clear hR hF;refine aD ?_;exact⟨m+40,m+1+1+1,⟨⟨by omega,by simp⟩,fun _=>by omega⟩,aT⟩
   |succ q=>
    obtain⟨i1,i2⟩:=hR (by omega)
    have pG:(F++[(⟨xn,xp,xs,xh,xe,a::r,xc⟩:aW)]).length=q+1+1:=by simp[hF]
    rw[pG];clear hR pG;refine aD ?_;exact⟨m+40,m+1+1+1,⟨⟨by omega,by omega⟩,fun _=>by omega⟩,aT⟩
  ·have gn':xn<=n:=by omega
   rw[if_neg gn,show List.filter (fun x:aW=>decide (n<x.number)) [⟨xn,xp,xs,xh,xe,a::r,xc⟩]=[]from by simp[gn],mD]
   cases hF:F.length with
   |zero=>
    have m5:F=[]:=jQ hF;subst m5;clear hR hF;refine aD ?_;exact⟨m+40,0,⟨⟨by omega,by omega⟩,fun h=>absurd h (by simp)⟩,aT⟩
   |succ q=>
    obtain⟨i1,i2⟩:=hR (by omega)
    clear hR;refine aD ?_;exact⟨m+40,id,⟨⟨by omega,by omega⟩,fun _=>by omega⟩,aT⟩
 ·rw[lI]at hR⊢
  obtain⟨⟨hm,yQ⟩,hR⟩:=hR;have c5:=c4 (p6 n l m0);clear hg c4 tV;generalize Ct:R (p6 n l m0)=RR at*;generalize p6 n l m0=L at*;obtain⟨⟨rs,rc,rh,rt,rf,rz⟩,ro,re⟩:=RR;simp only[]at*;by_cases g5:re=0
  case neg=>
   rw[if_neg g5]at hM;subst hM;have Cr:(re !=0)=true:=by simpa using g5
   unfold lZ j9;clear g5;generalize l.filter (fun x=>decide (n<x.number))=F at*
   cases hF:F.length with
   |zero=>
    refine aD ?_;exact aC
   |succ q=>
    obtain⟨i1,i2⟩:=hR (by omega)
    refine aD ?_;exact aC
  rw[if_pos g5]at hM;subst hM;subst g5;simp only[];generalize l.filter (fun x=>decide (n<x.number))=F at*
  cases hF:F.length with
  |zero=>
   have m5:F=[]:=jQ hF;subst m5;clear hR hF;refine aD ?_;exact aC
  |succ q=>
   obtain⟨i1,i2⟩:=hR (by omega)
   have iI:F.take (q+1)=F:=eD (by omega)
   refine aD ?_;exact aC
set_option maxHeartbeats 2000000
theorem bx5(d:bL)(a:Int)(p:List Int):(lU d a p).1.length<=10/\∀w∈(lU d a p).1,w.2.2.length<=2000:=by
 have h0:([]:List eW).length<=10/\∀w∈([]:List eW),w.2.2.length<=2000:=⟨by simp,fun w hw=>by simp at hw⟩
 unfold lU;split
 ·split
  ·exact h0
  ·split
   ·exact h0
   ·refine⟨by simp,fun w hw=> ?_⟩
    simp only[cG,jF,or_false]at hw;rcases hw with rfl|rfl<;>simp[lK]
 ·exact h0
theorem bx6(d:bL)(j:Jr)(n:Int):(uY d j n).1.b8.length<=j.b8.length/\(uY d j n).2.1.length<=10/\∀w∈(uY d j n).2.1,w.2.2.length<=2000:=by
 have h0:([]:List eW).length<=10/\∀w∈([]:List eW),w.2.2.length<=2000:=⟨by simp,fun w hw=>by simp at hw⟩
 have hz:j9.b8.length<=j.b8.length:=iG _;unfold uY;split
 ·split
  ·split
   ·exact⟨hz,h0⟩
   ·split
    ·exact⟨cE _,h0⟩
    ·split
     ·refine⟨?_,bx5 _ _ _⟩
      simp only[eF];omega
     ·exact⟨hz,h0⟩
  ·exact⟨hz,h0⟩
 ·exact⟨hz,h0⟩
theorem ak4(d:bL){s:cX}(n:Int)(hs:rA s):LS (rR d s n).1 (rR d s n).2.1:=by
 have hr:=bx6 d s.j (p6 n s.aR (jN s.j-1));have hz:LS lZ []:=H3;unfold rR;split
 ·split
  ·split
   ·exact hz
   ·split
    ·refine⟨?_,?_,fun x hx=> ?_,hr.2.1,hr.2.2⟩
     ·have:=hs.b8
      have:=hr.1;simp only[];omega
     ·have:=hs.aR
      have:=KB (fun x:aW=>decide (n<x.number)) s.aR
      simp only[];omega
     ·exact(hs.one x ((pC.1 hx).1)).l2
    ·exact hz
  ·exact hz
 ·exact hz
set_option maxHeartbeats 8000000
theorem bx7{l:List Int}(h:l≠[]):(0:Int)<(l.length:Int):=by
 cases l with
 |nil=>exact absurd rfl h
 |cons a r=>simp only[dK];omega
theorem bx8(d:bL)(a c:Int)(L9:20<=c)(sS:c<=4096)(hs:d.st.length<=1000000)(h2:d.ca.length<=1000000)(hk:∀s∈fA d.st d.ca,dC s):PC 107 [.agg [zV a,zV c],.agg (bM d)] (.aU [zV (jO d a c).1.1,zV (jO d a c).1.2,zV (jO d a c).2]):=by
 refine bI Tryz.func107 Tryz.ntmps107 (by simp only[go_sem]) ?_
 have c1:=aN1 d a hs h2 hk;obtain⟨p1,p2⟩:=Vb (a:=a) hk;have k1:=tQ p1;have c2:=D1 _ p1 (by omega)
 have c3:=D1 _ k1.1 (by omega)
 have c4:=IX a c;rw[IntWalk.i64_in (c-16) (by omega)]at c4
 obtain⟨M,hM⟩:∃M,jO d a c=M:=⟨_,rfl⟩;rw[hM];unfold jO at hM;generalize oE d a=F at*;obtain⟨F1,F2,P,F4,fe⟩:=F;simp only[]at*;clear p1 p2 hk;generalize aP (aP P).2.1=Y at*;generalize aP P=X at*;obtain⟨xh,xr,xe⟩:=X;obtain⟨yf,yr,ye⟩:=Y;simp only[]at*;obtain⟨st,ca⟩:=d;unfold bM at*;simp only[]at*;by_cases g1:fe=0
 case neg=>
  rw[if_neg g1]at hM;subst hM;have JD:(fe !=0)=true:=by simpa using g1
  clear g1 c2 c3;refine aD ?_;exact aC
 rw[if_pos g1]at hM;subst g1;by_cases g2:xe=0
 case neg=>
  rw[if_neg g2]at hM;subst hM;have WI:(xe !=0)=true:=by simpa using g2
  clear g2 c3;refine aD ?_;exact aC
 rw[if_pos g2]at hM;subst g2;by_cases g3:ye=0
 case neg=>
  rw[if_neg (fun h=>g3 h.1)]at hM
  subst hM;have g3x:(ye !=0)=true:=by simpa using g3
  clear g3;refine aD ?_;exact aC
 subst g3;by_cases g4:yr=[]
 case neg=>
  rw[if_neg (fun h=>g4 h.2.1)]at hM
  subst hM;have g4x:=bx7 g4;clear g4;refine aD ?_;exact aC
 subst g4;by_cases g5:xh<c-16
 case neg=>
  rw[if_neg (fun h=>g5 h.2.2.1)]at hM
  subst hM;have Cr:c-16<=xh:=by omega
  refine aD ?_;exact aC
 have Cr:¬c-16<=xh:=by omega
 by_cases g6:1<=yf
 case neg=>
  rw[if_neg (fun h=>g6 h.2.2.2.1)]at hM
  subst hM;have g6x:yf<1:=by omega
  refine aD ?_;exact aC
 have g6x:¬yf<1:=by omega
 by_cases g7:yf<=1073741824
 case neg=>
  rw[if_neg (fun h=>g7 h.2.2.2.2)]at hM
  subst hM;have g7x:1073741824<yf:=by omega
  refine aD ?_;exact aC
 have g7x:¬1073741824<yf:=by omega
 rw[if_pos ⟨rfl,rfl,g5,g6,g7⟩]at hM;subst hM;refine aD ?_;exact aC
end Go.Proofs.YtioafciifiggaaaGreatDoor
namespace Go.Proofs.YtioafciifiggaaaGreatDoor
open Go.Proofs Go.AL
set_option maxRecDepth 100000
set_option maxHeartbeats 8000000
attribute [local irreducible] cH AW b9 dR eH hold
theorem H9{a b c d:Int}(ha:aV a)(hb:aV b)(hc:aV c)(hd:aV d):
  bits .or .i64 a (b*256)=a+256*b/\bits .or .i64 (a+256*b) (c*65536)=a+256*b+65536*c/\bits .or .i64 (a+256*b+65536*c) (d*16777216)=a+256*b+65536*c+16777216*d:=by
 unfold aV at ha hb hc hd;have p8:(2:Int) ^ 8=256:=by decide
 have p16:(2:Int) ^ 16=65536:=by decide
 have p24:(2:Int) ^ 24=16777216:=by decide
 refine⟨?_,?_,?_⟩
 ·rw[OJ,EH (i:=8) (by omega) (by omega) (by omega) (by omega) (by omega) (by omega)]
  omega
 ·rw[OJ,EH (i:=16) (by omega) (by omega) (by omega) (by omega) (by omega) (by omega)]
  omega
 ·rw[OJ,EH (i:=24) (by omega) (by omega) (by omega) (by omega) (by omega) (by omega)]
  omega
theorem y7{x:Int}(hx:aV x):IntKind.i64.wrap (x*2 ^ min 8 64)=x*256/\IntKind.i64.wrap (x*2 ^ min 16 64)=x*65536/\IntKind.i64.wrap (x*2 ^ min 24 64)=x*16777216:=by
 unfold aV at hx;have m8:(2:Int) ^ min 8 64=256:=by decide
 have m16:(2:Int) ^ min 16 64=65536:=by decide
 have m24:(2:Int) ^ min 24 64=16777216:=by decide
 rw[m8,m16,m24];exact⟨IntWalk.i64_in _ (by omega),IntWalk.i64_in _ (by omega),IntWalk.i64_in _ (by omega)⟩
theorem M4(s:aH)(h:ZH s):PC 251 [.agg (aS s)] (zV (bN s)):=by
 refine bI Tryz.func251 Tryz.ntmps251 (.c _) ?_;obtain⟨⟨a,b,c,d⟩,x1,x2,x3,x4⟩:=s;have hs:aS ((a,b,c,d),x1,x2,x3,x4)=[uV a,uV b,uV c,uV d,uV x1,uV x2,uV x3,uV x4]:=rfl;obtain⟨ha,hb,hc,hd⟩:=h;simp only[]at ha hb hc hd;obtain⟨o1,o2,o3⟩:=H9 ha hb hc hd;obtain⟨s1,-,-⟩:=y7 hb;obtain⟨-,s2,-⟩:=y7 hc;obtain⟨-,-,s3⟩:=y7 hd;have F5:bN ((a,b,c,d),x1,x2,x3,x4)=a+256*b+65536*c+16777216*d:=rfl
 rw[F5];have wa:IntKind.i64.wrap a=a:=IntWalk.i64_in _ (by have:=ha.1;have:=ha.2;omega)
 have wb:IntKind.i64.wrap b=b:=IntWalk.i64_in _ (by have:=hb.1;have:=hb.2;omega)
 have wc:IntKind.i64.wrap c=c:=IntWalk.i64_in _ (by have:=hc.1;have:=hc.2;omega)
 have wd:IntKind.i64.wrap d=d:=IntWalk.i64_in _ (by have:=hd.1;have:=hd.2;omega)
 refine aD ?_;exact aC
theorem by3(s:aH)(h:ZH s):PC 175 [.agg (aS s)] (zV (bN s)):=by
 refine bI Tryz.func175 Tryz.ntmps175 (.c _) ?_;obtain⟨⟨a,b,c,d⟩,x1,x2,x3,x4⟩:=s;have hs:aS ((a,b,c,d),x1,x2,x3,x4)=[uV a,uV b,uV c,uV d,uV x1,uV x2,uV x3,uV x4]:=rfl;obtain⟨ha,hb,hc,hd⟩:=h;simp only[]at ha hb hc hd;obtain⟨o1,o2,o3⟩:=H9 ha hb hc hd;obtain⟨s1,-,-⟩:=y7 hb;obtain⟨-,s2,-⟩:=y7 hc;obtain⟨-,-,s3⟩:=y7 hd;have F5:bN ((a,b,c,d),x1,x2,x3,x4)=a+256*b+65536*c+16777216*d:=rfl
 rw[F5];have wa:IntKind.i64.wrap a=a:=IntWalk.i64_in _ (by have:=ha.1;have:=ha.2;omega)
 have wb:IntKind.i64.wrap b=b:=IntWalk.i64_in _ (by have:=hb.1;have:=hb.2;omega)
 have wc:IntKind.i64.wrap c=c:=IntWalk.i64_in _ (by have:=hc.1;have:=hc.2;omega)
 have wd:IntKind.i64.wrap d=d:=IntWalk.i64_in _ (by have:=hd.1;have:=hd.2;omega)
 refine aD ?_;exact aC
abbrev yY(e:Int):Value:= .iface 328 (.agg #[.int .i64 e])
theorem y8(e:Int):PC 250 [bV true,zV e] (.aU []):=by
 refine bI Tryz.func250 Tryz.ntmps250 (.aU _ (by simp)) ?_
 refine aG ?_;exact aC
theorem M5(e:Int):IK Tryz.prog 250 [bV false,zV e] (yY e):=by
 refine Ii Tryz.func250 Tryz.ntmps250 ?_;have s1:qX 1 3 (yY e):=⟨⟩;refine sH ?_;rfl
def kR(a:AV)(s n:Int):aI:= .cells 334 3 [[a,zV s,zV n]] true false
theorem WJ(B:List Int)(s n:Int)(k:Nat)(hk:k<=B.length)(hl:B.length<=1000000)(id:Nat):l6 Tryz.prog 253 [.ptr id 0 0,zV k] id (kR (.snap (aA aN B)) s n) (some (kR (.snap (aA aN (B.drop k))) s n)) (.snap (aA aN (B.take k))) 50:=by
 refine DT Tryz.func253 Tryz.ntmps253 ?_;intro N G aB jL hG;unfold kR at*;have e3:(B.drop k).take (B.length-k)=B.drop k:=eD (by rw[eF];exact cE _)
 refine bW ?_;exact rT
theorem ak7(b0:Int)(B:List Int)(s n:Int)(h0:aV b0)(hl:(b0::B).length<=1000000)(id:Nat):l6 Tryz.prog 252 [.ptr id 0 0,zV 1] id (kR (.snap (aA aN (b0::B))) s n) (some (kR (.snap (aA aN B)) s n)) (zV b0) 100:=by
 refine DT Tryz.func252 Tryz.ntmps252 ?_;intro N G aB jL hG;have c1:l6 Tryz.prog 253 [.ptr id 0 0,zV 1] id (kR (.snap (aA aN (b0::B))) s n) (some (kR (.snap (aA aN B)) s n)) (.snap [[uV b0]]) 50:=WJ (b0::B) s n 1 (by simp) hl id
 have u1:IntKind.i64.wrap b0=b0:=IntWalk.i64_in _ (by have:=h0.1;have:=h0.2;omega)
 have u2:IntKind.i64.wrap (b0*2 ^ min 0 64)=b0:=by rw[show(2:Int) ^ min 0 64=1 from rfl,Fx];exact u1
 have u3:bits .or .i64 0 b0=b0:=by
  rw[OJ,EH (i:=0) (by have:=h0.1;omega) (by omega) (by have:=h0.2;omega) (by decide) (by decide) (by decide)]
  omega
 refine bW ?_;refine kC 2 ?_;refine kM ?_;refine bW ?_;exact rT
theorem ak8(b0 b1:Int)(B:List Int)(s n:Int)(h0:aV b0)(h1:aV b1)(hl:(b0::b1::B).length<=1000000)(id:Nat):l6 Tryz.prog 252 [.ptr id 0 0,zV 2] id (kR (.snap (aA aN (b0::b1::B))) s n) (some (kR (.snap (aA aN B)) s n)) (zV (b0+256*b1)) 100:=by
 refine DT Tryz.func252 Tryz.ntmps252 ?_;intro N G aB jL hG;have c1:l6 Tryz.prog 253 [.ptr id 0 0,zV 2] id (kR (.snap (aA aN (b0::b1::B))) s n) (some (kR (.snap (aA aN B)) s n)) (.snap [[uV b0],[uV b1]]) 50:=WJ (b0::b1::B) s n 2 (by simp) hl id
 have u1:IntKind.i64.wrap b0=b0:=IntWalk.i64_in _ (by have:=h0.1;have:=h0.2;omega)
 have u2:IntKind.i64.wrap (b0*2 ^ min 0 64)=b0:=by rw[show(2:Int) ^ min 0 64=1 from rfl,Fx];exact u1
 have u3:bits .or .i64 0 b0=b0:=by
  rw[OJ,EH (i:=0) (by have:=h0.1;omega) (by omega) (by have:=h0.2;omega) (by decide) (by decide) (by decide)]
  omega
 have v1:IntKind.i64.wrap b1=b1:=IntWalk.i64_in _ (by have:=h1.1;have:=h1.2;omega)
 have v2:=(y7 h1).1;have v3:=(H9 h0 h1 h0 h0).1;refine bW ?_;refine kC 3 ?_;refine kM ?_;refine bW ?_;exact rT
theorem ak9(b0 b1 b2 b3:Int)(B:List Int)(s n:Int)(h0:aV b0)(h1:aV b1)(h2:aV b2)(h3:aV b3)(hl:(b0::b1::b2::b3::B).length<=1000000)(id:Nat):l6 Tryz.prog 252 [.ptr id 0 0,zV 4] id (kR (.snap (aA aN (b0::b1::b2::b3::B))) s n) (some (kR (.snap (aA aN B)) s n)) (zV (b0+256*b1+65536*b2+16777216*b3)) 100:=by
 refine DT Tryz.func252 Tryz.ntmps252 ?_;intro N G aB jL hG;have c1:l6 Tryz.prog 253 [.ptr id 0 0,zV 4] id (kR (.snap (aA aN (b0::b1::b2::b3::B))) s n) (some (kR (.snap (aA aN B)) s n)) (.snap [[uV b0],[uV b1],[uV b2],[uV b3]]) 50:=WJ (b0::b1::b2::b3::B) s n 4 (by simp) hl id
 have u1:IntKind.i64.wrap b0=b0:=IntWalk.i64_in _ (by have:=h0.1;have:=h0.2;omega)
 have u2:IntKind.i64.wrap (b0*2 ^ min 0 64)=b0:=by rw[show(2:Int) ^ min 0 64=1 from rfl,Fx];exact u1
 have u3:bits .or .i64 0 b0=b0:=by
  rw[OJ,EH (i:=0) (by have:=h0.1;omega) (by omega) (by have:=h0.2;omega) (by decide) (by decide) (by decide)]
  omega
 have v1:IntKind.i64.wrap b1=b1:=IntWalk.i64_in _ (by have:=h1.1;have:=h1.2;omega)
 have v2:=(y7 h1).1;have x1:IntKind.i64.wrap b2=b2:=IntWalk.i64_in _ (by have:=h2.1;have:=h2.2;omega)
 have x2:=(y7 h2).2.1;have y1:IntKind.i64.wrap b3=b3:=IntWalk.i64_in _ (by have:=h3.1;have:=h3.2;omega)
 have y2:=(y7 h3).2.2;obtain⟨v3,v4,v5⟩:=H9 h0 h1 h2 h3;refine bW ?_;refine kC 5 ?_;refine kM ?_;refine bW ?_;exact rT
set_option maxHeartbeats 1000000
def tX(x:Int):Bool:=x !=0
abbrev Cu:AV:= .fn (.func 255) [] []
theorem by4(x:Int):PC 255 [uV x] (bV (tX x)):=by
 refine bI Tryz.func255 Tryz.ntmps255 (.c _) ?_;unfold tX;refine aD ?_;exact aC
theorem by5(l:List Int)(hl:l.length<=1000000):PC 287 [.snap (aA aN l),Cu] (zV (sB (l.findIdx? tX))):=by
 refine bI Tryz.func287 Tryz.ntmps287 (.c _) ?_;unfold sB Cu;have hg:=gB l;refine aG ?_;refine fK (α:=Unit) l.length (fun k _=> [(8,true,zV k),(7,true,zV l.length),(0,true,.snap (aA aN l)),(1,true,.fn (.func 255) [] [])]) (fun _ _=> []) (fun k m _=>∀i,i<k->tX (l.getD i 0)=false) ⟨0,(),fun i hi=>by omega,aT⟩ (fun k m _ hk hR=> ?_) (fun m _ hR=> ?_)
 ·have c1:=by4 (l.getD k 0)
  cases h:tX (l.getD k 0)with
  |true=>
   have hf:l.findIdx? tX=some k:=by
    rw[K8];exact⟨hk,by simpa[hk]using h,fun j hj=>by have:=hR j hj;simp[show j<l.length by omega]at this;simpa using this⟩
   rw[h]at c1;clear hR;refine aG ?_;exact aC
  |false=>
   rw[h]at c1
   have cP:∀i,i<k+1->tX (l.getD i 0)=false:=fun i hi=>by
    by_cases iH:i=k
    ·subst iH;exact h
    ·exact hR i (by omega)
   clear hR;refine aG ?_;exact⟨m,(),cP,aT⟩
 ·have hf:l.findIdx? tX=none:=by
   rw[K9];intro x hx;obtain⟨i,hi⟩:=FY.1 hx;obtain⟨h1,h2⟩:=dV.1 hi;have:=hR i h1;simp[h1,h2]at this;exact this
  clear hR;refine aG ?_;exact aC
theorem by6(l:List Int):decide (0<=sB (l.findIdx? tX))=l.any tX:=by
 cases h:l.findIdx? tX with
 |none=>
  rw[K9]at h;simp only[sB];symm;simpa using h
 |some i=>
  rw[K8]at h;obtain⟨h1,h2,_⟩:=h;simp only[sB];have:l.any tX=true:=vX.2 ⟨_,FZ h1,h2⟩;rw[this];simp
theorem al0(l:List Int)(hl:l.length<=1000000):PC 254 [.snap (aA aN l),Cu] (bV (l.any tX)):=by
 refine bI Tryz.func254 Tryz.ntmps254 (.c _) ?_;have c1:=by5 l hl;have h1:=by6 l;unfold Cu at c1⊢;refine aG ?_;exact aC
end Go.Proofs.YtioafciifiggaaaGreatDoor
