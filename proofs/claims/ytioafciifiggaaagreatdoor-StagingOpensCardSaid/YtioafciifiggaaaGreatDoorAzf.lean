/- Staging. No condition. -/
import Derived.Test.YtioafciifiggaaaGreatDoorL0
import Derived.Test.YtioafciifiggaaaGreatDoorAze
import Derived.Test.YtioafciifiggaaaGreatDoorAf
import Derived.Test.YtioafciifiggaaaGreatDoorAy
import Derived.Test.YtioafciifiggaaaGreatDoorAe
import Derived.Test.YtioafciifiggaaaGreatDoorAd
import Derived.Test.YtioafciifiggaaaGreatDoorLg
set_option linter.all false
namespace Go.Proofs.YtioafciifiggaaaGreatDoor
open Go.Proofs Go.AL
set_option maxRecDepth 100000
set_option maxHeartbeats 8000000
attribute [local irreducible] cB AW aX cZ dK hold
attribute [local irreducible] eV
theorem Qf{l:List Int}(h:l≠[]):(0:Int)<(l.length:Int):=by
 cases l with
 |nil=>exact absurd rfl h
 |cons a r=>simp only[eI];omega
theorem aD1(d:fJ)(a c:Int)(sB:20<=c)(DL:c<=4096)(hs:d.st.length<=1000000)(h2:d.ca.length<=1000000)(hk:∀s∈iK d.st d.ca,eR s):PC 107 [.agg [zV a,zV c],.agg (dI d)] (.aR [zV (gZ d a c).1.1,zV (gZ d a c).1.2,zV (gZ d a c).2]):=by
 refine aT Tryz.func107 Tryz.ntmps107 (by simp only[go_sem]) ?_
 have c1:=ae5 d a hs h2 hk;obtain⟨p1,p2⟩:=ZO (a:=a) hk;have k1:=mB p1;have c2:=A5 _ p1 (by omega)
 have c3:=A5 _ k1.1 (by omega)
 have c4:=II a c;rw[IntWalk.i64_in (c-16) (by omega)]at c4
 obtain⟨M,hM⟩:∃M,gZ d a c=M:=⟨_,rfl⟩;rw[hM];unfold gZ at hM;generalize kO d a=F at*;obtain⟨F1,F2,P,F4,fe⟩:=F;simp only[]at*;clear p1 p2 hk;generalize aF (aF P).2.1=Y at*;generalize aF P=X at*;obtain⟨xh,xr,xe⟩:=X;obtain⟨yf,yr,ye⟩:=Y;simp only[]at*;obtain⟨st,ca⟩:=d;unfold dI at*;simp only[]at*;by_cases g1:fe=0
 case neg=>
  rw[if_neg g1]at hM;subst hM;have xY:(fe !=0)=true:=by simpa using g1
  clear g1 c2 c3;refine aE ?_;exact aB
 rw[if_pos g1]at hM;subst g1;by_cases g2:xe=0
 case neg=>
  rw[if_neg g2]at hM;subst hM;have CG:(xe !=0)=true:=by simpa using g2
  clear g2 c3;refine aE ?_;exact aB
 rw[if_pos g2]at hM;subst g2;by_cases g3:ye=0
 case neg=>
  rw[if_neg (fun h=>g3 h.1)]at hM
  subst hM;have AO:(ye !=0)=true:=by simpa using g3
  clear g3;refine aE ?_;exact aB
 subst g3;by_cases g4:yr=[]
 case neg=>
  rw[if_neg (fun h=>g4 h.2.1)]at hM
  subst hM;have R5:=Qf g4;clear g4;refine aE ?_;exact aB
 subst g4;by_cases g5:xh<c-16
 case neg=>
  rw[if_neg (fun h=>g5 h.2.2.1)]at hM
  subst hM;have R6:c-16<=xh:=by omega
  refine aE ?_;exact aB
 have R6:¬c-16<=xh:=by omega
 by_cases g6:1<=yf
 case neg=>
  rw[if_neg (fun h=>g6 h.2.2.2.1)]at hM
  subst hM;have Db:yf<1:=by omega
  refine aE ?_;exact aB
 have Db:¬yf<1:=by omega
 by_cases g7:yf<=1073741824
 case neg=>
  rw[if_neg (fun h=>g7 h.2.2.2.2)]at hM
  subst hM;have Dc:1073741824<yf:=by omega
  refine aE ?_;exact aB
 have Dc:¬1073741824<yf:=by omega
 rw[if_pos ⟨rfl,rfl,g5,g6,g7⟩]at hM;subst hM;refine aE ?_;exact aB
def xZ(d:fJ)(a c:Int):(Int×Int)×Int:=
 if l6 d=0 then
  if lV a c=true/\a+c<=(d.st.length:Int)then gZ d a c else((0,0),2)
 else((0,0),l6 d)
theorem aD2(d:fJ)(a c:Int)(hs:d.st.length<=1000000)(h2:d.ca.length<=1000000)(hk:∀s∈iK d.st d.ca,eR s):PC 116 [.agg (dI d),.agg [zV a,zV c]] (.aR [zV (xZ d a c).1.1,zV (xZ d a c).1.2,zV (xZ d a c).2]):=by
 refine aT Tryz.func116 Tryz.ntmps116 (by simp only[go_sem]) ?_
 have c0:=ZJ d hs h2;have c5:=Kw a c;have c1:=ac7 d a hs h2 hk;obtain⟨p1,p2⟩:=ZO (a:=a) hk;have k1:=mB p1;have c2:=vW _ p1 (by omega)
 have c3:=vW _ k1.1 (by omega)
 obtain⟨M,hM⟩:∃M,xZ d a c=M:=⟨_,rfl⟩;rw[hM];unfold xZ at hM;by_cases b0:l6 d=0
 case neg=>
  rw[if_neg b0]at hM;subst hM;have b0x:(l6 d !=0)=true:=by simpa using b0
  clear c1 c2 c3 p1 p2 k1 hk c5;generalize l6 d=e at*;obtain⟨st,ca⟩:=d;unfold dI at*;clear b0;refine aE ?_;exact aB
 rw[if_pos b0]at hM;rw[b0]at c0;clear b0;by_cases b1:lV a c=true
 case neg=>
  rw[if_neg (fun h=>b1 h.1)]at hM
  subst hM;have WQ:lV a c=false:=by simpa using b1
  rw[WQ]at c5;clear c1 c2 c3 p1 p2 k1 hk b1 WQ;obtain⟨st,ca⟩:=d;unfold dI at*;refine aE ?_;exact aB
 have hv:=yW b1;rw[b1]at c5;have w1:IntKind.i64.wrap (a+c)=a+c:=IntWalk.i64_in _ (by omega)
 have w2:IntKind.i64.wrap (c-16)=c-16:=IntWalk.i64_in _ (by omega)
 by_cases b2:a+c<=(d.st.length:Int)
 case neg=>
  rw[if_neg (fun h=>b2 h.2)]at hM
  subst hM;have b2x:(d.st.length:Int)<a+c:=by omega
  clear c1 c2 c3 p1 p2 k1 hk b1;obtain⟨st,ca⟩:=d;unfold dI at*;simp only[]at*;refine aE ?_;exact aB
 have b2x:¬(d.st.length:Int)<a+c:=by omega
 rw[if_pos ⟨b1,b2⟩]at hM;unfold gZ at hM;clear b1;generalize kO d a=F at*;obtain⟨F1,F2,P,F4,fe⟩:=F;simp only[]at*;clear p1 p2 hk;generalize aF (aF P).2.1=Y at*;generalize aF P=X at*;obtain⟨xh,xr,xe⟩:=X;obtain⟨yf,yr,ye⟩:=Y;simp only[]at*;obtain⟨st,ca⟩:=d;unfold dI at*;simp only[]at*;by_cases g1:fe=0
 case neg=>
  rw[if_neg g1]at hM;subst hM;have xY:(fe !=0)=true:=by simpa using g1
  clear g1 c2 c3;refine aE ?_;exact aB
 rw[if_pos g1]at hM;subst g1;by_cases g2:xe=0
 case neg=>
  rw[if_neg g2]at hM;subst hM;have CG:(xe !=0)=true:=by simpa using g2
  clear g2 c3;refine aE ?_;exact aB
 rw[if_pos g2]at hM;subst g2;by_cases g3:ye=0
 case neg=>
  rw[if_neg (fun h=>g3 h.1)]at hM
  subst hM;have AO:(ye !=0)=true:=by simpa using g3
  clear g3;refine aE ?_;exact aB
 subst g3;by_cases g4:yr=[]
 case neg=>
  rw[if_neg (fun h=>g4 h.2.1)]at hM
  subst hM;have R5:=Qf g4;clear g4;refine aE ?_;exact aB
 subst g4;by_cases g5:xh<c-16
 case neg=>
  rw[if_neg (fun h=>g5 h.2.2.1)]at hM
  subst hM;have R6:c-16<=xh:=by omega
  refine aE ?_;exact aB
 have R6:¬c-16<=xh:=by omega
 by_cases g6:1<=yf
 case neg=>
  rw[if_neg (fun h=>g6 h.2.2.2.1)]at hM
  subst hM;have Db:yf<1:=by omega
  refine aE ?_;exact aB
 have Db:¬yf<1:=by omega
 by_cases g7:yf<=1073741824
 case neg=>
  rw[if_neg (fun h=>g7 h.2.2.2.2)]at hM
  subst hM;have Dc:1073741824<yf:=by omega
  refine aE ?_;exact aB
 have Dc:¬1073741824<yf:=by omega
 rw[if_pos ⟨rfl,rfl,g5,g6,g7⟩]at hM;subst hM;refine aE ?_;exact aB
end Go.Proofs.YtioafciifiggaaaGreatDoor
namespace Go.Proofs.YtioafciifiggaaaGreatDoor
open Go.Proofs Go.AL
set_option maxRecDepth 100000
set_option maxHeartbeats 8000000
attribute [local irreducible] cB AW aX cZ dK hold
theorem DQ{a b c d:Int}(ha:aV a)(hb:aV b)(hc:aV c)(hd:aV d):
  bits .or .i64 a (b*256)=a+256*b/\bits .or .i64 (a+256*b) (c*65536)=a+256*b+65536*c/\bits .or .i64 (a+256*b+65536*c) (d*16777216)=a+256*b+65536*c+16777216*d:=by
 unfold aV at ha hb hc hd;have p8:(2:Int) ^ 8=256:=by decide
 have Jx:(2:Int) ^ 16=65536:=by decide
 have Jy:(2:Int) ^ 24=16777216:=by decide
 refine⟨?_,?_,?_⟩
 ·rw[HM,BZ (i:=8) (by omega) (by omega) (by omega) (by omega) (by omega) (by omega)]
  omega
 ·rw[HM,BZ (i:=16) (by omega) (by omega) (by omega) (by omega) (by omega) (by omega)]
  omega
 ·rw[HM,BZ (i:=24) (by omega) (by omega) (by omega) (by omega) (by omega) (by omega)]
  omega
theorem vC{x:Int}(hx:aV x):IntKind.i64.wrap (x*2 ^ min 8 64)=x*256/\IntKind.i64.wrap (x*2 ^ min 16 64)=x*65536/\IntKind.i64.wrap (x*2 ^ min 24 64)=x*16777216:=by
 unfold aV at hx;have m8:(2:Int) ^ min 8 64=256:=by decide
 have UO:(2:Int) ^ min 16 64=65536:=by decide
 have UP:(2:Int) ^ min 24 64=16777216:=by decide
 rw[m8,UO,UP];exact⟨IntWalk.i64_in _ (by omega),IntWalk.i64_in _ (by omega),IntWalk.i64_in _ (by omega)⟩
theorem IW(s:aY)(h:LA s):PC 251 [.agg (aQ s)] (zV (cL s)):=by
 refine aT Tryz.func251 Tryz.ntmps251 (.c _) ?_;obtain⟨⟨a,b,c,d⟩,x1,x2,x3,x4⟩:=s;have hs:aQ ((a,b,c,d),x1,x2,x3,x4)=[uV a,uV b,uV c,uV d,uV x1,uV x2,uV x3,uV x4]:=rfl;obtain⟨ha,hb,hc,hd⟩:=h;simp only[]at ha hb hc hd;obtain⟨o1,o2,o3⟩:=DQ ha hb hc hd;obtain⟨s1,-,-⟩:=vC hb;obtain⟨-,s2,-⟩:=vC hc;obtain⟨-,-,s3⟩:=vC hd;have qL:cL ((a,b,c,d),x1,x2,x3,x4)=a+256*b+65536*c+16777216*d:=rfl
 rw[qL];have wa:IntKind.i64.wrap a=a:=IntWalk.i64_in _ (by have:=ha.1;have:=ha.2;omega)
 have wb:IntKind.i64.wrap b=b:=IntWalk.i64_in _ (by have:=hb.1;have:=hb.2;omega)
 have wc:IntKind.i64.wrap c=c:=IntWalk.i64_in _ (by have:=hc.1;have:=hc.2;omega)
 have wd:IntKind.i64.wrap d=d:=IntWalk.i64_in _ (by have:=hd.1;have:=hd.2;omega)
 refine aE ?_;exact aB
theorem aD4(s:aY)(h:LA s):PC 175 [.agg (aQ s)] (zV (cL s)):=by
 refine aT Tryz.func175 Tryz.ntmps175 (.c _) ?_;obtain⟨⟨a,b,c,d⟩,x1,x2,x3,x4⟩:=s;have hs:aQ ((a,b,c,d),x1,x2,x3,x4)=[uV a,uV b,uV c,uV d,uV x1,uV x2,uV x3,uV x4]:=rfl;obtain⟨ha,hb,hc,hd⟩:=h;simp only[]at ha hb hc hd;obtain⟨o1,o2,o3⟩:=DQ ha hb hc hd;obtain⟨s1,-,-⟩:=vC hb;obtain⟨-,s2,-⟩:=vC hc;obtain⟨-,-,s3⟩:=vC hd;have qL:cL ((a,b,c,d),x1,x2,x3,x4)=a+256*b+65536*c+16777216*d:=rfl
 rw[qL];have wa:IntKind.i64.wrap a=a:=IntWalk.i64_in _ (by have:=ha.1;have:=ha.2;omega)
 have wb:IntKind.i64.wrap b=b:=IntWalk.i64_in _ (by have:=hb.1;have:=hb.2;omega)
 have wc:IntKind.i64.wrap c=c:=IntWalk.i64_in _ (by have:=hc.1;have:=hc.2;omega)
 have wd:IntKind.i64.wrap d=d:=IntWalk.i64_in _ (by have:=hd.1;have:=hd.2;omega)
 refine aE ?_;exact aB
abbrev wI(e:Int):Value:= .iface 328 (.agg #[.int .i64 e])
theorem vD(e:Int):PC 250 [bV true,zV e] (.aR []):=by
 refine aT Tryz.func250 Tryz.ntmps250 (.aR _ (by simp)) ?_
 refine aD ?_;exact aB
theorem IX(e:Int):F9 Tryz.prog 250 [bV false,zV e] (wI e):=by
 refine ZY Tryz.func250 Tryz.ntmps250 ?_;have s1:oP 1 3 (wI e):=⟨⟩;refine pS ?_;rfl
def jK(a:AV)(s n:Int):aI:= .cells 334 3 [[a,zV s,zV n]] true false
theorem R7(B:List Int)(s n:Int)(k:Nat)(hk:k<=B.length)(hl:B.length<=1000000)(id:Nat):jZ Tryz.prog 253 [.ptr id 0 0,zV k] id (jK (.snap (aA aH B)) s n) (some (jK (.snap (aA aH (B.drop k))) s n)) (.snap (aA aH (B.take k))) 50:=by
 refine AU Tryz.func253 Tryz.ntmps253 ?_;intro N G aC iL hG;unfold jK at*;have e3:(B.drop k).take (B.length-k)=B.drop k:=cR (by rw[fX];exact cA _)
 refine bO ?_;exact pI
theorem Qg(b0:Int)(B:List Int)(s n:Int)(h0:aV b0)(hl:(b0::B).length<=1000000)(id:Nat):jZ Tryz.prog 252 [.ptr id 0 0,zV 1] id (jK (.snap (aA aH (b0::B))) s n) (some (jK (.snap (aA aH B)) s n)) (zV b0) 100:=by
 refine AU Tryz.func252 Tryz.ntmps252 ?_;intro N G aC iL hG;have c1:jZ Tryz.prog 253 [.ptr id 0 0,zV 1] id (jK (.snap (aA aH (b0::B))) s n) (some (jK (.snap (aA aH B)) s n)) (.snap [[uV b0]]) 50:=R7 (b0::B) s n 1 (by simp) hl id
 have u1:IntKind.i64.wrap b0=b0:=IntWalk.i64_in _ (by have:=h0.1;have:=h0.2;omega)
 have u2:IntKind.i64.wrap (b0*2 ^ min 0 64)=b0:=by rw[show(2:Int) ^ min 0 64=1 from rfl,Int.mul_one];exact u1
 have u3:bits .or .i64 0 b0=b0:=by
  rw[HM,BZ (i:=0) (by have:=h0.1;omega) (by omega) (by have:=h0.2;omega) (by decide) (by decide) (by decide)]
  omega
 refine bO ?_;refine eP 2 ?_;refine eQ ?_;refine bO ?_;exact pI
theorem Qh(b0 b1:Int)(B:List Int)(s n:Int)(h0:aV b0)(h1:aV b1)(hl:(b0::b1::B).length<=1000000)(id:Nat):jZ Tryz.prog 252 [.ptr id 0 0,zV 2] id (jK (.snap (aA aH (b0::b1::B))) s n) (some (jK (.snap (aA aH B)) s n)) (zV (b0+256*b1)) 100:=by
 refine AU Tryz.func252 Tryz.ntmps252 ?_;intro N G aC iL hG;have c1:jZ Tryz.prog 253 [.ptr id 0 0,zV 2] id (jK (.snap (aA aH (b0::b1::B))) s n) (some (jK (.snap (aA aH B)) s n)) (.snap [[uV b0],[uV b1]]) 50:=R7 (b0::b1::B) s n 2 (by simp) hl id
 have u1:IntKind.i64.wrap b0=b0:=IntWalk.i64_in _ (by have:=h0.1;have:=h0.2;omega)
 have u2:IntKind.i64.wrap (b0*2 ^ min 0 64)=b0:=by rw[show(2:Int) ^ min 0 64=1 from rfl,Int.mul_one];exact u1
 have u3:bits .or .i64 0 b0=b0:=by
  rw[HM,BZ (i:=0) (by have:=h0.1;omega) (by omega) (by have:=h0.2;omega) (by decide) (by decide) (by decide)]
  omega
 have v1:IntKind.i64.wrap b1=b1:=IntWalk.i64_in _ (by have:=h1.1;have:=h1.2;omega)
 have v2:=(vC h1).1;have v3:=(DQ h0 h1 h0 h0).1;refine bO ?_;refine eP 3 ?_;refine eQ ?_;refine bO ?_;exact pI
theorem Qi(b0 b1 b2 b3:Int)(B:List Int)(s n:Int)(h0:aV b0)(h1:aV b1)(h2:aV b2)(h3:aV b3)(hl:(b0::b1::b2::b3::B).length<=1000000)(id:Nat):jZ Tryz.prog 252 [.ptr id 0 0,zV 4] id (jK (.snap (aA aH (b0::b1::b2::b3::B))) s n) (some (jK (.snap (aA aH B)) s n)) (zV (b0+256*b1+65536*b2+16777216*b3)) 100:=by
 refine AU Tryz.func252 Tryz.ntmps252 ?_;intro N G aC iL hG;have c1:jZ Tryz.prog 253 [.ptr id 0 0,zV 4] id (jK (.snap (aA aH (b0::b1::b2::b3::B))) s n) (some (jK (.snap (aA aH B)) s n)) (.snap [[uV b0],[uV b1],[uV b2],[uV b3]]) 50:=R7 (b0::b1::b2::b3::B) s n 4 (by simp) hl id
 have u1:IntKind.i64.wrap b0=b0:=IntWalk.i64_in _ (by have:=h0.1;have:=h0.2;omega)
 have u2:IntKind.i64.wrap (b0*2 ^ min 0 64)=b0:=by rw[show(2:Int) ^ min 0 64=1 from rfl,Int.mul_one];exact u1
 have u3:bits .or .i64 0 b0=b0:=by
  rw[HM,BZ (i:=0) (by have:=h0.1;omega) (by omega) (by have:=h0.2;omega) (by decide) (by decide) (by decide)]
  omega
 have v1:IntKind.i64.wrap b1=b1:=IntWalk.i64_in _ (by have:=h1.1;have:=h1.2;omega)
 have v2:=(vC h1).1;have x1:IntKind.i64.wrap b2=b2:=IntWalk.i64_in _ (by have:=h2.1;have:=h2.2;omega)
 have x2:=(vC h2).2.1;have y1:IntKind.i64.wrap b3=b3:=IntWalk.i64_in _ (by have:=h3.1;have:=h3.2;omega)
 have y2:=(vC h3).2.2;obtain⟨v3,v4,v5⟩:=DQ h0 h1 h2 h3;refine bO ?_;refine eP 5 ?_;refine eQ ?_;refine bO ?_;exact pI
set_option maxHeartbeats 1000000
def nA(x:Int):Bool:=x !=0
abbrev WR:AV:= .fn (.func 255) [] []
theorem aD5(x:Int):PC 255 [uV x] (bV (nA x)):=by
 refine aT Tryz.func255 Tryz.ntmps255 (.c _) ?_;unfold nA;refine aE ?_;exact aB
theorem aD6(l:List Int)(hl:l.length<=1000000):PC 287 [.snap (aA aH l),WR] (zV (pR (l.findIdx? nA))):=by
 refine aT Tryz.func287 Tryz.ntmps287 (.c _) ?_;unfold pR WR;have hg:=gB l;refine aD ?_;refine dP (α:=Unit) l.length (fun k _=> [(8,true,zV k),(7,true,zV l.length),(0,true,.snap (aA aH l)),(1,true,.fn (.func 255) [] [])]) (fun _ _=> []) (fun k m _=>∀i,i<k->nA (l.getD i 0)=false) ⟨0,(),fun i hi=>by omega,aN⟩ (fun k m _ hk hR=> ?_) (fun m _ hR=> ?_)
 ·have c1:=aD5 (l.getD k 0)
  cases h:nA (l.getD k 0)with
  |true=>
   have hf:l.findIdx? nA=some k:=by
    rw[HA];exact⟨hk,by simpa[hk]using h,fun j hj=>by have:=hR j hj;simp[show j<l.length by omega]at this;simpa using this⟩
   rw[h]at c1;clear hR;refine aD ?_;exact aB
  |false=>
   rw[h]at c1
   have bK:∀i,i<k+1->nA (l.getD i 0)=false:=fun i hi=>by
    by_cases fE:i=k
    ·subst fE;exact h
    ·exact hR i (by omega)
   clear hR;refine aD ?_;exact⟨m,(),bK,aN⟩
 ·have hf:l.findIdx? nA=none:=by
   rw[HB];intro x hx;obtain⟨i,hi⟩:=wX.1 hx;obtain⟨h1,h2⟩:=dS.1 hi;have:=hR i h1;simp[h1,h2]at this;exact this
  clear hR;refine aD ?_;exact aB
theorem aD7(l:List Int):decide (0<=pR (l.findIdx? nA))=l.any nA:=by
 cases h:l.findIdx? nA with
 |none=>
  rw[HB]at h;simp only[pR];symm;simpa using h
 |some i=>
  rw[HA]at h;obtain⟨h1,h2,_⟩:=h;simp only[pR];have:l.any nA=true:=pO.2 ⟨_,D2 h1,h2⟩;rw[this];simp
theorem Qj(l:List Int)(hl:l.length<=1000000):PC 254 [.snap (aA aH l),WR] (bV (l.any nA)):=by
 refine aT Tryz.func254 Tryz.ntmps254 (.c _) ?_;have c1:=aD6 l hl;have h1:=aD7 l;unfold WR at c1⊢;refine aD ?_;exact aB
end Go.Proofs.YtioafciifiggaaaGreatDoor
