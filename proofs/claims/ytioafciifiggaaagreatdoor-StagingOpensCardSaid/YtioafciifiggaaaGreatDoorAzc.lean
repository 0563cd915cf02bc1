/- Staging. No condition. -/
import Derived.Test.YtioafciifiggaaaGreatDoorL0
import Derived.Test.YtioafciifiggaaaGreatDoorAzb
set_option linter.all false
namespace Go.Proofs.YtioafciifiggaaaGreatDoor
open Go.Proofs Go.AL
set_option maxRecDepth 100000
set_option maxHeartbeats 8000000
attribute [local irreducible] cB AW aX cZ dK hold
attribute [local irreducible] eV lO
def AR(B:Nat)(h:List (List Int)):Nat->Nat->List (Nat×Option aI)
 |0,_=> [(B,some (.cells 74 1 (lO h 0) true true))]
 |j+1,dd=> [(B,some (.cells 74 1 ((lO h j).set j [.own dd 0 (h.getD j []).length]) true true)),(dd,some (.cells 5 1 (aA aH (h.getD j [])) true true))]
theorem FW(B:Nat)(h:List (List Int))(j dd:Nat):AR B h (j+1) dd=[(B,some (.cells 74 1 ((lO h j).set j [.own dd 0 (h.getD j []).length]) true true)),(dd,some (.cells 5 1 (aA aH (h.getD j [])) true true))]:=rfl
theorem ax2(a:mO)(b:List Int)(hA:I0 a)(hb:∀x∈b,aV x)(hl:b.length<=100000):PC 126 [.agg (eL a),.snap (aA aH b)] (.aR [.agg (eL (kG a b).1),zV (kG a b).2]):=by
 refine uH Tryz.func126 Tryz.ntmps126 (by simp only[go_sem,eL]) ?_
 have c1:=Ly a (by have:=hA.cI;omega) (by have:=hA.seen;omega) (fun y hy=>by have:=(hA.one y hy).1;omega)
 have c2:=Ap b hb hl;have cK:=FG hb;have h3:=QD (a:=a);have h4:=Ay (a:=a);obtain⟨M,hM⟩:∃M,kG a b=M:=⟨_,rfl⟩;rw[hM];unfold kG at hM;generalize qZ a=ae at*;generalize bM b=R at*;obtain⟨⟨n,i,p,s,l⟩,e⟩:=R;obtain⟨an,ap,az,ah,eS⟩:=a;have eM:=hA.one;have QK:=hA.seen;have AT:=hA.cI;clear hA hb;unfold eL at*;simp only[]at*;by_cases g1:ae=0
 case neg=>
  rw[if_neg g1]at hM;subst hM;have h3:=h3 g1;subst h3;clear c2 cK h4 eM;unfold lX;refine aE ?_;exact aB
 rw[if_pos g1]at hM;obtain⟨-,-,p1,-,-,-,p2,p3,-⟩:=h4 g1;subst g1;clear h3 h4;by_cases g2:e=0
 case neg=>
  rw[if_neg g2]at hM;subst hM;clear cK eM;unfold lX;refine aE ?_;exact aB
 rw[if_pos g2]at hM;obtain⟨o1,o2,o3,o4,o5,o6,o7,o8,o9,QV,o11⟩:=cK g2;subst g2;clear cK;by_cases g3:n=an
 case neg=>
  rw[if_neg g3]at hM;subst hM;obtain⟨g,gx⟩:=xS g3;clear eM g3;unfold lX;refine aE ?_;exact aB
 rw[if_pos g3]at hM;by_cases g4:p=ap
 case neg=>
  rw[if_neg (fun h=>g4 h.1)]at hM
  subst hM g3;obtain⟨d1,r8⟩:=gD n;obtain⟨g,gx⟩:=xS g4;clear eM g4;unfold lX;refine aE ?_;exact aB
 by_cases g5:s=az
 case neg=>
  rw[if_neg (fun h=>g5 h.2)]at hM
  subst hM g3 g4;obtain⟨d1,r8⟩:=gD n;obtain⟨d2,wG⟩:=gD p;obtain⟨g,gx⟩:=xS g5;clear eM g5;unfold lX;refine aE ?_;exact aB
 rw[if_pos ⟨g4,g5⟩]at hM;subst g3 g4 g5;obtain⟨d1,r8⟩:=gD n;obtain⟨d2,wG⟩:=gD p;obtain⟨d3,FT⟩:=gD s;obtain⟨i,rfl⟩:=sK o3;rw[nC]at hM;subst p2;have QW:i<ah.length:=by omega
 have lN:i<eS.length:=by omega
 have he:=VY (eM _ (dC [] QW)).2 QV;have kJ:=FH ah;have iE:=kJ i QW
 replace kJ:=aU.mk kJ
 have DM:(aA cM eS)[i]? =some [bV (eS.getD i false)]:=AB eS i lN;have kK:∀k,k<ah.length->(ah.getD k []).length<=100000:=fun k hk=>(eM _ (dC [] hk)).1
 clear eM QV
 replace kK:=aU.mk kK
 generalize eS.getD i false=sb at*;have m0:=Oi ah;have IH:(aA cM eS).set i [bV true]=aA cM (eS.set i true):=EY (f:=cM) eS i true;have lE:(aA bW ah).set i [.snap (aA aH l)]=aA bW (ah.set i l):=EY (f:=bW) ah i l;have bI3:=rS (l:=eS) (fun h=>by rw[h]at lN;simp at lN)
 cases sb with
 |true=>
  by_cases g6:ah.getD i []=l
  case neg=>
   rw[if_pos ⟨rfl,g6⟩]at hM;subst hM;rw[decide_eq_false g6]at he;unfold lX;clear kK;refine aE ?_;exact aB
  rw[if_neg (fun h=>h.2 g6)]at hM
  subst hM;rw[decide_eq_true g6]at he;clear g6;refine aE ?_;refine nS Tryz.func94 Tryz.ntmps94 ?_;refine aE ?_;refine dP (α:=Nat×List (Nat×Option aI)) ah.length (fun k x=> [(4,true,zV k),(3,true,.own 25 0 ah.length),(2,true,.ptr 24 0 0),(1,true,.ptr 23 0 0)]) (fun k x=>(1,some (.cells 161 5 [[zV 0,zV 0,zV 0,.c (.slice none 0 0),.c (.slice none 0 0)]] true false))::(2,some (.cells 289 5 [[zV n,zV i,zV ah.length,zV s,.snap (aA aH l)]] true false))::(23,some (.cells 161 5 [[zV n,zV ah.length,zV s,.snap (aA bW ah),.snap (aA cM eS)]] true false))::(24,some (.cells 161 5 [[zV 0,zV 0,zV 0,.c (.slice none 0 0),.c (.slice none 0 0)]] true false))::x.2) (fun k m x=>26<=m/\x.2=AR 25 ah k x.1/\(0<k->26<=x.1/\x.1<m)) ⟨100,(0,AR 25 ah 0 0),⟨by omega,rfl,fun h=>absurd h (by omega)⟩,aN⟩ (fun k m x hk hR=> ?_) (fun m x hR=> ?_)
  ·obtain⟨dd,TT⟩:=x
   obtain⟨hm,sC,aC⟩:=hR;simp only[]at aC sC⊢;subst sC;cases k with
   |zero=>
    rw[show AR 25 ah 0 dd=[(25,some (.cells 74 1 (lO ah 0) true true))]from rfl]
    have cV:=kJ.out 0 hk;have j9:=kK.out 0 hk;have m1:=M0 hk;have m3:=IG (h:=ah) (k:=0) (by omega)
    have hS:=FW 25 ah 0
    replace hS:=aU.mk hS
    clear kK kJ m0 lE IH iE DM;generalize ah.getD 0 []=pc at*;generalize lO ah 0=RR at*;refine aE ?_;exact⟨m+100,(m+1,[(25,some (.cells 74 1 (RR.set 0 [.own (m+1) 0 pc.length]) true true)),(m+1,some (.cells 5 1 (aA aH pc) true true))]),⟨by omega,(hS.out (m+1)).symm,fun _=>(by omega:26<=m+1/\m+1<m+100)⟩,aN⟩
   |succ j=>
    obtain⟨i1,i2⟩:=aC (by omega)
    have sZ:=WJ (h:=ah) (j:=j) (dd:=dd) (by omega)
    rw[FW 25 ah j dd];refine sX dd 25 (lO ah (j+1)) iT iT (by omega) sZ ?_
    refine tI (env:=[(4,true,zV (j+1:Nat)),(3,true,.own 25 0 ah.length),(2,true,.ptr 24 0 0),(1,true,.ptr 23 0 0)]) (H:=⟨m,dH [(1,some (.cells 161 5 [[zV 0,zV 0,zV 0,.c (.slice none 0 0),.c (.slice none 0 0)]] true false)),(2,some (.cells 289 5 [[zV n,zV i,zV ah.length,zV s,.snap (aA aH l)]] true false)),(23,some (.cells 161 5 [[zV n,zV ah.length,zV s,.snap (aA bW ah),.snap (aA cM eS)]] true false)),(24,some (.cells 161 5 [[zV 0,zV 0,zV 0,.c (.slice none 0 0),.c (.slice none 0 0)]] true false)),(25,some (.cells 74 1 (lO ah (j+1)) true true))]⟩) aN ?_
    clear sZ aC i1 i2;have cV:=kJ.out (j+1) hk;have j9:=kK.out (j+1) hk;have m1:=M0 hk;have m3:=IG (h:=ah) (k:=(j+1)) (by omega)
    have hS:=FW 25 ah (j+1)
    replace hS:=aU.mk hS
    clear kK kJ m0 lE IH iE DM;generalize ah.getD (j+1) []=pc at*;generalize lO ah (j+1)=RR at*;refine aE ?_;exact⟨m+100,(m+1,[(25,some (.cells 74 1 (RR.set (j+1) [.own (m+1) 0 pc.length]) true true)),(m+1,some (.cells 5 1 (aA aH pc) true true))]),⟨by omega,(hS.out (m+1)).symm,fun _=>(by omega:26<=m+1/\m+1<m+100)⟩,aN⟩
  ·obtain⟨dd,TT⟩:=x
   obtain⟨hm,sC,aC⟩:=hR;simp only[]at aC sC⊢;subst sC;obtain⟨j,hj⟩:∃j,ah.length=j+1:=⟨ah.length-1,by omega⟩
   obtain⟨i1,i2⟩:=aC (by omega)
   have sZ:=WJ (h:=ah) (j:=j) (dd:=dd) (by omega)
   have xV:AR 25 ah ah.length dd=AR 25 ah (j+1) dd:=by rw[hj]
   rw[xV,FW 25 ah j dd];rw[<-hj,W8]at sZ;refine sX dd 25 (aA bW ah) iT iT (by omega) sZ ?_
   refine tI (env:=[(4,true,zV ah.length),(3,true,.own 25 0 ah.length),(2,true,.ptr 24 0 0),(1,true,.ptr 23 0 0)]) (H:=⟨m,dH [(1,some (.cells 161 5 [[zV 0,zV 0,zV 0,.c (.slice none 0 0),.c (.slice none 0 0)]] true false)),(2,some (.cells 289 5 [[zV n,zV i,zV ah.length,zV s,.snap (aA aH l)]] true false)),(23,some (.cells 161 5 [[zV n,zV ah.length,zV s,.snap (aA bW ah),.snap (aA cM eS)]] true false)),(24,some (.cells 161 5 [[zV 0,zV 0,zV 0,.c (.slice none 0 0),.c (.slice none 0 0)]] true false)),(25,some (.cells 74 1 (aA bW ah) true true))]⟩) aN ?_
   have tP:(aA bW ah).length=ah.length:=fZ ah;have bQ:(aA cM eS).length=eS.length:=fZ eS;have t1:(ah.set i l).take ah.length=ah.set i l:=cR (by simp)
   have t2:(eS.set i true).take eS.length=eS.set i true:=cR (by simp)
   have n1:(∀row,row∈aA bW (ah.set i l)->∀x,x∈row->bJ x)=True:=eq_true (mN _);have n2:(∀row,row∈aA cM (eS.set i true)->∀x,x∈row->bJ x)=True:=eq_true (mN _);have x1:=fun G k=>QT G k (ah.set i l)
   have x2:=fun G k=>LM G k (eS.set i true)
   clear sZ aC i1 i2 kJ kK m0 hj xV;refine aE ?_;exact nE
 |false=>
  rw[if_neg (fun h=>absurd h.1 (by decide))]at hM
  subst hM;clear he;refine aE ?_;refine nS Tryz.func94 Tryz.ntmps94 ?_;refine aE ?_;refine dP (α:=Nat×List (Nat×Option aI)) ah.length (fun k x=> [(4,true,zV k),(3,true,.own 25 0 ah.length),(2,true,.ptr 24 0 0),(1,true,.ptr 23 0 0)]) (fun k x=>(1,some (.cells 161 5 [[zV 0,zV 0,zV 0,.c (.slice none 0 0),.c (.slice none 0 0)]] true false))::(2,some (.cells 289 5 [[zV n,zV i,zV ah.length,zV s,.snap (aA aH l)]] true false))::(23,some (.cells 161 5 [[zV n,zV ah.length,zV s,.snap (aA bW ah),.snap (aA cM eS)]] true false))::(24,some (.cells 161 5 [[zV 0,zV 0,zV 0,.c (.slice none 0 0),.c (.slice none 0 0)]] true false))::x.2) (fun k m x=>26<=m/\x.2=AR 25 ah k x.1/\(0<k->26<=x.1/\x.1<m)) ⟨100,(0,AR 25 ah 0 0),⟨by omega,rfl,fun h=>absurd h (by omega)⟩,aN⟩ (fun k m x hk hR=> ?_) (fun m x hR=> ?_)
  ·obtain⟨dd,TT⟩:=x
   obtain⟨hm,sC,aC⟩:=hR;simp only[]at aC sC⊢;subst sC;cases k with
   |zero=>
    rw[show AR 25 ah 0 dd=[(25,some (.cells 74 1 (lO ah 0) true true))]from rfl]
    have cV:=kJ.out 0 hk;have j9:=kK.out 0 hk;have m1:=M0 hk;have m3:=IG (h:=ah) (k:=0) (by omega)
    have hS:=FW 25 ah 0
    replace hS:=aU.mk hS
    clear kK kJ m0 lE IH iE DM;generalize ah.getD 0 []=pc at*;generalize lO ah 0=RR at*;refine aE ?_;exact⟨m+100,(m+1,[(25,some (.cells 74 1 (RR.set 0 [.own (m+1) 0 pc.length]) true true)),(m+1,some (.cells 5 1 (aA aH pc) true true))]),⟨by omega,(hS.out (m+1)).symm,fun _=>(by omega:26<=m+1/\m+1<m+100)⟩,aN⟩
   |succ j=>
    obtain⟨i1,i2⟩:=aC (by omega)
    have sZ:=WJ (h:=ah) (j:=j) (dd:=dd) (by omega)
    rw[FW 25 ah j dd];refine sX dd 25 (lO ah (j+1)) iT iT (by omega) sZ ?_
    refine tI (env:=[(4,true,zV (j+1:Nat)),(3,true,.own 25 0 ah.length),(2,true,.ptr 24 0 0),(1,true,.ptr 23 0 0)]) (H:=⟨m,dH [(1,some (.cells 161 5 [[zV 0,zV 0,zV 0,.c (.slice none 0 0),.c (.slice none 0 0)]] true false)),(2,some (.cells 289 5 [[zV n,zV i,zV ah.length,zV s,.snap (aA aH l)]] true false)),(23,some (.cells 161 5 [[zV n,zV ah.length,zV s,.snap (aA bW ah),.snap (aA cM eS)]] true false)),(24,some (.cells 161 5 [[zV 0,zV 0,zV 0,.c (.slice none 0 0),.c (.slice none 0 0)]] true false)),(25,some (.cells 74 1 (lO ah (j+1)) true true))]⟩) aN ?_
    clear sZ aC i1 i2;have cV:=kJ.out (j+1) hk;have j9:=kK.out (j+1) hk;have m1:=M0 hk;have m3:=IG (h:=ah) (k:=(j+1)) (by omega)
    have hS:=FW 25 ah (j+1)
    replace hS:=aU.mk hS
    clear kK kJ m0 lE IH iE DM;generalize ah.getD (j+1) []=pc at*;generalize lO ah (j+1)=RR at*;refine aE ?_;exact⟨m+100,(m+1,[(25,some (.cells 74 1 (RR.set (j+1) [.own (m+1) 0 pc.length]) true true)),(m+1,some (.cells 5 1 (aA aH pc) true true))]),⟨by omega,(hS.out (m+1)).symm,fun _=>(by omega:26<=m+1/\m+1<m+100)⟩,aN⟩
  ·obtain⟨dd,TT⟩:=x
   obtain⟨hm,sC,aC⟩:=hR;simp only[]at aC sC⊢;subst sC;obtain⟨j,hj⟩:∃j,ah.length=j+1:=⟨ah.length-1,by omega⟩
   obtain⟨i1,i2⟩:=aC (by omega)
   have sZ:=WJ (h:=ah) (j:=j) (dd:=dd) (by omega)
   have xV:AR 25 ah ah.length dd=AR 25 ah (j+1) dd:=by rw[hj]
   rw[xV,FW 25 ah j dd];rw[<-hj,W8]at sZ;refine sX dd 25 (aA bW ah) iT iT (by omega) sZ ?_
   refine tI (env:=[(4,true,zV ah.length),(3,true,.own 25 0 ah.length),(2,true,.ptr 24 0 0),(1,true,.ptr 23 0 0)]) (H:=⟨m,dH [(1,some (.cells 161 5 [[zV 0,zV 0,zV 0,.c (.slice none 0 0),.c (.slice none 0 0)]] true false)),(2,some (.cells 289 5 [[zV n,zV i,zV ah.length,zV s,.snap (aA aH l)]] true false)),(23,some (.cells 161 5 [[zV n,zV ah.length,zV s,.snap (aA bW ah),.snap (aA cM eS)]] true false)),(24,some (.cells 161 5 [[zV 0,zV 0,zV 0,.c (.slice none 0 0),.c (.slice none 0 0)]] true false)),(25,some (.cells 74 1 (aA bW ah) true true))]⟩) aN ?_
   have tP:(aA bW ah).length=ah.length:=fZ ah;have bQ:(aA cM eS).length=eS.length:=fZ eS;have t1:(ah.set i l).take ah.length=ah.set i l:=cR (by simp)
   have t2:(eS.set i true).take eS.length=eS.set i true:=cR (by simp)
   have n1:(∀row,row∈aA bW (ah.set i l)->∀x,x∈row->bJ x)=True:=eq_true (mN _);have n2:(∀row,row∈aA cM (eS.set i true)->∀x,x∈row->bJ x)=True:=eq_true (mN _);have x1:=fun G k=>QT G k (ah.set i l)
   have x2:=fun G k=>LM G k (eS.set i true)
   clear sZ aC i1 i2 kJ kK m0 hj xV;refine aE ?_;exact nE
end Go.Proofs.YtioafciifiggaaaGreatDoor
namespace Go.Proofs.YtioafciifiggaaaGreatDoor
open Go.Proofs Go.AL
set_option maxRecDepth 100000
set_option maxHeartbeats 8000000
attribute [local irreducible] cB AW aX cZ dK hold
attribute [local irreducible] eV
structure WK(x:bI):Prop where
 bF:AP (bF x)
 records:x.records.length<=100000
theorem FI.l2{x:bI}(h:FI x):WK x:=⟨h.bF.ok,h.records⟩
theorem ax3(l:List bI)(x:bI):(pD l x).length<=l.length+1:=by
 have:=LO l x.number;unfold pD;split
 ·rw[KY];omega
 ·rw[cP,eI,eD,fX];omega
theorem ax4{l:List bI}{x y:bI}(h:y∈pD l x):y=x\/y∈l:=by
 unfold pD at h;split at h
 ·rcases TX h with h|h
  ·exact .inr h
  ·exact .inl h
 ·rcases BR.1 h with h|h
  ·exact .inr (qB h)
  ·rcases fB.1 h with h|h
   ·exact .inl h
   ·exact .inr (l5 h)
theorem Pg(l:List Int)(hl:l.length<=1000000):PC 32 [.snap (aA bA l),.snap (aA bA l)] (bV true):=by
 refine aT Tryz.func32 Tryz.ntmps32 (.c _) ?_;have hg:=gI l;obtain⟨d,dx⟩:=gD l.length;refine aE ?_;refine tM l.length 0 [] (fun k=> [(13,true,zV k),(12,true,zV l.length),(0,true,.snap (aA bA l)),(1,true,.snap (aA bA l))]) aN (fun k m bG hm=> ?_) (fun m hm=> ?_)
 ·have cV:=hg k bG
  clear hg d dx;generalize l.getD k 0=v at*;obtain⟨d,dx⟩:=gD v;refine aE ?_;refine⟨m+200,by omega,aN⟩
 ·clear hg
  refine aE ?_;exact aB
theorem ax5(j:Jr)(hl:j.cD.length<=1000000):PC 43 [.agg (eG j),.agg (eG j)] (bV true):=by
 refine aT Tryz.func43 Tryz.ntmps43 (.c _) ?_;obtain⟨js,jc,jh,jt,jf,jz⟩:=j;unfold eG;simp only[]at*;have hg:=gI jz;have d1:xF Tryz.prog 27 (.agg [zV js,zV jc]) (.agg [zV js,zV jc])=some true:=(av8 [js,jc] [js,jc] rfl rfl).trans (by simp)
 obtain⟨d2,wG⟩:=gD jh;obtain⟨d3,FT⟩:=gD jt;obtain⟨d4,Oh⟩:=gD jf;obtain⟨d5,Bz⟩:=gD jz.length;refine aE ?_;refine tM jz.length 100 [(0,some (.cells 30 6 [[zV js,zV jc,zV jh,zV jt,zV jf,.snap (aA bA jz)]] true false)),(1,some (.cells 30 6 [[zV js,zV jc,zV jh,zV jt,zV jf,.snap (aA bA jz)]] true false))] (fun k=> [(5,true,zV k),(3,true,.ptr 1 0 0),(2,true,.ptr 0 0 0)]) aN (fun k m bG hm=> ?_) (fun m hm=> ?_)
 ·have cV:=hg k bG
  clear hg;generalize jz.getD k 0=v at*;obtain⟨d,dx⟩:=gD v;refine aE ?_;refine⟨m+200,by omega,aN⟩
 ·clear hg
  refine aE ?_;exact aB
theorem ax6(x:bI)(hx:WK x):PC 44 [.agg (cG x),.agg (cG x)] (bV true):=by
 refine aT Tryz.func44 Tryz.ntmps44 (.c _) ?_;have c1:=Az x;have c2:=Og (bF x) (bF x) hx.bF.cI hx.bF.cI hx.bF.seen hx.bF.seen (fun y hy=>(hx.bF.one y hy).2) (fun y hy=>(hx.bF.one y hy).2)
 rw[decide_eq_true rfl]at c2;have c3:=ah7 x.records (by have:=hx.records;omega)
 clear hx;obtain⟨n,p,s,h,e,r,c⟩:=x;rw[iP]at*;unfold bF eL at*;simp only[]at*;have d:(c==c)=true:=by simp
 refine aE ?_;exact aB
theorem Ph(s:l8)(hz:s.j.cD.length<=1000000)(hl:s.cN.length<=1000000)(ho:∀x∈s.cN,WK x):PC 12 [.agg (fO s),.agg (fO s)] (bV true):=by
 refine aT Tryz.func12 Tryz.ntmps12 (.c _) ?_;have c1:=ax5 s.j hz;have hc:∀k,k<s.cN.length->PC 44 [.agg (cG (s.cN.getD k b8)),.agg (cG (s.cN.getD k b8))] (bV true):=fun k hk=>ax6 _ (ho _ (dC b8 hk))
 clear ho;obtain⟨⟨js,jc,jh,jt,jf,jz⟩,l⟩:=s;unfold fO eG at*;simp only[]at*;have hg:=uP l
 replace hc:=aU.mk hc
 obtain⟨d5,Bz⟩:=gD l.length;refine aE ?_;refine tM l.length 100 [(0,some (.cells 33 7 [[zV js,zV jc,zV jh,zV jt,zV jf,.snap (aA bA jz),.snap (aA cG l)]] true false)),(1,some (.cells 33 7 [[zV js,zV jc,zV jh,zV jt,zV jf,.snap (aA bA jz),.snap (aA cG l)]] true false))] (fun k=> [(5,true,zV k),(3,true,.ptr 1 0 0),(2,true,.ptr 0 0 0)]) aN (fun k m bG hm=> ?_) (fun m hm=> ?_)
 ·have cV:=hg k bG
  have c2:=hc.out k bG;clear hg hc c1;generalize l.getD k b8=x at*;obtain⟨n,p,s,h,e,r,c⟩:=x;rw[iP]at*;simp only[]at*;refine aE ?_;refine⟨m+200,by omega,aN⟩
 ·clear hg hc
  refine aE ?_;exact aB
theorem ax7(l:List iC)(hl:l.length<=1000000)(hs:∀o∈l,o.2.2.length<=1000000):PC 82 [.snap (aA bC l),.snap (aA bC l)] (bV true):=by
 refine aT Tryz.func82 Tryz.ntmps82 (.c _) ?_;have hc:∀k,k<l.length->PC 45 [.snap (aA aQ (l.getD k (0,0,[])).2.2),.snap (aA aQ (l.getD k (0,0,[])).2.2)] (bV true):=fun k hk=>Ky _ (hs _ (dC (0,0,[]) hk))
 clear hs;have hg:=Nb l
 replace hc:=aU.mk hc
 obtain⟨d5,Bz⟩:=gD l.length;refine aE ?_;refine tM l.length 0 [] (fun k=> [(5,true,zV k),(0,true,.snap (aA bC l)),(1,true,.snap (aA bC l))]) aN (fun k m bG hm=> ?_) (fun m hm=> ?_)
 ·have cV:=hg k bG
  have c2:=hc.out k bG;clear hg hc;generalize l.getD k (0,0,[])=x at*;obtain⟨v,a,d⟩:=x;rw[VO]at cV;simp only[]at*;obtain⟨d1,r8⟩:=gD v;obtain⟨d2,wG⟩:=gD a;refine aE ?_;refine⟨m+200,by omega,aN⟩
 ·clear hg hc
  refine aE ?_;exact aB
theorem ax8(c:oO)(hp:c.pos.length<=1000000)(hl:c.writes.length<=1000000)(hs:∀o∈c.writes,o.2.2.length<=1000000):PC 33 [.agg (gT c),.agg (gT c)] (bV true):=by
 refine aT Tryz.func33 Tryz.ntmps33 (.c _) ?_;have c1:=ah6 c.pos hp;have c2:=ax7 c.writes hl hs;clear hp hl hs;obtain⟨cb,cn,ct,cp,cw⟩:=c;unfold gT;simp only[]at*;obtain⟨d1,r8⟩:=gD cb;obtain⟨d2,wG⟩:=gD cn;obtain⟨d3,FT⟩:=gD ct;refine aE ?_;exact aB
end Go.Proofs.YtioafciifiggaaaGreatDoor
