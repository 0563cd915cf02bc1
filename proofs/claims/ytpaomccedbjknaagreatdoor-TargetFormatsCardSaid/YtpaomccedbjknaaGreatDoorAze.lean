/- Target: contracts of its functions (Aze). No condition but those named. -/
import Derived.Test.YtpaomccedbjknaaGreatDoorAzd
import Derived.Test.YtpaomccedbjknaaGreatDoorAzc
set_option linter.all false
namespace Go.Proofs.YtpaomccedbjknaaGreatDoor
open Go.Proofs Go.AL Tryz
set_option maxRecDepth 100000
set_option maxHeartbeats 8000000
attribute [local irreducible] bT AW b8 cF dB hold
theorem aP7(a:Option Addr)(cap:Nat):PC 89 [.c (.slice a 0 cap)] (.snap (aB jY [])):=by
 refine aZ func89 ntmps89 (gJ _) ?_;cases a with
 |none=>
  refine aM ?_;simp only[yJ];exact cR
 |some a=>
  refine aM ?_;simp only[yJ];exact cR
theorem aP8(l:List (Int×Int))(hl:l.length<=1000000):PC 89 [.snap (aB jY l)] (.snap (aB jY l)):=by
 by_cases h:l=[]
 ·subst h
  exact eA.nil (pre:=[]) (post:=[]) aP7
 ·refine aZ func89 ntmps89 (gJ l) ?_
  have h1:=qF h;exact zEa
theorem Cn(p:qQ)(hl:p.rules.length<=1000000):PC 34 [.agg (kO p)] (.agg (kO p)):=by
 refine iZ func34 ntmps34 (by simp only[go_sem,kO]) ?_
 have c1:=aP8 p.rules hl;obtain⟨n,r⟩:=p;unfold kO;simp only[]at*;refine aE ?_;exact dS
theorem aP9(s:jB)(hz:s.j.aR.length<=100000)(hl:s.bI.length<=100000)(ho:∀x∈s.bI,QU x):PC 124 [.agg (dH s)] (.agg (dH s)):=by
 refine iZ func124 ntmps124 (by simp only[go_sem,dH]) ?_
 have c1:=yK s.j.aR oM
 obtain⟨⟨js,jc,jh,jt,jf,jz⟩,l⟩:=s;unfold dH at*;simp only[]at*;have hg:=yU l
 replace ho:=bC.mk ho
 refine aE ?_;refine dC (α:=Nat) l.length (fun k id=> [(21,true,zV k),(20,true,zV l.length),(19,true,.snap (aB bX l)),(3,true,.ptr 2 0 0),(2,true,.ptr 1 0 0),(1,true,.ptr 0 0 0)]) (fun k id=>(0,some (.cells 42 7 [[zV js,zV jc,zV jh,zV jt,zV jf,.snap (aB aW jz),.snap (aB bX l)]] true false))::(1,some (.cells 42 7 [[zV 0,zV 0,zV 0,zV 0,zV 0,.c (.slice none 0 0),.c (.slice none 0 0)]] true false))::(2,some (.cells 42 7 [[zV js,zV jc,zV jh,zV jt,zV jf,.snap (aB aW jz),lJ k id]] true false))::lX 192 7 (aB bX (l.take k)) k id) (fun k m id=>3<=m/\(0<k->3<=id/\id<m)) ⟨100,0,⟨oM,fun h=>absurd h oM⟩,aG⟩ (fun k m id hk hR=> ?_) (fun m id hR=> ?_)
 ·obtain⟨hm,hR⟩:=hR
  have bO:=hg k hk;have hx:=ho.out _ (eB bU hk);have nN:∀j,j<(l.getD k bU).dF.length->PC 179 [.snap (aB aO ((l.getD k bU).dF.getD j []))] (.snap (aB aO ((l.getD k bU).dF.getD j []))):=fun j hj=>HC _ (tA (hx.cD.one _ (eB (l:=(l.getD k bU).dF) [] hj)).1 dE)
  have c2:=Ow (l.getD k bU).seen (by have:=hx.cD.seen;exact tA this dE)
  have c3:=yK (l.getD k bU).records (by have:=hx.records;omega)
  have HG:(l.getD k bU).dF.length<=100000:=hx.cD.dF;have rI:=F8 (l.getD k bU).dF;have cI:=kF bU hk;have iE:(l.take k).length=k:=by rw[dX];omega
  rw[cI]
  replace nN:=bC.mk nN
  clear cI hg ho hx c1;generalize l.take k=F at*;generalize l.getD k bU=x at*;obtain⟨n,p,s,w,e,r,c⟩:=x;rw[lY]at bO;simp only[]at*;have dM:aB bX ([]++[⟨n,p,s,w,e,r,c⟩])=[[zV n,zV p,zV s,.snap (aB bY w),.snap (aB eH e),.snap (aB aW r),bV c]]:=rfl;cases k with
  |zero=>
   have jC:F=[]:=eL iE;subst jC;clear hR iE;refine aE ?_;refine dC (α:=Nat) w.length (fun j jd=> [(28,true,zV j),(27,true,zV w.length),(26,true,.snap (aB bY w)),(6,true,lJ j jd),(5,true,.ptr m 0 0),(21,true,zV 0),(20,true,zV l.length),(19,true,.snap (aB bX l)),(3,true,.ptr 2 0 0),(2,true,.ptr 1 0 0),(1,true,.ptr 0 0 0)]) (fun j jd=>(0,some (.cells 42 7 [[zV js,zV jc,zV jh,zV jt,zV jf,.snap (aB aW jz),.snap (aB bX l)]] true false))::(1,some (.cells 42 7 [[zV 0,zV 0,zV 0,zV 0,zV 0,.c (.slice none 0 0),.c (.slice none 0 0)]] true false))::(2,some (.cells 42 7 [[zV js,zV jc,zV jh,zV jt,zV jf,.snap (aB aW jz),.c (.slice none 0 0)]] true false))::(m,some (.cells 192 7 [[zV n,zV p,zV s,.snap (aB bY w),.snap (aB eH e),.snap (aB aW r),bV c]] true false))::lX 77 1 (aB bY (w.take j)) j jd) (fun j mj jd=>m+1<=mj/\(0<j->m+1<=jd/\jd<mj)) ⟨m+100,0,⟨oM,fun h=>absurd h oM⟩,aG⟩ (fun j mj jd hj hR=> ?_) (fun mj jd hR=> ?_)
   ·obtain⟨AN,hR⟩:=hR
    have sJ:(aB bY w)[j]? =some [.snap (aB aO (w.getD j []))]:=rI j hj;have cj:=nN.out j hj;have tP:=kF [] hj;have tQ:aB bY (w.take j)++[[.snap (aB aO (w.getD j []))]]=aB bY (w.take j++[w.getD j []]):=kK _ _;have tR:(w.take j).length=j:=by rw[dX];omega
    rw[tP];clear tP rI nN bO c2 c3;generalize w.take j=Gs at*;generalize w.getD j []=y at*;have AO:aB bY ([]++[y])=[[.snap (aB aO y)]]:=rfl;cases j with
    |zero=>
     have lS:Gs=[]:=eL tR;subst lS;clear hR tR tQ;refine aE ?_;exact⟨mj+40,mj+1,⟨oM,fun _=>by omega⟩,aG⟩
    |succ r9=>
     obtain⟨i3,i4⟩:=hR oM
     clear hR AO;refine aE ?_;exact⟨mj+40,mj+1,⟨oM,fun _=>by omega⟩,aG⟩
   ·obtain⟨AN,hR⟩:=hR
    rw[gP];clear rI nN bO;refine CA [(28,true,zV w.length),(27,true,zV w.length),(26,true,.snap (aB bY w)),(6,true,.snap (aB bY w)),(5,true,.ptr m 0 0),(21,true,zV 0),(20,true,zV l.length),(19,true,.snap (aB bX l)),(3,true,.ptr 2 0 0),(2,true,.ptr 1 0 0),(1,true,.ptr 0 0 0)] (mj+100) ((0,some (.cells 42 7 [[zV js,zV jc,zV jh,zV jt,zV jf,.snap (aB aW jz),.snap (aB bX l)]] true false))::(1,some (.cells 42 7 [[zV 0,zV 0,zV 0,zV 0,zV 0,.c (.slice none 0 0),.c (.slice none 0 0)]] true false))::(2,some (.cells 42 7 [[zV js,zV jc,zV jh,zV jt,zV jf,.snap (aB aW jz),.c (.slice none 0 0)]] true false))::(m,some (.cells 192 7 [[zV n,zV p,zV s,.snap (aB bY w),.snap (aB eH e),.snap (aB aW r),bV c]] true false))::[]) ?_ (fun kH=> ?_)
    case refine_2=>
     cases hh:w.length with
     |zero=>
      have jD:w=[]:=eL hh;subst jD;clear hR hh;refine LU 6 (.snap (aB bY [])) .nil ?_;exact kU aG kH
     |succ q=>
      obtain⟨i3,i4⟩:=hR oM
      rw[hh]at kH;refine LV 6 jd (off:=0) (len:=q+1) (rows:=aB bY w) (aB bY w) (by rw[fK];omega) (by rw[sZ,cN (by rw[fK];omega)]) ?_
      exact kU aG kH
    refine aE ?_;exact⟨mj+200,mj+100+13+1,⟨oM,fun _=>by omega⟩,aG⟩
  |succ q=>
   obtain⟨i1,i2⟩:=hR oM
   clear hR dM;refine aE ?_;refine dC (α:=Nat) w.length (fun j jd=> [(28,true,zV j),(27,true,zV w.length),(26,true,.snap (aB bY w)),(6,true,lJ j jd),(5,true,.ptr m 0 0),(21,true,zV ((q+1:Nat):Int)),(20,true,zV l.length),(19,true,.snap (aB bX l)),(3,true,.ptr 2 0 0),(2,true,.ptr 1 0 0),(1,true,.ptr 0 0 0)]) (fun j jd=>(0,some (.cells 42 7 [[zV js,zV jc,zV jh,zV jt,zV jf,.snap (aB aW jz),.snap (aB bX l)]] true false))::(1,some (.cells 42 7 [[zV 0,zV 0,zV 0,zV 0,zV 0,.c (.slice none 0 0),.c (.slice none 0 0)]] true false))::(2,some (.cells 42 7 [[zV js,zV jc,zV jh,zV jt,zV jf,.snap (aB aW jz),.own id 0 (q+1)]] true false))::(id,some (.cells 192 7 (aB bX F) true true))::(m,some (.cells 192 7 [[zV n,zV p,zV s,.snap (aB bY w),.snap (aB eH e),.snap (aB aW r),bV c]] true false))::lX 77 1 (aB bY (w.take j)) j jd) (fun j mj jd=>m+1<=mj/\(0<j->m+1<=jd/\jd<mj)) ⟨m+100,0,⟨oM,fun h=>absurd h oM⟩,aG⟩ (fun j mj jd hj hR=> ?_) (fun mj jd hR=> ?_)
   ·obtain⟨AN,hR⟩:=hR
    have sJ:(aB bY w)[j]? =some [.snap (aB aO (w.getD j []))]:=rI j hj;have cj:=nN.out j hj;have tP:=kF [] hj;have tQ:aB bY (w.take j)++[[.snap (aB aO (w.getD j []))]]=aB bY (w.take j++[w.getD j []]):=kK _ _;have tR:(w.take j).length=j:=by rw[dX];omega
    rw[tP];clear tP rI nN bO c2 c3;generalize w.take j=Gs at*;generalize w.getD j []=y at*;have AO:aB bY ([]++[y])=[[.snap (aB aO y)]]:=rfl;cases j with
    |zero=>
     have lS:Gs=[]:=eL tR;subst lS;clear hR tR tQ;refine aE ?_;exact⟨mj+40,mj+1,⟨oM,fun _=>by omega⟩,aG⟩
    |succ r9=>
     obtain⟨i3,i4⟩:=hR oM
     clear hR AO;refine aE ?_;exact⟨mj+40,mj+1,⟨oM,fun _=>by omega⟩,aG⟩
   ·obtain⟨AN,hR⟩:=hR
    rw[gP];clear rI nN bO;refine CA [(28,true,zV w.length),(27,true,zV w.length),(26,true,.snap (aB bY w)),(6,true,.snap (aB bY w)),(5,true,.ptr m 0 0),(21,true,zV ((q+1:Nat):Int)),(20,true,zV l.length),(19,true,.snap (aB bX l)),(3,true,.ptr 2 0 0),(2,true,.ptr 1 0 0),(1,true,.ptr 0 0 0)] (mj+100) ((0,some (.cells 42 7 [[zV js,zV jc,zV jh,zV jt,zV jf,.snap (aB aW jz),.snap (aB bX l)]] true false))::(1,some (.cells 42 7 [[zV 0,zV 0,zV 0,zV 0,zV 0,.c (.slice none 0 0),.c (.slice none 0 0)]] true false))::(2,some (.cells 42 7 [[zV js,zV jc,zV jh,zV jt,zV jf,.snap (aB aW jz),.own id 0 (q+1)]] true false))::(id,some (.cells 192 7 (aB bX F) true true))::(m,some (.cells 192 7 [[zV n,zV p,zV s,.snap (aB bY w),.snap (aB eH e),.snap (aB aW r),bV c]] true false))::[]) ?_ (fun kH=> ?_)
    case refine_2=>
     cases hh:w.length with
     |zero=>
      have jD:w=[]:=eL hh;subst jD;clear hR hh;refine LU 6 (.snap (aB bY [])) .nil ?_;exact kU aG kH
     |succ q=>
      obtain⟨i3,i4⟩:=hR oM
      rw[hh]at kH;refine LV 6 jd (off:=0) (len:=q+1) (rows:=aB bY w) (aB bY w) (by rw[fK];omega) (by rw[sZ,cN (by rw[fK];omega)]) ?_
      exact kU aG kH
    refine aE ?_;exact⟨mj+200,mj+100+13+1,⟨oM,fun _=>by omega⟩,aG⟩
 ·obtain⟨hm,hR⟩:=hR
  rw[gP];clear hg ho c1;cases hh:l.length with
  |zero=>
   have jD:l=[]:=eL hh;subst jD;clear hR hh;refine aE ?_;exact dS
  |succ q=>
   obtain⟨i1,i2⟩:=hR oM
   have hex:=fun G k=>aE9 G k l
   have cI:l.take (q+1)=l:=cN oM
   clear hR;refine aE ?_;exact dS
theorem Co(t:fR)(h:tT t):PC 57 [.agg (cP t)] (.agg (cP t)):=by
 refine iZ func57 ntmps57 (by rw[iF];simp only[go_sem]) ?_
 have c1:=yK t.r.aR (by have:=h.aR;omega)
 have c2:=aP9 t.s h.s.aR h.s.bI fun x hx=>(h.s.one x hx).l2
 have c3:=Rt t.x h.x;have c4:=Cn t.p h.rules;rw[iF];clear h;obtain⟨⟨rz,ru,rd,re,rp,rq⟩,⟨⟨js,jc,jh,jt,jf,jz⟩,l⟩,⟨im,it⟩,⟨pn,pr⟩,si⟩:=t;unfold dH kN kO at*;simp only[]at*;refine aE ?_;exact dS
theorem Cp:∀(A:List (List AV)) {x y:List AV},y1 x y->r7 (A++[x]) (A++[y])
 |[],_,_,h=>u3 h BH
 |_::A,_,_,h=>u3 (tY _) (Cp A h)
theorem Rx(G:Nat->Option aI)(k:Nat)(l:List (Int×Int)):(aB jY l).map (fun row=>row.map (bJ G k))=aB jY l:=by
 unfold aB;rw[B9];refine sG fun o _=> ?_
 cases k<;>simp[jY,bJ]
theorem aQ0(l:List (List aQ))(h1:l.length<=1000)(h2:∀v∈l,v.length<=1000000):PC 98 [.snap (aB bA l)] (.snap (aB bA l)):=by
 have hd:bC (∀k,k<l.length->(l.getD k []).length<=1000000):=⟨fun k hk=>h2 _ (eB [] hk)⟩
 clear h2;refine aZ func98 ntmps98 (gJ _) ?_;have hg:=gV l;refine aE ?_;refine dC (α:=Nat) l.length (fun k id=> [(4,true,zV k),(3,true,lJ k id),(0,true,.snap (aB bA l))]) (fun k id=>lX 58 1 (aB bA (l.take k)) k id) (fun k m id=>(0<k->id<m)) ⟨100,0,fun h=>absurd h oM,aG⟩ (fun k m id hk hR=> ?_) (fun m id hR=> ?_)
 ·have bO:=hg k hk
  have AF:=hd.out k hk;have cI:=kF [] hk;have iE:(l.take k).length=k:=by rw[dX];omega
  rw[cI];clear cI hg hd;generalize l.take k=F at*;generalize l.getD k []=d at*;have yN:(aB bA l)[k]? =some [.snap (aB aP d)]:=bO;have eR:aB bA F++[[.snap (aB aP d)]]=aB bA (F++[d]):=kK (f:=bA) F d;have dM:=LS d;clear bO;refine Ry ?_;cases k with
  |zero=>
   have jC:F=[]:=eL iE;subst jC;clear hR iE;by_cases DY:d=[]
   ·subst DY
    have hz:aB aP []=[]:=rfl;refine aE ?_;have nW:r7 [[.c (.slice none 0 0)]] (aB bA ([]++[[]])):=Cp [] (eE .nil mS);refine Rz (m+1) (aB bA ([]++[[]])) nW ?_;exact⟨m+40,m+1,fun _=>by omega,aG⟩
   ·have h1:=qF DY
    refine aE ?_;refine LY (m) (m+1+1) (aB bA ([]++[d])) eN eN oM (I6 (A:=[]) rfl (by rw[fK])) ?_
    exact⟨m+40,m+1+1,fun _=>by omega,aG⟩
  |succ q=>
   have i2:=hR oM
   clear hR;by_cases DY:d=[]
   ·subst DY
    have hz:aB aP []=[]:=rfl;refine aE ?_;have nW:r7 (aB bA F++[[.c (.slice none 0 0)]]) (aB bA (F++[[]])):=by rw[<-eR];exact Cp _ (eE .nil mS)
    clear eR;refine Rz (m+1) (aB bA (F++[[]])) nW ?_;exact⟨m+40,m+1,fun _=>by omega,aG⟩
   ·have h1:=qF DY
    refine aE ?_;refine LY (m) (m+1+1) (aB bA (F++[d])) eN eN oM (I6 eR (by rw[fK])) ?_
    exact⟨m+40,m+1+1,fun _=>by omega,aG⟩
 ·rw[gP]
  clear hg hd;cases hh:l.length with
  |zero=>
   have jD:l=[]:=eL hh;subst jD;clear hR hh;exact zE
  |succ q=>
   have i2:=hR oM
   have cI:l.take (q+1)=l:=cN oM
   clear hR;exact zE
theorem aQ1(p:qQ)(hl:p.rules.length<=1000000):PC 42 [.agg (kO p)] (.agg (kO p)):=by
 refine iZ func42 ntmps42 (by simp only[go_sem,kO]) ?_
 obtain⟨n,r⟩:=p;unfold kO;simp only[]at*;by_cases h:r=[]
 ·subst h
  have hz:aB jY []=[]:=rfl;refine aE ?_;exact dS
 ·have h1:=qF h
  have hex:(aB jY r).map (fun row=>row.map (bJ (fun _=>none) 1))=aB jY r:=Rx _ _ r
  have bY8:=fun G k=>Rx G k r
  have cI:(aB jY r).take r.length=aB jY r:=cN (by rw[fK];omega)
  refine aE ?_;exact dS
end Go.Proofs.YtpaomccedbjknaaGreatDoor
namespace Go.Proofs.YtpaomccedbjknaaGreatDoor
open Go.Proofs Go.AL Tryz
set_option maxRecDepth 100000
set_option maxHeartbeats 8000000
attribute [local irreducible] bT tN wU tS AW b8 cF dB hold
theorem Sa(t:fR)(n:Int)(ht:tT t):LP prog 54 [.agg (cP t),zV n] (FV t n=0) (.aK []) (uO (FV t n)):=by
 have c1:=VY t ht;clear ht;obtain⟨M,hM⟩:∃M,FV t n=M:=⟨_,rfl⟩;rw[hM];unfold FV at hM;generalize sQ t=e at*;rw[iF]at*;have m1:=sR e;have d1:=zB (decide (t.r.dY<=n)) 13 dE
 have d2:=zB (decide (n=t.r.dY)) 1 dE
 by_cases g1:e=0
 case neg=>
  rw[if_neg g1]at hM;subst hM;have x1:=m1.2 g1;refine⟨fun g=>absurd g g1,fun _=> ?_⟩
  clear m1 d1 d2 g1;refine HN func54 ntmps54 ?_;have s1:rV 1 2 (uO e):=⟨⟩;refine nY ?_;rfl
 rw[if_pos g1]at hM;have p1:=m1.1 g1;clear m1;by_cases g2:n<t.r.dY
 ·rw[if_pos g2]at hM
  subst hM;have rC:¬t.r.dY<=n:=oM
  have x2:=d1.2 (by simp;omega)
  rw[decide_eq_false rC]at x2;refine⟨fun g=>absurd g dE,fun _=> ?_⟩
  clear d1 d2 g1 g2;refine HN func54 ntmps54 ?_;have s1:rV 2 5 (uO 13):=⟨⟩;refine nY ?_;rfl
 rw[if_neg g2]at hM;have rC:t.r.dY<=n:=oM
 have p2:=d1.1 (decide_eq_true rC);rw[decide_eq_true rC]at p2;by_cases g3:t.r.dY<n
 ·rw[if_pos g3]at hM
  subst hM;have qI:¬n=t.r.dY:=oM
  have x3:=d2.2 (by simp;omega)
  rw[decide_eq_false qI]at x3;refine⟨fun g=>absurd g dE,fun _=> ?_⟩
  have g4:(n==t.r.dY)=false:=beq_eq_false_iff_ne.2 qI;clear d1 d2 g1 g2 g3 qI;refine HN func54 ntmps54 ?_;have s1:rV 3 5 (uO 1):=⟨⟩;refine nY ?_;rfl
 ·rw[if_neg g3]at hM
  subst hM;have qI:n=t.r.dY:=oM
  have p3:=d2.1 (decide_eq_true qI);rw[decide_eq_true qI]at p3;refine⟨fun _=> ?_,fun g=>absurd rfl g⟩
  have g4:(n==t.r.dY)=true:=beq_iff_eq.2 qI;clear d1 d2 g1 g2 g3 qI;refine aZ func54 ntmps54 (.aK _ (by simp)) ?_
  exact zE
abbrev l6:List AV:=[.c (.slice none 0 0),zV 0,zV 0,zV 0,zV 0,zV 0,zV 0,zV 0,zV 0,zV 0,zV 0,.c (.slice none 0 0),.c (.slice none 0 0),.c (.slice none 0 0),.c (.slice none 0 0),zV 0,.c (.slice none 0 0),zV 0]
abbrev gU(r:List AV):Option aI:=some (.cells 49 18 [r] true false)
abbrev sA(a:AV):Option aI:=some (.cells 50 1 [[a]] true false)
theorem LZ:cP jV=[.snap [],zV 0,zV 0,zV 0,zV 0,zV 0,zV 0,zV 0,zV 0,zV 0,zV 0,.snap [],.snap [],.snap [],.snap [],zV 0,.snap [],zV 0]:=rfl
def CD(a b c:Nat)(M:fR×List bR×Int)(r:AV)(H:Heap):Prop:=
 r=zV M.2.2/\∃m,(M.2.2=0/\H=⟨m,bN [(a,gU l6),(b,gU (cP M.1)),(c,sA (.snap (aB aH M.2.1)))]⟩)\/(¬M.2.2=0/\M=(jV,[],M.2.2)/\H=⟨m,bN [(a,gU l6),(b,gU l6),(c,sA (.c (.slice none 0 0)))]⟩)
theorem Cq{N:Nat}{R:AV->Heap->Prop}{e:Int}{H':Heap}(M:Nat)(L:List (Nat×Option aI))(h1:N<M)(hh:Holds ⟨[],H',0⟩ [] ⟨M,bN ((N,some (tO 0))::L)⟩)(hk:∀p∈L,p.1<N)(hR:∀M',R (zV e) ⟨M',bN L⟩):Ct N R e H':=
 ⟨M,L,h1,hh,fun p hp=>⟨by have:=hk p hp;omega,by have:=hk p hp;omega⟩,fun M' _=>hR M'⟩
theorem Cr{N a b c:Nat}{M:fR×List bR×Int}(h1:N<1000)(h2:a<N/\b<N/\c<N)(e:Int)(he:¬e=0)(Cs:M=(jV,[],e))(H':Heap)(hh:Holds ⟨[],H',0⟩ [] ⟨1000,bN [(N,some (tO 0)),(a,gU l6),(b,gU l6),(c,sA (.c (.slice none 0 0)))]⟩):Ct N (CD a b c M) e H':=
 Cq 1000 [(a,gU l6),(b,gU l6),(c,sA (.c (.slice none 0 0)))] h1 hh (by simp;exact h2) fun M'=>⟨by rw[Cs],M',.inr ⟨by rw[Cs];exact he,by rw[Cs],rfl⟩⟩
theorem VZ{N a b c:Nat}{M:fR×List bR×Int}(h1:N<1000)(h2:a<N/\b<N/\c<N)(hM:M.2.2=0)(H':Heap)(hh:Holds ⟨[],H',0⟩ [] ⟨1000,bN [(N,some (tO 0)),(a,gU l6),(b,gU (cP M.1)),(c,sA (.snap (aB aH M.2.1)))]⟩):Ct N (CD a b c M) 0 H':=
 Cq 1000 [(a,gU l6),(b,gU (cP M.1)),(c,sA (.snap (aB aH M.2.1)))] h1 hh (by simp;exact h2) fun M'=>⟨by rw[hM],M',.inl ⟨hM,rfl⟩⟩
theorem aQ2(t:fR)(ht:tT t)(n:Int)(b:List Int)(hb:∀x∈b,bZ x)(hl:b.length<=100000):qA prog 53 [.ptr 0 0 0,.ptr 1 0 0,.ptr 2 0 0,.ptr 4 0 0,.ptr 5 0 0] ⟨7,bN [(0,gU (cP t)),(1,some (.cells 3 1 [[zV n]] true false)),(2,some (.cells 77 1 [[.snap (aB aO b)]] true false)),(3,gU l6),(4,gU l6),(5,sA (.c (.slice none 0 0))),(6,some (tO 0))]⟩ (fun _ H'=>Ct 6 (CD 3 4 5 (zA t n b)) 0 H') (fun x H'=>∃e,x=uO e/\Ct 6 (CD 3 4 5 (zA t n b)) e H'):=by
 refine LW func53 ntmps53 ?_;have c1:=Sa t n ht;have c2:=Mw b hb hl;have c3:=aE6 t.s b ht.s hb hl;have c4:=Co t ht;obtain⟨M,hM⟩:∃M,zA t n b=M:=⟨_,rfl⟩;rw[hM];have hE:=Cr (M:=M) (N:=6) (a:=3) (b:=4) (c:=5) dE dE
 replace hE:=bC.mk hE
 unfold zA at hM
 replace hM:=bC.mk hM
 clear ht hb;rw[iF]at*;unfold dH at c3;refine dI (s6 2 ?_);refine aE ?_;refine s8 (l2:=[]) (c1) (fun g=> ?_) (fun g=> ?_)
 ·have hN:=hM.out
  rw[if_neg g]at hN;exact pG (iT (s9 ⟨_,rfl,hE.out _ g hN.symm _ aG⟩))
 replace hM:=bC.mk (by have hN:=hM.out;rw[if_pos g]at hN;exact hN)
 clear c1;clear g;refine lP (oI (dI (gM ?_)));refine aE ?_;refine gH.mk (dI (s6 1 ?_));refine aE ?_;refine s8 (l2:=[]) (sR ((dA b).2)) (fun g=> ?_) (fun g=> ?_)
 ·have hN:=hM.out
  rw[if_neg g]at hN;exact pG (iT (s9 ⟨_,rfl,hE.out _ g hN.symm _ aG⟩))
 replace hM:=bC.mk (by have hN:=hM.out;rw[if_pos g]at hN;exact hN)
 clear g;refine lP (oI (dI (s6 5 ?_)));refine aE ?_;refine s8 (l2:=[]) (zB (decide (t.r.dK<(dA b).1.number)) 8 dE) (fun g=> ?_) (fun g=> ?_)
 ·have hN:=hM.out
  rw[if_pos (by simpa using g)]at hN
  exact pG (iT (s9 ⟨_,rfl,hE.out _ dE hN.symm _ aG⟩))
 replace hM:=bC.mk (by have hN:=hM.out;rw[if_neg (by simpa using g)]at hN;exact hN)
 clear g;refine lP (oI (dI (gM ?_)));refine aE ?_;refine gH.mk (dI (s6 1 ?_));refine aE ?_;refine s8 (l2:=[]) (sR ((C3 t.s b).2.2)) (fun g=> ?_) (fun g=> ?_)
 ·have hN:=hM.out
  rw[if_neg g]at hN;exact pG (iT (s9 ⟨_,rfl,hE.out _ g hN.symm _ aG⟩))
 replace hM:=bC.mk (by have hN:=hM.out;rw[if_pos g]at hN;exact hN)
 clear g;refine lP (oI (dI (gM ?_)));refine aE ?_;refine gH.mk (?_);refine xL ?_;refine xL ?_;have hN:=hM.out;subst hN;exact iT (LX (zC (a:= .aK []) (VZ dE dE rfl _ (by rw[iF];exact aG))))
theorem W4(t:fR)(ht:tT t)(n:Int)(b:List Int)(hb:∀x∈b,bZ x)(hl:b.length<=100000):PC 14 [.agg (cP t),zV n,.snap (aB aO b)] (.aK [.agg (cP (zA t n b).1),.snap (aB aH (zA t n b).2.1),zV (zA t n b).2.2]):=by
 have c1:=LQ (L:=[(0,gU (cP t)),(1,some (.cells 3 1 [[zV n]] true false)),(2,some (.cells 77 1 [[.snap (aB aO b)]] true false)),(3,gU l6),(4,gU l6),(5,sA (.c (.slice none 0 0)))]) (N:=6) (aQ2 t ht n b hb hl);generalize zA t n b=M at*;refine iZ func14 ntmps14 (by rw[iF];simp only[go_sem]) ?_
 rw[iF]at c1⊢;refine aE ?_;refine tC c1 (fun r H' hr=> ?_)
 obtain⟨rfl,m,⟨h1,rfl⟩|⟨h1,h2,rfl⟩⟩:=hr
 ·rw[iF]
  refine aE ?_;exact dS
 ·obtain⟨e,he⟩:∃e,M.2.2=e:=⟨_,rfl⟩
  rw[he]at h1 h2;subst h2;rw[LZ];refine aE ?_;exact dS
theorem aQ3(t:fR)(ht:tT t):PC 17 [.agg (cP t)] (.aK [.snap (aB bA (LN t).1),zV (LN t).2.1,zV (LN t).2.2]):=by
 refine iZ func17 ntmps17 (by simp only[go_sem]) ?_
 have c1:=VY t ht;have c2:=Rt t.x ht.x;obtain⟨M,hM⟩:∃M,LN t=M:=⟨_,rfl⟩;rw[hM];unfold LN at hM;generalize sQ t=e at*;rw[iF]at*;unfold kN at c2;clear ht;by_cases g:e=0
 ·rw[if_pos g]at hM
  subst hM g;refine aE ?_;exact dS
 ·rw[if_neg g]at hM
  subst hM;have g':(e !=0)=true:=bne_iff_ne.2 g;clear g;refine aE ?_;exact dS
def zD(im:List (List aQ)):lM×Int:=if cZ (bH im)=0 then(⟨im,[]⟩,0)else(oE,cZ (bH im))
theorem aQ4(im:List (List aQ))(h1:im.length<=1000)(h2:∀v∈im,v.length<=1000000):PC 33 [.snap (aB bA im)] (.aK [.agg (kN (zD im).1),zV (zD im).2]):=by
 refine iZ func33 ntmps33 (by simp only[go_sem,kN]) ?_
 have c1:=TY im h1;have c2:PC 88 [.agg [.snap (aB bA im),.c (.slice none 0 0)]] (.agg (kN ⟨im,[]⟩)):=eA.less (aO5 ⟨im,[]⟩ ⟨h1,h2,by simp,fun x hx=>by simp at hx⟩) (eE (vD (eE (.refl _) (eE .nil mS))) mS)
 obtain⟨M,hM⟩:∃M,zD im=M:=⟨_,rfl⟩;rw[hM];unfold zD at hM;unfold kN at*;simp only[]at*;generalize cZ (bH im)=e at*;clear h2;by_cases g:e=0
 ·rw[if_pos g]at hM
  subst hM g;refine aE ?_;exact dS
 ·rw[if_neg g]at hM
  subst hM;have g':(e !=0)=true:=bne_iff_ne.2 g;have IQ:aB bA oE.cur=[]:=rfl;have xT:aB cX oE.items=[]:=rfl;rw[IQ,xT];clear g;refine aE ?_;exact dS
end Go.Proofs.YtpaomccedbjknaaGreatDoor
