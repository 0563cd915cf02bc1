/- Target: contracts of its functions (Azc). No condition but those named. -/
import Derived.Test.YtpaomccedbjknaaGreatDoorAzb
set_option linter.all false
namespace Go.Proofs.YtpaomccedbjknaaGreatDoor
open Go.Proofs Go.AL Tryz
set_option maxRecDepth 100000
set_option maxHeartbeats 8000000
attribute [local irreducible] bT AW b8 cF dB hold
theorem aO6(s:lM)(hs:DW s):PC 226 [.agg (kN s)] (.agg (kN s)):=by
 refine iZ func226 ntmps226 (by simp only[go_sem,kN]) ?_
 obtain⟨h1,h2,h3,h4⟩:=hs;obtain⟨im,l⟩:=s;unfold kN;simp only[]at*;have hc:∀k,k<im.length->PC 150 [.snap (aB aP (im.getD k []))] (.snap (aB aP (im.getD k []))):=fun k hk=>yM _ (h2 _ (eB [] hk))
 replace hc:=bC.mk hc
 have hw:∀k,k<l.length->IL (l.getD k gG).saved:=fun k hk=>h4 _ (eB gG hk)
 replace hw:=bC.mk hw
 have hg:=gV im;have oY:=bC.mk (LR l);clear h2 h4;refine aE ?_;refine dC (α:=Nat) im.length (fun k id=> [(14,true,zV k),(13,true,zV im.length),(12,true,.snap (aB bA im)),(3,true,.ptr 2 0 0),(2,true,.ptr 1 0 0),(1,true,.ptr 0 0 0)]) (fun k id=>(0,some (.cells 47 2 [[.snap (aB bA im),.snap (aB cX l)]] true false))::(1,some (.cells 47 2 [[.c (.slice none 0 0),.c (.slice none 0 0)]] true false))::(2,some (.cells 47 2 [[lJ k id,.c (.slice none 0 0)]] true false))::lX 58 1 (aB bA (im.take k)) k id) (fun k m id=>3<=m/\(0<k->3<=id/\id<m)) ⟨100,0,⟨oM,fun h=>absurd h oM⟩,aG⟩ (fun k m id hk hR=> ?_) (fun m id hR=> ?_)
 ·obtain⟨hm,hR⟩:=hR
  have bO:(aB bA im)[k]? =some [.snap (aB aP (im.getD k []))]:=hg k hk;have c1:=hc.out k hk;have cI:=kF [] hk;have eR:aB bA (im.take k)++[[.snap (aB aP (im.getD k []))]]=aB bA (im.take k++[im.getD k []]):=kK _ _;have iE:(im.take k).length=k:=by rw[dX];omega
  rw[cI];clear cI hg hc oY hw;generalize im.take k=F at*;generalize im.getD k []=x at*;have dM:=LS x;cases k with
  |zero=>
   have jC:F=[]:=eL iE;subst jC;clear hR iE eR;refine aE ?_;exact⟨m+40,m+5,⟨oM,fun _=>by omega⟩,aG⟩
  |succ q=>
   obtain⟨i1,i2⟩:=hR oM
   clear hR dM;refine aE ?_;exact⟨m+40,m+5,⟨oM,fun _=>by omega⟩,aG⟩
 ·obtain⟨hm,hR⟩:=hR
  rw[gP];clear hg hc;refine aE ?_;refine CA [(29,true,zV 0),(28,true,zV l.length),(27,true,.snap (aB cX l)),(3,true,.ptr 2 0 0),(2,true,.ptr 1 0 0),(1,true,.ptr 0 0 0)] (m+100) ((0,some (.cells 47 2 [[.snap (aB bA im),.snap (aB cX l)]] true false))::(1,some (.cells 47 2 [[.c (.slice none 0 0),.c (.slice none 0 0)]] true false))::[(2,some (.cells 47 2 [[.snap (aB bA im),.c (.slice none 0 0)]] true false))]) ?_ (fun kH=> ?_)
  case refine_2=>
   cases hh:im.length with
   |zero=>
    have jD:im=[]:=eL hh;subst jD;clear hR hh;refine VV 2 [[.snap (aB bA []),.c (.slice none 0 0)]] (VU (eE .nil (tY _))) ?_;exact kU aG kH
   |succ q=>
    obtain⟨i1,i2⟩:=hR oM
    refine AH id 2 [[.snap (aB bA im),.c (.slice none 0 0)]] eN eN oM (VT (by rw[fK,hh])) ?_
    exact kU aG kH
  refine dC (α:=Nat) l.length (fun k id=> [(29,true,zV k),(28,true,zV l.length),(27,true,.snap (aB cX l)),(3,true,.ptr 2 0 0),(2,true,.ptr 1 0 0),(1,true,.ptr 0 0 0)]) (fun k id=>(0,some (.cells 47 2 [[.snap (aB bA im),.snap (aB cX l)]] true false))::(1,some (.cells 47 2 [[.c (.slice none 0 0),.c (.slice none 0 0)]] true false))::(2,some (.cells 47 2 [[.snap (aB bA im),lJ k id]] true false))::lX 86 3 (aB cX (l.take k)) k id) (fun k m id=>3<=m/\(0<k->3<=id/\id<m)) ⟨m+100,0,⟨oM,fun h=>absurd h oM⟩,aG⟩ (fun k m id hk hR=> ?_) (fun m id hR=> ?_)
  ·obtain⟨hm,hR⟩:=hR
   have bO:=oY.out k hk;have nW:=hw.out k hk;have rI:=gW (l.getD k gG).saved;have nN:∀j,j<(l.getD k gG).saved.length->PC 150 [.snap (aB aP ((l.getD k gG).saved.getD j eF).2.2)] (.snap (aB aP ((l.getD k gG).saved.getD j eF).2.2)):=fun j hj=>yM _ (nW.2 _ (eB eF hj))
   have HG:=nW.1
   replace nN:=bC.mk nN
   clear nW;have cI:=kF gG hk;have eR:aB cX (l.take k)++[cX (l.getD k gG)]=aB cX (l.take k++[l.getD k gG]):=kK _ _;have iE:(l.take k).length=k:=by rw[dX];omega
   rw[cI];clear cI oY hw;generalize l.take k=F at*;generalize l.getD k gG=x at*;obtain⟨n,t,w⟩:=x;rw[FW]at bO eR;simp only[]at*;have dM:aB cX ([]++[⟨n,t,w⟩])=[[zV n,zV t,.snap (aB aH w)]]:=rfl;cases k with
   |zero=>
    have jC:F=[]:=eL iE;subst jC;clear hR iE eR;refine aE ?_;refine dC (α:=Nat) w.length (fun j jd=> [(36,true,zV j),(35,true,zV w.length),(34,true,.snap (aB aH w)),(8,true,lJ j jd),(7,true,.ptr m 0 0),(29,true,zV 0),(28,true,zV l.length),(27,true,.snap (aB cX l)),(3,true,.ptr 2 0 0),(2,true,.ptr 1 0 0),(1,true,.ptr 0 0 0)]) (fun j jd=>(0,some (.cells 47 2 [[.snap (aB bA im),.snap (aB cX l)]] true false))::(1,some (.cells 47 2 [[.c (.slice none 0 0),.c (.slice none 0 0)]] true false))::(2,some (.cells 47 2 [[.snap (aB bA im),.c (.slice none 0 0)]] true false))::(m,some (.cells 86 3 [[zV n,zV t,.snap (aB aH w)]] true false))::lX 69 3 (aB aH (w.take j)) j jd) (fun j mj jd=>m+1<=mj/\(0<j->m+1<=jd/\jd<mj)) ⟨m+100,0,⟨oM,fun h=>absurd h oM⟩,aG⟩ (fun j mj jd hj hR=> ?_) (fun mj jd hR=> ?_)
    ·obtain⟨AN,hR⟩:=hR
     have sJ:=rI j hj;have cj:=nN.out j hj;have tP:=kF eF hj;have tQ:aB aH (w.take j)++[aH (w.getD j eF)]=aB aH (w.take j++[w.getD j eF]):=kK _ _;have tR:(w.take j).length=j:=by rw[dX];omega
     rw[tP];clear tP rI nN bO;generalize w.take j=Gs at*;generalize w.getD j eF=y at*;obtain⟨yv,yt,yd⟩:=y;simp only[]at*;have PJ:(aB aH w)[j]? =some [zV yv,zV yt,.snap (aB aP yd)]:=sJ;have IN:aB aH Gs++[[zV yv,zV yt,.snap (aB aP yd)]]=aB aH (Gs++[(yv,yt,yd)]):=tQ;clear sJ tQ;have AO:aB aH ([]++[(yv,yt,yd)])=[[zV yv,zV yt,.snap (aB aP yd)]]:=rfl
     cases j with
     |zero=>
      have lS:Gs=[]:=eL tR;subst lS;clear hR tR IN;refine aE ?_;exact⟨mj+40,mj+1+1+1+1,⟨oM,fun _=>by omega⟩,aG⟩
     |succ r=>
      obtain⟨i3,i4⟩:=hR oM
      clear hR AO;refine aE ?_;exact⟨mj+40,mj+1+1+1+1,⟨oM,fun _=>by omega⟩,aG⟩
    ·obtain⟨AN,hR⟩:=hR
     rw[gP];clear rI nN bO;refine CA [(36,true,zV w.length),(35,true,zV w.length),(34,true,.snap (aB aH w)),(8,true,.snap (aB aH w)),(7,true,.ptr m 0 0),(29,true,zV 0),(28,true,zV l.length),(27,true,.snap (aB cX l)),(3,true,.ptr 2 0 0),(2,true,.ptr 1 0 0),(1,true,.ptr 0 0 0)] (mj+100) ((0,some (.cells 47 2 [[.snap (aB bA im),.snap (aB cX l)]] true false))::(1,some (.cells 47 2 [[.c (.slice none 0 0),.c (.slice none 0 0)]] true false))::(2,some (.cells 47 2 [[.snap (aB bA im),.c (.slice none 0 0)]] true false))::(m,some (.cells 86 3 [[zV n,zV t,.snap (aB aH w)]] true false))::[]) ?_ (fun kH=> ?_)
     case refine_2=>
      cases hh:w.length with
      |zero=>
       have jD:w=[]:=eL hh;subst jD;clear hR hh;refine LU 8 (.snap (aB aH [])) .nil ?_;exact kU aG kH
      |succ q=>
       obtain⟨i3,i4⟩:=hR oM
       rw[hh]at kH;refine LV 8 jd (off:=0) (len:=q+1) (rows:=aB aH w) (aB aH w) (by rw[fK];omega) (by rw[sZ,cN (by rw[fK];omega)]) ?_
       exact kU aG kH
     refine aE ?_;exact⟨mj+200,mj+100+1+1,⟨oM,fun _=>by omega⟩,aG⟩
   |succ q=>
    obtain⟨i1,i2⟩:=hR oM
    clear hR dM;refine aE ?_;refine dC (α:=Nat) w.length (fun j jd=> [(36,true,zV j),(35,true,zV w.length),(34,true,.snap (aB aH w)),(8,true,lJ j jd),(7,true,.ptr m 0 0),(29,true,zV ((q+1:Nat):Int)),(28,true,zV l.length),(27,true,.snap (aB cX l)),(3,true,.ptr 2 0 0),(2,true,.ptr 1 0 0),(1,true,.ptr 0 0 0)]) (fun j jd=>(0,some (.cells 47 2 [[.snap (aB bA im),.snap (aB cX l)]] true false))::(1,some (.cells 47 2 [[.c (.slice none 0 0),.c (.slice none 0 0)]] true false))::(2,some (.cells 47 2 [[.snap (aB bA im),.own id 0 (q+1)]] true false))::(id,some (.cells 86 3 (aB cX F) true true))::(m,some (.cells 86 3 [[zV n,zV t,.snap (aB aH w)]] true false))::lX 69 3 (aB aH (w.take j)) j jd) (fun j mj jd=>m+1<=mj/\(0<j->m+1<=jd/\jd<mj)) ⟨m+100,0,⟨oM,fun h=>absurd h oM⟩,aG⟩ (fun j mj jd hj hR=> ?_) (fun mj jd hR=> ?_)
    ·obtain⟨AN,hR⟩:=hR
     have sJ:=rI j hj;have cj:=nN.out j hj;have tP:=kF eF hj;have tQ:aB aH (w.take j)++[aH (w.getD j eF)]=aB aH (w.take j++[w.getD j eF]):=kK _ _;have tR:(w.take j).length=j:=by rw[dX];omega
     rw[tP];clear tP rI nN bO;generalize w.take j=Gs at*;generalize w.getD j eF=y at*;obtain⟨yv,yt,yd⟩:=y;simp only[]at*;have PJ:(aB aH w)[j]? =some [zV yv,zV yt,.snap (aB aP yd)]:=sJ;have IN:aB aH Gs++[[zV yv,zV yt,.snap (aB aP yd)]]=aB aH (Gs++[(yv,yt,yd)]):=tQ;clear sJ tQ;have AO:aB aH ([]++[(yv,yt,yd)])=[[zV yv,zV yt,.snap (aB aP yd)]]:=rfl
     cases j with
     |zero=>
      have lS:Gs=[]:=eL tR;subst lS;clear hR tR IN;refine aE ?_;exact⟨mj+40,mj+1+1+1+1,⟨oM,fun _=>by omega⟩,aG⟩
     |succ r=>
      obtain⟨i3,i4⟩:=hR oM
      clear hR AO;refine aE ?_;exact⟨mj+40,mj+1+1+1+1,⟨oM,fun _=>by omega⟩,aG⟩
    ·obtain⟨AN,hR⟩:=hR
     rw[gP];clear rI nN bO;refine CA [(36,true,zV w.length),(35,true,zV w.length),(34,true,.snap (aB aH w)),(8,true,.snap (aB aH w)),(7,true,.ptr m 0 0),(29,true,zV ((q+1:Nat):Int)),(28,true,zV l.length),(27,true,.snap (aB cX l)),(3,true,.ptr 2 0 0),(2,true,.ptr 1 0 0),(1,true,.ptr 0 0 0)] (mj+100) ((0,some (.cells 47 2 [[.snap (aB bA im),.snap (aB cX l)]] true false))::(1,some (.cells 47 2 [[.c (.slice none 0 0),.c (.slice none 0 0)]] true false))::(2,some (.cells 47 2 [[.snap (aB bA im),.own id 0 (q+1)]] true false))::(id,some (.cells 86 3 (aB cX F) true true))::(m,some (.cells 86 3 [[zV n,zV t,.snap (aB aH w)]] true false))::[]) ?_ (fun kH=> ?_)
     case refine_2=>
      cases hh:w.length with
      |zero=>
       have jD:w=[]:=eL hh;subst jD;clear hR hh;refine LU 8 (.snap (aB aH [])) .nil ?_;exact kU aG kH
      |succ q=>
       obtain⟨i3,i4⟩:=hR oM
       rw[hh]at kH;refine LV 8 jd (off:=0) (len:=q+1) (rows:=aB aH w) (aB aH w) (by rw[fK];omega) (by rw[sZ,cN (by rw[fK];omega)]) ?_
       exact kU aG kH
     refine aE ?_;exact⟨mj+200,mj+100+1+1,⟨oM,fun _=>by omega⟩,aG⟩
  ·obtain⟨hm,hR⟩:=hR
   rw[gP];clear oY hw;cases hh:l.length with
   |zero=>
    have jD:l=[]:=eL hh;subst jD;clear hR hh;refine aE ?_;exact dS
   |succ q=>
    obtain⟨i1,i2⟩:=hR oM
    have hex:=fun G k=>Cj G k l
    have cI:l.take (q+1)=l:=cN oM
    clear hR;refine aE ?_;exact dS
theorem Rt(s:lM)(hs:DW s):PC 70 [.agg (kN s)] (.agg (kN s)):=by
 refine iZ func70 ntmps70 (by simp only[go_sem,kN]) ?_
 obtain⟨h1,h2,h3,h4⟩:=hs;obtain⟨im,l⟩:=s;unfold kN;simp only[]at*;have hc:∀k,k<im.length->PC 150 [.snap (aB aP (im.getD k []))] (.snap (aB aP (im.getD k []))):=fun k hk=>yM _ (h2 _ (eB [] hk))
 replace hc:=bC.mk hc
 have hw:∀k,k<l.length->IL (l.getD k gG).saved:=fun k hk=>h4 _ (eB gG hk)
 replace hw:=bC.mk hw
 have hg:=gV im;have oY:=bC.mk (LR l);clear h2 h4;refine aE ?_;refine dC (α:=Nat) im.length (fun k id=> [(14,true,zV k),(13,true,zV im.length),(12,true,.snap (aB bA im)),(3,true,.ptr 2 0 0),(2,true,.ptr 1 0 0),(1,true,.ptr 0 0 0)]) (fun k id=>(0,some (.cells 47 2 [[.snap (aB bA im),.snap (aB cX l)]] true false))::(1,some (.cells 47 2 [[.c (.slice none 0 0),.c (.slice none 0 0)]] true false))::(2,some (.cells 47 2 [[lJ k id,.c (.slice none 0 0)]] true false))::lX 58 1 (aB bA (im.take k)) k id) (fun k m id=>3<=m/\(0<k->3<=id/\id<m)) ⟨100,0,⟨oM,fun h=>absurd h oM⟩,aG⟩ (fun k m id hk hR=> ?_) (fun m id hR=> ?_)
 ·obtain⟨hm,hR⟩:=hR
  have bO:(aB bA im)[k]? =some [.snap (aB aP (im.getD k []))]:=hg k hk;have c1:=hc.out k hk;have cI:=kF [] hk;have eR:aB bA (im.take k)++[[.snap (aB aP (im.getD k []))]]=aB bA (im.take k++[im.getD k []]):=kK _ _;have iE:(im.take k).length=k:=by rw[dX];omega
  rw[cI];clear cI hg hc oY hw;generalize im.take k=F at*;generalize im.getD k []=x at*;have dM:=LS x;cases k with
  |zero=>
   have jC:F=[]:=eL iE;subst jC;clear hR iE eR;refine aE ?_;exact⟨m+40,m+5,⟨oM,fun _=>by omega⟩,aG⟩
  |succ q=>
   obtain⟨i1,i2⟩:=hR oM
   clear hR dM;refine aE ?_;exact⟨m+40,m+5,⟨oM,fun _=>by omega⟩,aG⟩
 ·obtain⟨hm,hR⟩:=hR
  rw[gP];clear hg hc;refine aE ?_;refine CA [(29,true,zV 0),(28,true,zV l.length),(27,true,.snap (aB cX l)),(3,true,.ptr 2 0 0),(2,true,.ptr 1 0 0),(1,true,.ptr 0 0 0)] (m+100) ((0,some (.cells 47 2 [[.snap (aB bA im),.snap (aB cX l)]] true false))::(1,some (.cells 47 2 [[.c (.slice none 0 0),.c (.slice none 0 0)]] true false))::[(2,some (.cells 47 2 [[.snap (aB bA im),.c (.slice none 0 0)]] true false))]) ?_ (fun kH=> ?_)
  case refine_2=>
   cases hh:im.length with
   |zero=>
    have jD:im=[]:=eL hh;subst jD;clear hR hh;refine VV 2 [[.snap (aB bA []),.c (.slice none 0 0)]] (VU (eE .nil (tY _))) ?_;exact kU aG kH
   |succ q=>
    obtain⟨i1,i2⟩:=hR oM
    refine AH id 2 [[.snap (aB bA im),.c (.slice none 0 0)]] eN eN oM (VT (by rw[fK,hh])) ?_
    exact kU aG kH
  refine dC (α:=Nat) l.length (fun k id=> [(29,true,zV k),(28,true,zV l.length),(27,true,.snap (aB cX l)),(3,true,.ptr 2 0 0),(2,true,.ptr 1 0 0),(1,true,.ptr 0 0 0)]) (fun k id=>(0,some (.cells 47 2 [[.snap (aB bA im),.snap (aB cX l)]] true false))::(1,some (.cells 47 2 [[.c (.slice none 0 0),.c (.slice none 0 0)]] true false))::(2,some (.cells 47 2 [[.snap (aB bA im),lJ k id]] true false))::lX 86 3 (aB cX (l.take k)) k id) (fun k m id=>3<=m/\(0<k->3<=id/\id<m)) ⟨m+100,0,⟨oM,fun h=>absurd h oM⟩,aG⟩ (fun k m id hk hR=> ?_) (fun m id hR=> ?_)
  ·obtain⟨hm,hR⟩:=hR
   have bO:=oY.out k hk;have nW:=hw.out k hk;have rI:=gW (l.getD k gG).saved;have nN:∀j,j<(l.getD k gG).saved.length->PC 150 [.snap (aB aP ((l.getD k gG).saved.getD j eF).2.2)] (.snap (aB aP ((l.getD k gG).saved.getD j eF).2.2)):=fun j hj=>yM _ (nW.2 _ (eB eF hj))
   have HG:=nW.1
   replace nN:=bC.mk nN
   clear nW;have cI:=kF gG hk;have eR:aB cX (l.take k)++[cX (l.getD k gG)]=aB cX (l.take k++[l.getD k gG]):=kK _ _;have iE:(l.take k).length=k:=by rw[dX];omega
   rw[cI];clear cI oY hw;generalize l.take k=F at*;generalize l.getD k gG=x at*;obtain⟨n,t,w⟩:=x;rw[FW]at bO eR;simp only[]at*;have dM:aB cX ([]++[⟨n,t,w⟩])=[[zV n,zV t,.snap (aB aH w)]]:=rfl;cases k with
   |zero=>
    have jC:F=[]:=eL iE;subst jC;clear hR iE eR;refine aE ?_;refine dC (α:=Nat) w.length (fun j jd=> [(36,true,zV j),(35,true,zV w.length),(34,true,.snap (aB aH w)),(8,true,lJ j jd),(7,true,.ptr m 0 0),(29,true,zV 0),(28,true,zV l.length),(27,true,.snap (aB cX l)),(3,true,.ptr 2 0 0),(2,true,.ptr 1 0 0),(1,true,.ptr 0 0 0)]) (fun j jd=>(0,some (.cells 47 2 [[.snap (aB bA im),.snap (aB cX l)]] true false))::(1,some (.cells 47 2 [[.c (.slice none 0 0),.c (.slice none 0 0)]] true false))::(2,some (.cells 47 2 [[.snap (aB bA im),.c (.slice none 0 0)]] true false))::(m,some (.cells 86 3 [[zV n,zV t,.snap (aB aH w)]] true false))::lX 69 3 (aB aH (w.take j)) j jd) (fun j mj jd=>m+1<=mj/\(0<j->m+1<=jd/\jd<mj)) ⟨m+100,0,⟨oM,fun h=>absurd h oM⟩,aG⟩ (fun j mj jd hj hR=> ?_) (fun mj jd hR=> ?_)
    ·obtain⟨AN,hR⟩:=hR
     have sJ:=rI j hj;have cj:=nN.out j hj;have tP:=kF eF hj;have tQ:aB aH (w.take j)++[aH (w.getD j eF)]=aB aH (w.take j++[w.getD j eF]):=kK _ _;have tR:(w.take j).length=j:=by rw[dX];omega
     rw[tP];clear tP rI nN bO;generalize w.take j=Gs at*;generalize w.getD j eF=y at*;obtain⟨yv,yt,yd⟩:=y;simp only[]at*;have PJ:(aB aH w)[j]? =some [zV yv,zV yt,.snap (aB aP yd)]:=sJ;have IN:aB aH Gs++[[zV yv,zV yt,.snap (aB aP yd)]]=aB aH (Gs++[(yv,yt,yd)]):=tQ;clear sJ tQ;have AO:aB aH ([]++[(yv,yt,yd)])=[[zV yv,zV yt,.snap (aB aP yd)]]:=rfl
     cases j with
     |zero=>
      have lS:Gs=[]:=eL tR;subst lS;clear hR tR IN;refine aE ?_;exact⟨mj+40,mj+1+1+1+1,⟨oM,fun _=>by omega⟩,aG⟩
     |succ r=>
      obtain⟨i3,i4⟩:=hR oM
      clear hR AO;refine aE ?_;exact⟨mj+40,mj+1+1+1+1,⟨oM,fun _=>by omega⟩,aG⟩
    ·obtain⟨AN,hR⟩:=hR
     rw[gP];clear rI nN bO;refine CA [(36,true,zV w.length),(35,true,zV w.length),(34,true,.snap (aB aH w)),(8,true,.snap (aB aH w)),(7,true,.ptr m 0 0),(29,true,zV 0),(28,true,zV l.length),(27,true,.snap (aB cX l)),(3,true,.ptr 2 0 0),(2,true,.ptr 1 0 0),(1,true,.ptr 0 0 0)] (mj+100) ((0,some (.cells 47 2 [[.snap (aB bA im),.snap (aB cX l)]] true false))::(1,some (.cells 47 2 [[.c (.slice none 0 0),.c (.slice none 0 0)]] true false))::(2,some (.cells 47 2 [[.snap (aB bA im),.c (.slice none 0 0)]] true false))::(m,some (.cells 86 3 [[zV n,zV t,.snap (aB aH w)]] true false))::[]) ?_ (fun kH=> ?_)
     case refine_2=>
      cases hh:w.length with
      |zero=>
       have jD:w=[]:=eL hh;subst jD;clear hR hh;refine LU 8 (.snap (aB aH [])) .nil ?_;exact kU aG kH
      |succ q=>
       obtain⟨i3,i4⟩:=hR oM
       rw[hh]at kH;refine LV 8 jd (off:=0) (len:=q+1) (rows:=aB aH w) (aB aH w) (by rw[fK];omega) (by rw[sZ,cN (by rw[fK];omega)]) ?_
       exact kU aG kH
     refine aE ?_;exact⟨mj+200,mj+100+1+1,⟨oM,fun _=>by omega⟩,aG⟩
   |succ q=>
    obtain⟨i1,i2⟩:=hR oM
    clear hR dM;refine aE ?_;refine dC (α:=Nat) w.length (fun j jd=> [(36,true,zV j),(35,true,zV w.length),(34,true,.snap (aB aH w)),(8,true,lJ j jd),(7,true,.ptr m 0 0),(29,true,zV ((q+1:Nat):Int)),(28,true,zV l.length),(27,true,.snap (aB cX l)),(3,true,.ptr 2 0 0),(2,true,.ptr 1 0 0),(1,true,.ptr 0 0 0)]) (fun j jd=>(0,some (.cells 47 2 [[.snap (aB bA im),.snap (aB cX l)]] true false))::(1,some (.cells 47 2 [[.c (.slice none 0 0),.c (.slice none 0 0)]] true false))::(2,some (.cells 47 2 [[.snap (aB bA im),.own id 0 (q+1)]] true false))::(id,some (.cells 86 3 (aB cX F) true true))::(m,some (.cells 86 3 [[zV n,zV t,.snap (aB aH w)]] true false))::lX 69 3 (aB aH (w.take j)) j jd) (fun j mj jd=>m+1<=mj/\(0<j->m+1<=jd/\jd<mj)) ⟨m+100,0,⟨oM,fun h=>absurd h oM⟩,aG⟩ (fun j mj jd hj hR=> ?_) (fun mj jd hR=> ?_)
    ·obtain⟨AN,hR⟩:=hR
     have sJ:=rI j hj;have cj:=nN.out j hj;have tP:=kF eF hj;have tQ:aB aH (w.take j)++[aH (w.getD j eF)]=aB aH (w.take j++[w.getD j eF]):=kK _ _;have tR:(w.take j).length=j:=by rw[dX];omega
     rw[tP];clear tP rI nN bO;generalize w.take j=Gs at*;generalize w.getD j eF=y at*;obtain⟨yv,yt,yd⟩:=y;simp only[]at*;have PJ:(aB aH w)[j]? =some [zV yv,zV yt,.snap (aB aP yd)]:=sJ;have IN:aB aH Gs++[[zV yv,zV yt,.snap (aB aP yd)]]=aB aH (Gs++[(yv,yt,yd)]):=tQ;clear sJ tQ;have AO:aB aH ([]++[(yv,yt,yd)])=[[zV yv,zV yt,.snap (aB aP yd)]]:=rfl
     cases j with
     |zero=>
      have lS:Gs=[]:=eL tR;subst lS;clear hR tR IN;refine aE ?_;exact⟨mj+40,mj+1+1+1+1,⟨oM,fun _=>by omega⟩,aG⟩
     |succ r=>
      obtain⟨i3,i4⟩:=hR oM
      clear hR AO;refine aE ?_;exact⟨mj+40,mj+1+1+1+1,⟨oM,fun _=>by omega⟩,aG⟩
    ·obtain⟨AN,hR⟩:=hR
     rw[gP];clear rI nN bO;refine CA [(36,true,zV w.length),(35,true,zV w.length),(34,true,.snap (aB aH w)),(8,true,.snap (aB aH w)),(7,true,.ptr m 0 0),(29,true,zV ((q+1:Nat):Int)),(28,true,zV l.length),(27,true,.snap (aB cX l)),(3,true,.ptr 2 0 0),(2,true,.ptr 1 0 0),(1,true,.ptr 0 0 0)] (mj+100) ((0,some (.cells 47 2 [[.snap (aB bA im),.snap (aB cX l)]] true false))::(1,some (.cells 47 2 [[.c (.slice none 0 0),.c (.slice none 0 0)]] true false))::(2,some (.cells 47 2 [[.snap (aB bA im),.own id 0 (q+1)]] true false))::(id,some (.cells 86 3 (aB cX F) true true))::(m,some (.cells 86 3 [[zV n,zV t,.snap (aB aH w)]] true false))::[]) ?_ (fun kH=> ?_)
     case refine_2=>
      cases hh:w.length with
      |zero=>
       have jD:w=[]:=eL hh;subst jD;clear hR hh;refine LU 8 (.snap (aB aH [])) .nil ?_;exact kU aG kH
      |succ q=>
       obtain⟨i3,i4⟩:=hR oM
       rw[hh]at kH;refine LV 8 jd (off:=0) (len:=q+1) (rows:=aB aH w) (aB aH w) (by rw[fK];omega) (by rw[sZ,cN (by rw[fK];omega)]) ?_
       exact kU aG kH
     refine aE ?_;exact⟨mj+200,mj+100+1+1,⟨oM,fun _=>by omega⟩,aG⟩
  ·obtain⟨hm,hR⟩:=hR
   rw[gP];clear oY hw;cases hh:l.length with
   |zero=>
    have jD:l=[]:=eL hh;subst jD;clear hR hh;refine aE ?_;exact dS
   |succ q=>
    obtain⟨i1,i2⟩:=hR oM
    have hex:=fun G k=>Cj G k l
    have cI:l.take (q+1)=l:=cN oM
    clear hR;refine aE ?_;exact dS
end Go.Proofs.YtpaomccedbjknaaGreatDoor
