/- Target: contracts of its functions (Azb). No condition but those named. -/
import Derived.Test.YtpaomccedbjknaaGreatDoorAza
set_option linter.all false
namespace Go.Proofs.YtpaomccedbjknaaGreatDoor
open Go.Proofs Go.AL Tryz
set_option maxRecDepth 100000
set_option maxHeartbeats 8000000
attribute [local irreducible] bT AW b8 cF dB hold
theorem Rm(n:Int):PC 28 [zV n] (bV (C8 n)):=by
 refine aZ func28 ntmps28 (.c _) ?_;exact zEa
theorem aN6(n:Int):PC 37 [zV n] (bV (C8 n)):=by
 refine aZ func37 ntmps37 (.c _) ?_;exact zEa
theorem Rn(n:Int):PC 29 [zV n] (bV (fY n)):=by
 refine aZ func29 ntmps29 (.c _) ?_;exact zEa
theorem Ck(n:Int):PC 211 [zV n] (bV (fY n)):=by
 refine aZ func211 ntmps211 (.c _) ?_;exact zEa
theorem VP(n lo hi:Int):PC 78 [zV n,zV lo,zV hi] (bV (lW n lo hi)):=by
 refine aZ func78 ntmps78 (.c _) ?_;unfold lW;by_cases g1:lo<=n
 ·refine aM ?_
  exact cR
 ·refine aM ?_
  exact cR
theorem aN7(n:Int):PC 31 [zV n] (.agg [zV 16,zV n]):=by
 refine aZ func31 ntmps31 (by simp only[go_sem]) ?_
 exact zEa
def vV(l:List (Int×Int))(k:Nat):Int:=if k=0 then 0 else(l.getD (k-1) (0,0)).1
theorem Ro(n:Int)(r:Int×Int)(l:List (Int×Int)):II n (r::l)=if lW r.1 1 1073741824=false\/lW r.2 1 1024=false then 2 else if r.1<=n then 3 else II r.1 l:=rfl
theorem VQ{α:Type}{l:List α}{k:Nat}(z:α)(h:k<l.length):l.drop k=l.getD k z::l.drop (k+1):=by
 rw[OP h,rL,gY h];rfl
theorem Cl(p:qQ)(hl:p.rules.length<=1000000):PC 26 [.agg (kO p)] (zV (rH p)):=by
 refine aZ func26 ntmps26 (.c _) ?_;obtain⟨n,l⟩:=p;obtain⟨M,hM⟩:∃M,rH ⟨n,l⟩=M:=⟨_,rfl⟩;rw[hM];unfold rH at hM;unfold kO;simp only[]at*;have c1:=VP n 0 1024;by_cases g1:lW n 0 1024=false
 ·rw[if_pos g1]at hM
  subst hM;exact zEa
 rw[if_neg g1]at hM;have rX:lW n 0 1024=true:=by simpa using g1
 clear g1;by_cases g2:8<l.length
 ·rw[if_pos g2]at hM
  subst hM;have rC:(8:Int)<(l.length:Int):=oM
  exact zEa
 rw[if_neg g2]at hM;have hg:=Ci l;have c2:=fun a=>VP a 1 1073741824
 have c3:=fun a=>VP a 1 1024
 refine aM ?_;refine dC (α:=Unit) l.length (fun k _=> [(19,true,zV k),(18,true,zV l.length),(17,true,.snap (aB jY l)),(3,true,zV (vV l k))]) (fun k _=> []) (fun k m _=>II (vV l k) (l.drop k)=M) ⟨100,(),hM,aG⟩ (fun k m _ hk hR=> ?_) (fun m _ hR=> ?_)
 ·have bO:=hg k hk
  rw[VQ (0,0) hk,Ro]at hR;have qR:vV l (k+1)=(l.getD k (0,0)).1:=by simp[vV]
  generalize vV l k=last at*;generalize vV l (k+1)=IM at*;have c2k:=c2 (l.getD k (0,0)).1;have c3k:=c3 (l.getD k (0,0)).2;clear c2 c3 hg;generalize l.getD k (0,0)=r at*;obtain⟨e,c⟩:=r;simp only[]at*;have yN:(aB jY l)[k]? =some [zV e,zV c]:=bO;clear bO;subst qR;clear hM;by_cases h1:lW IM 1 1073741824=false
  ·rw[if_pos (.inl h1)]at hR
   subst hR;exact zEa
  have xJ:lW IM 1 1073741824=true:=by simpa using h1
  by_cases h2:lW c 1 1024=false
  ·rw[if_pos (.inr h2)]at hR
   subst hR;clear h1;exact zEa
  have h2':lW c 1 1024=true:=by simpa using h2
  rw[if_neg (by simp[xJ,h2'])]at hR
  clear h1 h2;by_cases h3:IM<=last
  ·rw[if_pos h3]at hR
   subst hR;exact zEa
  ·rw[if_neg h3]at hR
   have cW:=bC.mk hR;clear hR;refine aM ?_;exact⟨m+20,(),cW.out,aG⟩
 ·rw[v8]at hR
  have hz:M=0:=hR.symm;subst hz;clear hR hM;exact zEa
theorem Rp(a:List Int)(x:Int):aB aW a++[[zV x]]=aB aW (a++[x]):=kK a x
theorem Rq{im:List (List aQ)}{k:Nat}(h:k<im.length):(bH im).take k++[((im.getD k []).length:Int)]=(bH im).take (k+1):=by
 rw[kF 0 (by rw[vE];exact h)]
 congr 2;simp[bH,h]
theorem aO1(im:List (List aQ))(hl:im.length<=1000000):PC 212 [.snap (aB bA im)] (.snap (aB aW (bH im))):=by
 refine aZ func212 ntmps212 (gJ _) ?_;have hg:=gV im;refine aE ?_;refine dC (α:=Nat) im.length (fun k id=> [(8,true,zV k),(7,true,zV im.length),(6,true,.snap (aB bA im)),(3,true,lJ k id)]) (fun k id=>lX 3 1 (aB aW ((bH im).take k)) k id) (fun k m id=>0<k->id<m) ⟨100,0,fun h=>absurd h oM,aG⟩ (fun k m id hk hR=> ?_) (fun m id hR=> ?_)
 ·have bO:(aB bA im)[k]? =some [.snap (aB aP (im.getD k []))]:=hg k hk
  have cI:=Rq hk;have iE:((bH im).take k).length=k:=by rw[dX,vE];omega
  rw[<-cI];clear cI hg;generalize (bH im).take k=F at*;generalize im.getD k []=v at*;have dM:aB aW ([]++[(v.length:Int)])=[[zV (v.length:Int)]]:=rfl;have eR:=Rp F (v.length:Int);cases k with
  |zero=>
   have jC:F=[]:=eL iE;subst jC;clear hR iE eR;refine aE ?_;exact⟨m+40,m+1,fun _=>by omega,aG⟩
  |succ q=>
   have i2:=hR oM
   clear hR dM;refine aE ?_;exact⟨m+40,m+1,fun _=>by omega,aG⟩
 ·have cI:(bH im).take im.length=bH im:=cN (by rw[vE];exact cA _)
  rw[cI];have sP:=vE im;clear hg cI;cases hh:im.length with
  |zero=>
   have jD:im=[]:=eL hh;subst jD;clear hR hh sP;exact zE
  |succ q=>
   have i2:=hR oM
   have VK:(aB aW (bH im)).length=q+1:=by rw[fK,sP,hh]
   have cI:(aB aW (bH im)).take (q+1)=aB aW (bH im):=cN oM
   clear hR sP;exact zE
theorem aO2(im:List (List aQ))(hl:im.length<=1000000):PC 169 [.snap (aB bA im)] (.snap (aB aW (bH im))):=by
 refine aZ func169 ntmps169 (gJ _) ?_;have hg:=gV im;refine aE ?_;refine dC (α:=Nat) im.length (fun k id=> [(4,true,zV k),(3,true,lJ k id),(0,true,.snap (aB bA im))]) (fun k id=>lX 3 1 (aB aW ((bH im).take k)) k id) (fun k m id=>0<k->id<m) ⟨100,0,fun h=>absurd h oM,aG⟩ (fun k m id hk hR=> ?_) (fun m id hR=> ?_)
 ·have bO:(aB bA im)[k]? =some [.snap (aB aP (im.getD k []))]:=hg k hk
  have cI:=Rq hk;have iE:((bH im).take k).length=k:=by rw[dX,vE];omega
  rw[<-cI];clear cI hg;generalize (bH im).take k=F at*;generalize im.getD k []=v at*;have dM:aB aW ([]++[(v.length:Int)])=[[zV (v.length:Int)]]:=rfl;have eR:=Rp F (v.length:Int);cases k with
  |zero=>
   have jC:F=[]:=eL iE;subst jC;clear hR iE eR;refine aE ?_;exact⟨m+40,m+1,fun _=>by omega,aG⟩
  |succ q=>
   have i2:=hR oM
   clear hR dM;refine aE ?_;exact⟨m+40,m+1,fun _=>by omega,aG⟩
 ·have cI:(bH im).take im.length=bH im:=cN (by rw[vE];exact cA _)
  rw[cI];have sP:=vE im;clear hg cI;cases hh:im.length with
  |zero=>
   have jD:im=[]:=eL hh;subst jD;clear hR hh sP;exact zE
  |succ q=>
   have i2:=hR oM
   have VK:(aB aW (bH im)).length=q+1:=by rw[fK,sP,hh]
   have cI:(aB aW (bH im)).take (q+1)=aB aW (bH im):=cN oM
   clear hR sP;exact zE
theorem aO3(im:List (List aQ))(hl:im.length<=1000000):PC 97 [.snap (aB bA im)] (zV (cZ (bH im))):=by
 refine aZ func97 ntmps97 (.c _) ?_;have c1:=aO2 im hl;have c2:=TJ (bH im) (by rw[vE];exact hl)
 exact zE
structure DW(s:lM):Prop where
 im:s.cur.length<=1000
 Rr:∀v∈s.cur,v.length<=1000000
 len:s.items.length<=1000000
 one:∀x∈s.items,IL x.saved
def C9(l:List lL)(k:Nat):lL:=if k=0 then⟨-1,0,[]⟩else l.getD (k-1) gG
def R4(l:List lL)(k:Nat):AV:=if k=0 then .c (.slice none 0 0)else .snap (aB aH (C9 l k).saved)
theorem aO4(sz:List Int)(n t:Int)(x:lL)(r:List lL):FT sz n t (x::r)=if fY x.number=false then 2 else if x.number<=n then 8 else if fY x.time=false\/x.time<t then 24 else if qH sz none x.saved=0 then FT sz x.number x.time r else qH sz none x.saved:=rfl
theorem VR(s:lM)(hs:DW s):PC 134 [.agg (kN s)] (zV (oG s)):=by
 refine aZ func134 ntmps134 (.c _) ?_;obtain⟨h1,h2,h3,h4⟩:=hs;obtain⟨M,hM⟩:∃M,oG s=M:=⟨_,rfl⟩;rw[hM];unfold oG at hM;obtain⟨im,l⟩:=s;unfold kN;simp only[]at*;have c1:=TY im h1;have c2:=aO1 im oM
 by_cases g1:cZ (bH im)=0
 case neg=>
  rw[if_neg g1]at hM;clear h2 h3 h4 c2;generalize cZ (bH im)=e at*;subst hM;have rX:(e !=0)=true:=bne_iff_ne.2 g1;clear g1;exact zE
 rw[if_pos g1]at hM;by_cases g2:1024<l.length
 ·rw[if_pos g2]at hM
  subst hM;rw[g1]at c1;have rC:(1024:Int)<(l.length:Int):=oM
  clear h2 h4 c2 g1;exact zE
 rw[if_neg g2]at hM;have hg:=LR l
 have c3:∀k,k<l.length->PC 128 [.snap (aB aH (l.getD k gG).saved),.snap (aB aW (bH im))] (zV (qH (bH im) none (l.getD k gG).saved)):=fun k hk=>by
  have hw:=h4 _ (eB gG hk);have h:=Kw (l.getD k gG).saved (bH im) (by rw[vE];omega) hw.2 hw.1
  unfold L2 at h
  rwa[if_pos g1]at h
 rw[g1]at c1;generalize bH im=sz at*
 replace c3:=bC.mk c3
 have c4:=Ck;clear h2 h4 g1;refine aE ?_;refine dC (α:=Unit) l.length (fun k _=> [(22,true,zV k),(21,true,zV l.length),(20,true,.snap (aB cX l)),(4,true,.ptr 1 0 0),(1,true,.ptr 0 0 0)]) (fun k _=> [(0,some (.cells 47 2 [[.snap (aB bA im),.snap (aB cX l)]] true false)),(1,some (.cells 86 3 [[zV (C9 l k).number,zV (C9 l k).time,R4 l k]] true false))]) (fun k m _=>2<=m/\FT sz (C9 l k).number (C9 l k).time (l.drop k)=M) ⟨100,(),⟨oM,hM⟩,aG⟩ (fun k m _ hk hR=> ?_) (fun m _ hR=> ?_)
 ·obtain⟨hm,hR⟩:=hR
  have bO:=hg k hk;have c3k:=c3.out k hk;have AG:C9 l (k+1)=l.getD k gG:=by simp[C9]
  have dG:R4 l (k+1)= .snap (aB aH (l.getD k gG).saved):=by simp[R4,C9]
  rw[VQ gG hk,aO4]at hR;rw[AG,dG];clear AG dG hg c3;generalize l.getD k gG=x at*;generalize R4 l k=lr at*;generalize C9 l k=la at*;obtain⟨n0,t0,w0⟩:=la;obtain⟨n,t,w⟩:=x;rw[FW]at bO;have Rs:=c4 n;have VS:=c4 t;simp only[]at*;clear c4;generalize qH sz none w=ce at*;cases e1:fY n with
  |false=>
   rw[e1]at Rs hR;rw[if_pos rfl]at hR;subst hR;clear hM VS;exact zE
  |true=>
   rw[e1]at Rs hR;rw[if_neg dE]at hR
   by_cases e2:n<=n0
   ·rw[if_pos e2]at hR
    subst hR;clear hM VS;exact zE
   rw[if_neg e2]at hR;cases e3:fY t with
   |false=>
    rw[e3]at VS hR;rw[if_pos (.inl rfl)]at hR;subst hR;clear hM;exact zE
   |true=>
    rw[e3]at VS hR;by_cases e4:t<t0
    ·rw[if_pos (.inr e4)]at hR
     subst hR;clear hM;exact zE
    rw[if_neg (by simp;omega)]at hR
    by_cases e5:ce=0
    ·rw[if_pos e5]at hR
     subst e5;have cW:=bC.mk hR;clear hR hM;refine aE ?_;exact⟨m+40,(),⟨oM,cW.out⟩,aG⟩
    ·rw[if_neg e5]at hR
     subst hR;have e5':(ce !=0)=true:=bne_iff_ne.2 e5;clear hM e5;exact zE
 ·obtain⟨hm,hR⟩:=hR
  rw[v8]at hR;have hz:M=0:=hR.symm;subst hz;generalize R4 l l.length=lr at*;generalize C9 l l.length=la at*;clear hR hM hg c3;exact zE
theorem VT{dd n:Nat}{rows:List (List AV)}{y:AV}(hn:n=rows.length):FL dd rows [[.own dd 0 n,y]] [[.snap rows,y]]:=by
 subst hn;refine⟨rfl,fun i r r' hr cG=> ?_⟩
 cases i with
 |succ i=>simp at hr
 |zero=>
  simp only[qX,bM]at hr cG;subst hr cG;refine⟨rfl,fun j x x' h1 h2=> ?_⟩
  cases j with
  |zero=>
   simp only[qX,bM]at h1 h2;subst h1 h2;exact .inr ⟨0,rows.length,rfl,oM,by rw[sZ,gP]⟩
  |succ j=>
   simp only[CX]at h1 h2;rw[h1]at h2;injection h2 with h2
   exact .inl h2
theorem VU{x y:List AV}(h:y1 x y):r7 [x] [y]:=u3 h BH
theorem LS(v:List aQ):aB bA ([]++[v])=[[.snap (aB aP v)]]:=rfl
theorem aO5(s:lM)(hs:DW s):PC 88 [.agg (kN s)] (.agg (kN s)):=by
 refine iZ func88 ntmps88 (by simp only[go_sem,kN]) ?_
 obtain⟨h1,h2,h3,h4⟩:=hs;obtain⟨im,l⟩:=s;unfold kN;simp only[]at*;have hc:∀k,k<im.length->PC 150 [.snap (aB aP (im.getD k []))] (.snap (aB aP (im.getD k []))):=fun k hk=>yM _ (h2 _ (eB [] hk))
 replace hc:=bC.mk hc
 have hw:∀k,k<l.length->IL (l.getD k gG).saved:=fun k hk=>h4 _ (eB gG hk)
 replace hw:=bC.mk hw
 have hg:=gV im;have oY:=bC.mk (LR l);clear h2 h4;refine aE ?_;refine dC (α:=Nat) im.length (fun k id=> [(11,true,zV k),(10,true,zV im.length),(9,true,.snap (aB bA im)),(3,true,.ptr 2 0 0),(2,true,.ptr 1 0 0),(1,true,.ptr 0 0 0)]) (fun k id=>(0,some (.cells 47 2 [[.snap (aB bA im),.snap (aB cX l)]] true false))::(1,some (.cells 47 2 [[.c (.slice none 0 0),.c (.slice none 0 0)]] true false))::(2,some (.cells 47 2 [[lJ k id,.c (.slice none 0 0)]] true false))::lX 58 1 (aB bA (im.take k)) k id) (fun k m id=>3<=m/\(0<k->3<=id/\id<m)) ⟨100,0,⟨oM,fun h=>absurd h oM⟩,aG⟩ (fun k m id hk hR=> ?_) (fun m id hR=> ?_)
 ·obtain⟨hm,hR⟩:=hR
  have bO:(aB bA im)[k]? =some [.snap (aB aP (im.getD k []))]:=hg k hk;have c1:=hc.out k hk;have cI:=kF [] hk;have eR:aB bA (im.take k)++[[.snap (aB aP (im.getD k []))]]=aB bA (im.take k++[im.getD k []]):=kK _ _;have iE:(im.take k).length=k:=by rw[dX];omega
  rw[cI];clear cI hg hc oY hw;generalize im.take k=F at*;generalize im.getD k []=x at*;have dM:=LS x;cases k with
  |zero=>
   have jC:F=[]:=eL iE;subst jC;clear hR iE eR;refine aE ?_;exact⟨m+40,m+5,⟨oM,fun _=>by omega⟩,aG⟩
  |succ q=>
   obtain⟨i1,i2⟩:=hR oM
   clear hR dM;refine aE ?_;exact⟨m+40,m+5,⟨oM,fun _=>by omega⟩,aG⟩
 ·obtain⟨hm,hR⟩:=hR
  rw[gP];clear hg hc;refine aE ?_;refine CA [(26,true,zV 0),(25,true,zV l.length),(24,true,.snap (aB cX l)),(3,true,.ptr 2 0 0),(2,true,.ptr 1 0 0),(1,true,.ptr 0 0 0)] (m+100) ((0,some (.cells 47 2 [[.snap (aB bA im),.snap (aB cX l)]] true false))::(1,some (.cells 47 2 [[.c (.slice none 0 0),.c (.slice none 0 0)]] true false))::[(2,some (.cells 47 2 [[.snap (aB bA im),.c (.slice none 0 0)]] true false))]) ?_ (fun kH=> ?_)
  case refine_2=>
   cases hh:im.length with
   |zero=>
    have jD:im=[]:=eL hh;subst jD;clear hR hh;refine VV 2 [[.snap (aB bA []),.c (.slice none 0 0)]] (VU (eE .nil (tY _))) ?_;exact kU aG kH
   |succ q=>
    obtain⟨i1,i2⟩:=hR oM
    refine AH id 2 [[.snap (aB bA im),.c (.slice none 0 0)]] eN eN oM (VT (by rw[fK,hh])) ?_
    exact kU aG kH
  refine dC (α:=Nat) l.length (fun k id=> [(26,true,zV k),(25,true,zV l.length),(24,true,.snap (aB cX l)),(3,true,.ptr 2 0 0),(2,true,.ptr 1 0 0),(1,true,.ptr 0 0 0)]) (fun k id=>(0,some (.cells 47 2 [[.snap (aB bA im),.snap (aB cX l)]] true false))::(1,some (.cells 47 2 [[.c (.slice none 0 0),.c (.slice none 0 0)]] true false))::(2,some (.cells 47 2 [[.snap (aB bA im),lJ k id]] true false))::lX 86 3 (aB cX (l.take k)) k id) (fun k m id=>3<=m/\(0<k->3<=id/\id<m)) ⟨m+100,0,⟨oM,fun h=>absurd h oM⟩,aG⟩ (fun k m id hk hR=> ?_) (fun m id hR=> ?_)
  ·obtain⟨hm,hR⟩:=hR
   have bO:=oY.out k hk;have c2:=aN4 _ (hw.out k hk);have cI:=kF gG hk;have eR:aB cX (l.take k)++[cX (l.getD k gG)]=aB cX (l.take k++[l.getD k gG]):=kK _ _;have iE:(l.take k).length=k:=by rw[dX];omega
   rw[cI];clear cI oY hw;generalize l.take k=F at*;generalize l.getD k gG=x at*;obtain⟨n,t,w⟩:=x;rw[FW]at bO eR;simp only[]at*;have dM:aB cX ([]++[⟨n,t,w⟩])=[[zV n,zV t,.snap (aB aH w)]]:=rfl;cases k with
   |zero=>
    have jC:F=[]:=eL iE;subst jC;clear hR iE eR;refine aE ?_;exact⟨m+40,m+1+1+1+1,⟨oM,fun _=>by omega⟩,aG⟩
   |succ q=>
    obtain⟨i1,i2⟩:=hR oM
    clear hR dM;refine aE ?_;exact⟨m+40,m+1+1+1+1,⟨oM,fun _=>by omega⟩,aG⟩
  ·obtain⟨hm,hR⟩:=hR
   rw[gP];clear oY hw;cases hh:l.length with
   |zero=>
    have jD:l=[]:=eL hh;subst jD;clear hR hh;refine aE ?_;exact dS
   |succ q=>
    obtain⟨i1,i2⟩:=hR oM
    have hex:=fun G k=>Cj G k l
    have cI:l.take (q+1)=l:=cN oM
    clear hR;refine aE ?_;exact dS
end Go.Proofs.YtpaomccedbjknaaGreatDoor
