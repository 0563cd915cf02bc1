/- Target: contracts of its functions (Aza). No condition but those named. -/
import Derived.Test.YtpaomccedbjknaaGreatDoorAz
set_option linter.all false
namespace Go.Proofs.YtpaomccedbjknaaGreatDoor
open Go.Proofs Go.AL Tryz
set_option maxRecDepth 100000
def aK0(x:lL):Int×Int:=(x.number,x.time)
theorem Rf:∀(l:List bR) (im:List (List aQ)) (i:Nat),(DD l im i).2.2=0->Qz (bH im) l
 |[],im,i,_,w,hw=>by simp at hw
 |x::l,im,i,h,w,hw=>by
  unfold DD at h;by_cases g:lA (bH im) x=0
  ·rw[if_pos g]at h
   rcases dJ.1 hw with e|e
   ·subst e;exact g
   ·rw[<-Z8 g]
    exact Rf l _ _ h w e
  ·rw[if_neg g]at h
   exact absurd h g
theorem aK1{im:List (List aQ)}{l:List bR}(h:(kY im l).2.2=0):cZ (bH im)=0/\bH (kY im l).1=bH im/\Qz (bH im) l:=by
 unfold kY at h⊢;split at h
 ·rename_i g
  rw[if_pos g];exact⟨g,Lh _ _ _ h,Rf _ _ _ h⟩
 ·exact absurd h ‹_›
theorem aK2{s:lM}{n t:Int}(h:oG s=0)(hn:fY n=true)(h1:(FU s.items).number<n)(ht:fY t=true)(h2:(FU s.items).time<=t)(hl:s.items.length<1024):IH s n t=(⟨s.cur,s.items++[⟨n,t,[]⟩]⟩,0)/\oG ⟨s.cur,s.items++[⟨n,t,[]⟩]⟩=0:=by
 obtain⟨g1,g2,g3,g4⟩:=(Rb s).1 h;refine⟨by unfold IH;rw[if_pos h,if_neg (by rw[hn];simp),if_neg oM,if_neg (by rw[ht];simp;omega),if_neg oM],(Rb _).2 ⟨g1,by simp;omega,fun x hx=> ?_,?_⟩⟩
 ·rcases qW.1 hx with e|e
  ·exact g3 x e
  ·simp only[dJ,iI,or_false]at e
   subst e;exact⟨hn,ht,rfl⟩
 ·refine Zp.2 ⟨g4,List.pairwise_singleton _ _,fun a ha b hb=> ?_⟩
  simp only[dJ,iI,or_false]at hb;subst hb;rcases List.eq_nil_or_concat s.items with e|⟨L,x,e⟩
  ·rw[e]at ha;simp at ha
  ·rw[List.concat_eq_append]at e
   have hx:FU s.items=x:=by unfold FU;rw[e];simp
   rw[hx]at h1 h2;rw[e]at ha g4;rcases qW.1 ha with e2|e2
   ·have:=(Zp.1 g4).2.2 a e2 x (by simp)
    unfold VN at this⊢;simp only[];omega
   ·simp only[dJ,iI,or_false]at e2
    subst e2;unfold VN;simp only[];omega
structure qQ where
 C7:Int
 rules:List (Int×Int)
def Rg:qQ:=⟨0,[]⟩
def jY(r:Int×Int):List AV:=[zV r.1,zV r.2]
def kO(p:qQ):List AV:=[zV p.C7,.snap (aB jY p.rules)]
def II:Int->List (Int×Int)->Int
 |_,[]=>0
 |n,r::l=>if lW r.1 1 1073741824=false\/lW r.2 1 1024=false then 2 else if r.1<=n then 3 else II r.1 l
def rH(p:qQ):Int:=if lW p.C7 0 1024=false then 2 else if 8<p.rules.length then 6 else II 0 p.rules
def aK3(r:Int×Int)(times:List Int)(now:Int)(i:Nat):Bool:=decide (times.getD i 0<=now)&&decide (now/r.1-r.2<times.getD i 0/r.1)&&(List.range times.length).all fun n=> !(decide (i<n)&&decide (times.getD n 0<=now)&&decide (times.getD n 0/r.1=times.getD i 0/r.1))
def aK4(p:qQ)(times:List Int)(now:Int)(i:Nat):Bool:=decide ((times.length:Int)-p.C7<=i)||p.rules.any fun r=>aK3 r times now i
def Rh(p:qQ)(s:lM)(now:Int):List Int:=((List.range s.items.length).filter fun i=> !aK4 p (s.items.map (·.time)) now i).map fun i=>(s.items.getD i gG).number
def aK5(s:lM)(l:List Int):lM:=l.foldl (fun s n=>(aJ9 s n).1) s
def Cf(p:qQ)(s:lM)(now:Int):lM×List Int×Int:=
 if rH p=0 then(if oG s=0 then(if fY now=false\/(s.items≠[]/\now<(FU s.items).time)then(oE,[],24)else(aK5 s (Rh p s now),Rh p s now,0))else(oE,[],oG s))else(oE,[],rH p)
def eJ(w:bR)(k:Pl):Bool:=decide (w.1=k.1)&&decide (w.2.1<=k.2)&&decide (k.2<w.2.1+w.2.2.length)
def lG:List bR->Pl->Option aQ
 |[],_=>none
 |w::r,k=>match lG r k with
  |some x=>some x
  |none=>if eJ w k=true then some (w.2.2.getD (k.2-w.2.1).toNat bS)else none
def C8(n:Int):Bool:=decide (0<=n)&&decide (n<4)
structure fR where
 r:eD
 s:jB
 x:lM
 p:qQ
 site:Int
def jV:fR:=⟨iK,o0,oE,Rg,0⟩
def cP(t:fR):List AV:=cC t.r++(dH t.s++(kN t.x++(kO t.p++[zV t.site])))
def oH(sz:List Int)(n:Int):Int×Int:=if cZ sz=0 then(if n<20\/4096-(16+sum sz)<n then(0,2)else(16+sum sz+n,0))else(0,cZ sz)
def pZ(place dY:Int)(sz:List Int)(n:Int)(p:qQ):fR×List bR×Int:=
 if rH p=0 then
  if(oH sz n).2=0 then
   if C8 place=true/\fY dY=true then(⟨(kW sz 0 (16+n) dY).1,(lZ 16 n).1,⟨mG sz,[]⟩,p,place⟩,(lZ 16 n).2.1++(kW sz 0 (16+n) dY).2.1,0)else(jV,[],2)
  else(jV,[],(oH sz n).2)
 else(jV,[],rH p)
def IJ(t:fR):Bool:=decide (t.r.gQ=0)&&decide (t.s.j.start=16)&&decide (t.r.data=16+t.s.j.count)
def sQ(t:fR):Int:=
 if mQ t.r=0 then
  if l5 t.s=0 then
   if IJ t=true then
    if oG t.x=0 then
     if bH t.x.cur=t.r.aR then
      if rH t.p=0 then
       if C8 t.site=true then
        if t.r.jM=0/\(t.s.bI.any fun x=>decide (x.number<=t.r.dK))=false/\(t.x.items.any fun x=>decide (t.r.dK<x.number))=false then 0 else 12
       else 2
      else rH t.p
     else 22
    else oG t.x
   else 3
  else l5 t.s
 else mQ t.r
def FV(t:fR)(n:Int):Int:=if sQ t=0 then(if n<t.r.dY then 13 else if t.r.dY<n then 1 else 0)else sQ t
def zA(t:fR)(n:Int)(b:List Int):fR×List bR×Int:=
 if FV t n=0 then
  if(dA b).2=0 then
   if(dA b).1.number<=t.r.dK then(jV,[],8)
   else if(C3 t.s b).2.2=0 then({t with s:=(C3 t.s b).1},(C3 t.s b).2.1,0)else(jV,[],(C3 t.s b).2.2)
  else(jV,[],(dA b).2)
 else(jV,[],FV t n)
def DU(t:fR)(n k:Int):fR×List bR×Int:=
 if FV t n=0 then
  if k<=t.r.dK then(jV,[],8)
  else if(rG t.s k).2.2=0 then
   if rT (pX (rG t.s k).1 k).1 t.r.aR=0 then({t with s:=(rG t.s k).1},(rG t.s k).2.1,0)else(jV,[],rT (pX (rG t.s k).1 k).1 t.r.aR)
  else(jV,[],(rG t.s k).2.2)
 else(jV,[],FV t n)
def LN(t:fR):List (List aQ)×Int×Int:=if sQ t=0 then(t.x.cur,t.r.dK,0)else([],0,sQ t)
def QY(t:fR):Option kM:=(((sO t.s).map fun n=>(pX t.s n).1).find? fun c=>decide (c.base<=t.r.dK))
def Cg(p:qQ)(x:lM)(c:kM)(now:Int):lM×Int:=
 if(IG x c.writes).2=0 then
  if(IH (IG x c.writes).1 c.number now).2=0 then
   if(Cf p (IH (IG x c.writes).1 c.number now).1 now).2.2=0 then((Cf p (IH (IG x c.writes).1 c.number now).1 now).1,0)else(oE,(Cf p (IH (IG x c.writes).1 c.number now).1 now).2.2)
  else(oE,(IH (IG x c.writes).1 c.number now).2)
 else(oE,(IG x c.writes).2)
theorem aK6{r:eD}(h:mQ r=0):cZ r.aR=0/\r.data+sum r.aR<=4096/\0<=r.dK/\r.dK<=1073741824/\0<=r.dY/\r.dY<=1073741824:=by
 unfold mQ at h;by_cases h1:rO r.aR r.gQ r.data=0
 ·rw[if_pos h1]at h
  unfold rO at h1;by_cases h3:cZ r.aR=0
  ·rw[if_pos h3]at h1
   split at h
   ·rename_i h2
    unfold fY at h2;simp only[jF,decide_eq_true_eq]at h2;split at h1
    ·cases h1
    ·exact⟨h3,oM,oM,oM,oM,oM⟩
   ·cases h
  ·rw[if_neg h3]at h1
   exact absurd h1 h3
 ·rw[if_neg h1]at h
  exact absurd h h1
theorem aK7{t:fR}(h:mQ t.r=0)(hj:mH t.s.j.start t.s.j.count=true)(hl:IJ t=true):(oH t.r.aR t.s.j.count).2=0/\0<(oH t.r.aR t.s.j.count).1:=by
 obtain⟨h1,h2,-⟩:=aK6 h;have h3:=BD h1;unfold IJ at hl;unfold mH at hj;simp only[jF,decide_eq_true_eq]at hl hj;unfold oH;rw[if_pos h1,if_neg oM]
 exact⟨rfl,by simp only[];omega⟩
theorem Ri{sz:List Int}{n dY:Int}(h:(oH sz n).2=0)(he:fY dY=true)(hj:(nK 16 (aV 0++aV 1)).2=0)(hr:(nK 0 (gR ⟨sz,0,16+n,dY,0,0⟩)).2=0):cZ sz=0/\(lZ 16 n).2.2=0/\(kW sz 0 (16+n) dY).2.2=0:=by
 unfold oH at h;by_cases h1:cZ sz=0
 ·rw[if_pos h1]at h
  have h3:=BD h1;split at h
  ·cases h
  ·rename_i h2
   have hv:mH 16 n=true:=by
    unfold mH;simp only[jF,decide_eq_true_eq];omega
   refine⟨h1,?_,?_⟩
   ·unfold lZ nM
    rw[if_pos hv,if_pos hj,if_pos rfl]
   ·have hl:rO sz 0 (16+n)=0:=by
     unfold rO;rw[if_pos h1,if_neg oM,if_neg oM]
    unfold kW;rw[if_pos hl,if_pos he,if_pos hr]
 ·rw[if_neg h1]at h
  exact absurd h h1
def aK8(d:bQ)(t:fR)(now:Int):fR×List bR×Bool×Int:=
 if gE d=0 then
  if sQ t=0 then
   if fY now=false\/(t.x.items≠[]/\now<(FU t.x.items).time)then(jV,[],false,24)
   else match QY t with
    |none=>(t,[],false,0)
    |some c=>
     if(wK d t.r c).2.2=0 then
      if(fQ d (wK d t.r c).2.1).2.2=0 then
       if(qP (fQ d (wK d t.r c).2.1).1 t.s c.number).2.2=0 then
        if(Cg t.p t.x c now).2=0 then(⟨(wK d t.r c).1,(qP (fQ d (wK d t.r c).2.1).1 t.s c.number).1,(Cg t.p t.x c now).1,t.p,t.site⟩,(wK d t.r c).2.1++(qP (fQ d (wK d t.r c).2.1).1 t.s c.number).2.1,true,0)
        else(jV,[],false,(Cg t.p t.x c now).2)
       else(jV,[],false,(qP (fQ d (wK d t.r c).2.1).1 t.s c.number).2.2)
      else(jV,[],false,(fQ d (wK d t.r c).2.1).2.2)
     else(jV,[],false,(wK d t.r c).2.2)
  else(jV,[],false,sQ t)
 else(jV,[],false,gE d)
def aK9(d:bQ)(t:fR)(n:Int):fR×List bR×Int:=
 if gE d=0 then
  if sQ t=0 then
   if n<t.r.dY then(jV,[],13)
   else if 1073741824<n then(jV,[],2)
   else if n=t.r.dY then(t,[],0)
   else if(qP d t.s 1073741824).2.2=0 then
    if(fQ d (qP d t.s 1073741824).2.1).2.2=0 then
     if(F3 (fQ d (qP d t.s 1073741824).2.1).1 t.r n).2.2=0 then({t with s:=(qP d t.s 1073741824).1,r:=(F3 (fQ d (qP d t.s 1073741824).2.1).1 t.r n).1},(qP d t.s 1073741824).2.1++(F3 (fQ d (qP d t.s 1073741824).2.1).1 t.r n).2.1,0)
     else(jV,[],(F3 (fQ d (qP d t.s 1073741824).2.1).1 t.r n).2.2)
    else(jV,[],(fQ d (qP d t.s 1073741824).2.1).2.2)
   else(jV,[],(qP d t.s 1073741824).2.2)
  else(jV,[],sQ t)
 else(jV,[],gE d)
def s7:aQ:=((7,0,0,0),(0,0,0,0))
def Ch:qQ:=⟨1,[]⟩
def uM:=pZ 2 1 [4] 60 Ch
def QZ:=fQ ⟨jG 80,[]⟩ uM.2.1
def lN:kM:=⟨0,1,0,[],[(0,0,[s7])]⟩
def uN:List Int:=(A6 lN 30).1.getD 0 []
def vT:=zA uM.1 1 uN
def R3:=fQ QZ.1 vT.2.1
def kC:=DU vT.1 1 1
def tM:=fQ R3.1 kC.2.1
def lO:=aK8 tM.1 kC.1 5
def vU:=fQ tM.1 lO.2.1
def LO:=aK9 vU.1 lO.1 3
theorem aL0:oH [4] 60=(80,0):=by kernel_rfl
theorem aL1:uM.2.2=0:=by kernel_rfl
theorem aL2:QZ.2.2=0:=by kernel_rfl
theorem Rj:(A6 lN 30).2=0/\(A6 lN 30).1.length=1:=⟨by kernel_rfl,by kernel_rfl⟩
theorem aL3:(zA uM.1 2 uN).2.2=1:=by kernel_rfl
theorem aL4:vT.2.2=0:=by kernel_rfl
theorem aL5:R3.2.2=0:=by kernel_rfl
theorem aL6:kC.2.2=0:=by kernel_rfl
theorem aL7:tM.2.2=0:=by kernel_rfl
theorem aL8:vU.2.2=0:=by kernel_rfl
theorem aL9:LN lO.1=([[s7,bS,bS,bS]],1,0):=by kernel_rfl
theorem aM0:(zA lO.1 1 uN).2.2=8:=by kernel_rfl
theorem aM1:(zA LO.1 2 uN).2.2=13:=by kernel_rfl
theorem aM2:lO.1.s.bI.length=0/\lO.1.x.items.map aK0=[(1,5)]:=⟨by kernel_rfl,by kernel_rfl⟩
end Go.Proofs.YtpaomccedbjknaaGreatDoor
namespace Go.Proofs.YtpaomccedbjknaaGreatDoor
open Go.Proofs Go.AL Tryz
set_option maxRecDepth 100000
set_option maxHeartbeats 8000000
attribute [local irreducible] iX
structure aM3(s:jB)(x:bK):Prop where
 cD:uB (cD x)=0
 seen:DN x≠0
 closed:x.closed=true->(uE (Go.Proofs.YtpaomccedbjknaaGreatDoor.cD x)).2=0
 aM4:∃R,x.records=R++[jN s.j]/\(R=[]\/∃y,AJ s.bI x.number=some y/\R=y.records)
 aM5:x.records.length=BS x
theorem aM6{s:jB}(h:l5 s=0){j:Jr}(e3:jE j=0)(hf:j.first=s.j.first)(hN:jN j=jN s.j+1){x:bK}(hx:aM3 s x)(hc:s.bI.length<=1000):l5 ⟨j,rZ s.bI x⟩=0:=by
 obtain⟨hj,-,iR⟩:=FA h;obtain⟨j1,j2,j3,j4,j5,j6,j7,j8⟩:=DM hj;have hn:=Bw hj;have yQ:PW s.bI:=(Q9 s.j _ _ _ iR).1;have oC:=HZ s.j _ _ _ iR;obtain⟨IK,-⟩:=Qk s.j _ _ _ iR;have vO:∀y∈s.bI,pV (s.j.first-1) (jN s.j) y.records=true:=fun y hy=>Nk (oC y hy)
 have bG:∀y∈s.bI,∀n∈y.records,n<jN s.j:=fun y hy n hn=>(US _ _ _ (vO y hy) n hn).2
 obtain⟨R,hR,cW⟩:=hx.aM4
 have QX:pV (j.first-1) (jN j) x.records=true:=by
  rw[hN,hf,hR];rcases cW with e|⟨y,hg,e⟩
  ·rw[e];exact Bv [] (s.j.first-1) (jN s.j) oM rfl
  ·rw[e];exact Bv _ _ _ oM (vO y (Qf hg).1)
 have BU:mW j x=true:=by
  unfold mW;rw[if_pos hx.cD,if_neg hx.seen,if_neg (fun hh=>hh.2 (hx.closed hh.1)),if_pos QX]
  exact decide_eq_true hx.aM5
 have h9:=Py s.bI x;unfold l5;rw[if_pos e3,if_neg (by simp only[];omega),if_pos]
 refine Qj _ _ _ _ (fun y hy=> ?_) (Bu yQ x) (fun n hn=>by simp at hn) (fun a ha b hb AK n DQ xO=> ?_) (fun y hy n hn=>by simp)
 ·rcases VM yQ hy with h1|⟨h1,-⟩
  ·rw[h1];exact BU
  ·exact aG4 hf (by simp only[];omega) (oC y h1)
 ·have key:∀c∈s.bI,c.number≠x.number->∀n∈c.records,n∉x.records:=fun c hc hcx n hn hm=>by
   rw[hR]at hm;rcases qW.1 hm with h1|h1
   ·rcases cW with e|⟨y,hg,e⟩
    ·rw[e]at h1;simp at h1
    ·rw[e]at h1
     obtain⟨g1,g2⟩:=Qf hg;exact IK c hc y g1 oM n hn h1
   ·have:=bG c hc n hn
    simp at h1;omega
  rcases VM yQ ha with h1|⟨h1,g1⟩
  ·rcases VM yQ hb with h2|⟨h2,g2⟩
   ·rw[h1,h2]at AK;exact AK rfl
   ·rw[h1]at DQ
    exact key b h2 g2 n xO DQ
  ·rcases VM yQ hb with h2|⟨h2,g2⟩
   ·rw[h2]at xO
    exact key a h1 g1 n DQ xO
   ·exact IK a h1 b h2 AK n DQ xO
end Go.Proofs.YtpaomccedbjknaaGreatDoor
namespace Go.Proofs.YtpaomccedbjknaaGreatDoor
open Go.Proofs Go.AL Tryz
set_option maxRecDepth 100000
set_option maxHeartbeats 8000000
attribute [local irreducible] bT tN AW b8 cF dB hold
abbrev uO(e:Int):Value:= .iface 160 (.agg #[.int .i64 e])
theorem sR(e:Int):LP prog 25 [zV e] (e=0) (.aK []) (uO e):=by
 refine⟨fun g=> ?_,fun g=> ?_⟩
 ·subst g
  refine aZ func25 ntmps25 (.aK _ (by simp)) ?_
  exact zEa
 ·refine HN func25 ntmps25 ?_
  have g2:(e !=0)=true:=bne_iff_ne.2 g;have s1:rV 1 3 (uO e):=⟨⟩;clear g;refine nY ?_;rfl
theorem zB(b:Bool)(e:Int)(he:¬e=0):LP prog 27 [bV b,zV e] (b=true) (.aK []) (uO e):=by
 refine⟨fun g=> ?_,fun g=> ?_⟩
 ·subst g
  clear he;refine aZ func27 ntmps27 (.aK _ (by simp)) ?_
  exact zEa
 ·have c1:=(sR e).2 he
  obtain rfl:b=false:=by simpa using g
  clear g he;refine HN func27 ntmps27 ?_;have s1:rV 1 1 (uO e):=⟨⟩;refine nY ?_;rfl
abbrev tO(e:Int):aI:= .cells 29 1 [[zV e]] true false
theorem aM7(N M:Nat)(G:Nat->Option aI):oW prog 77 [.ptr N 0 0] ⟨M,G⟩ none (fun H'=>H'=⟨M,G⟩):=by
 refine Rk func77 ntmps77 ?_;refine aM ?_;exact⟨.inl rfl,⟨_,rfl⟩,rfl⟩
theorem aM8(e e0:Int)(N M:Nat)(hN:N<M)(G:Nat->Option aI):oW prog 77 [.ptr N 0 0] ⟨M,fU G [(N,some (tO e0))]⟩ (some (uO e)) (fun H'=>∃M' T,M<=M'/\H'=⟨M',fU G ((N,some (tO e))::T)⟩/\∀x∈T,M<=x.1):=by
 refine Rk func77 ntmps77 ?_;have h1:(N=M)=False:=eq_false oM
 have h2:(M=N)=False:=eq_false oM
 refine aM ?_;exact⟨.inl rfl,⟨_,rfl⟩,M+1+1+1,[(M,some (.cells 160 1 [[zV e]] true false))],oM,rfl,by simp⟩
theorem Rl{L:List (Nat×Option aI)}{i:Nat}{b:aI}(h:pN i L=some b):∃p∈L,p.1=i:=by
 induction L with
 |nil=>cases h
 |cons p r ih=>
  obtain⟨j,c⟩:=p;simp only[pN]at h;split at h
  ·rename_i e
   exact⟨(j,c),by simp,e.symm⟩
  ·obtain⟨q,hq,e⟩:=ih h
   exact⟨q,by simp[hq],e⟩
theorem aM9{G:Nat->Option aI}{T:List (Nat×Option aI)}{i:Nat}(h:∀p∈T,p.1≠i):AL.lG G i T=G i:=by
 induction T with
 |nil=>rfl
 |cons p r ih=>
  obtain⟨j,b⟩:=p;simp only[AL.lG];rw[if_neg (h (j,b) (by simp)).symm]
  exact ih fun q hq=>h q (by simp[hq])
structure Ct(N:Nat)(R:AV->Heap->Prop)(e:Int)(H':Heap):Prop where
 h:∃M L,N<M/\Holds ⟨[],H',0⟩ [] ⟨M,bN ((N,some (tO 0))::L)⟩/\(∀p∈L,p.1<M/\p.1≠N)/\∀M',M<=M'->R (zV e) ⟨M',bN L⟩
theorem LQ{n:FuncId}{cargs:List AV}{N:Nat}{L:List (Nat×Option aI)}{R:AV->Heap->Prop}
  (h:qA prog n cargs ⟨N+1,bN (DV L N (some (tO 0)))⟩ (fun _ H'=>Ct N R 0 H') (fun x H'=>∃e,x=uO e/\Ct N R e H')):fW prog 23 [.fn (.func n) [] cargs] ⟨N,bN L⟩ R:=by
 refine aN0 (m:=77) (cargs:=[.ptr N 0 0]) func23 ntmps23 ?_;refine dI ?_;refine aN1 1 (n:=n) (args:=cargs) h ?_ ?_
 ·intro a H' ⟨M,L',hN,hh,hk,hR⟩
  refine lP (oI ?_);refine kU (env:=[(2,true,.ptr N 0 0)]) (H:=⟨M,bN ((N,some (tO 0))::L')⟩) ⟨fun t b hb=> ?_,hh.next,hh.get⟩ ?_
  ·simp only[lk]at hb
   split at hb
   ·rename_i e
    subst e;exact hb
   ·cases hb
  refine aM ?_;refine Mu (aM7 N _ _) ?_;refine iT ?_;refine⟨⟨M+1,bN L'⟩,hR _ (Nat.le_succ M),holds_nil (cA _) fun id b hb=> ?_⟩
  have aT:id≠N:=fun e=>by
   obtain⟨p,hp,e2⟩:=Rl (L:=L') (i:=id) hb;exact(hk p hp).2 (e2.trans e)
  show pN id ((N,_)::L')=some b
  simp only[pN];rw[if_neg aT];exact hb
 ·intro x H' ⟨e,hx,M,L',hN,hh,hk,hR⟩
  subst hx;refine pG (iT ?_)
  have hl:VO ⟨M,fU (bN L') [(N,some (tO 0))]⟩ H':=⟨hh.next,fun id b hb=>hh.get id b (by
   show pN id ((N,_)::L')=some b
   simp only[fU,AL.lG,pN]at hb⊢;split
   ·rename_i e2
    rw[if_pos e2]at hb;exact hb
   ·rename_i e2
    rw[if_neg e2]at hb
    exact hb)⟩
  refine aN2 (oW.less (aM8 e 0 N M hN (bN L')) hl) ?_;rintro H2 ⟨M',T,h1,rfl,h3⟩;refine⟨zV e,by exact aJ,?_⟩
  refine iT ?_;refine⟨⟨M',bN L'⟩,hR _ h1,holds_nil (cA _) fun id b hb=> ?_⟩
  have aT:id≠N/\∀p∈T,p.1≠id:=by
   obtain⟨p,hp,e2⟩:=Rl (L:=L') (i:=id) hb;obtain⟨k1,k2⟩:=hk p hp;exact⟨fun e=>k2 (e2.trans e),fun q hq e3=>by have:=h3 q hq;omega⟩
  show AL.lG (bN L') id ((N,_)::T)=some b
  simp only[AL.lG];rw[if_neg aT.1,aM9 aT.2];exact hb
end Go.Proofs.YtpaomccedbjknaaGreatDoor
namespace Go.Proofs.YtpaomccedbjknaaGreatDoor
open Go.Proofs Go.AL Tryz
set_option maxRecDepth 100000
set_option maxHeartbeats 8000000
attribute [local irreducible] bT AW b8 cF dB hold
theorem FW(x:lL):cX x=[zV x.number,zV x.time,.snap (aB aH x.saved)]:=rfl
instance :rN cX 3:=⟨fun _=>rfl,fun _=>rfl,fun x a ha=>by
 simp only[cX,dJ,iI,or_false]at ha;rcases ha with rfl|rfl|rfl
 ·exact .c _
 ·exact .c _
 ·exact gJ _⟩
instance :rN jY 2:=⟨fun _=>rfl,fun _=>rfl,fun x a ha=>by
 simp only[jY,dJ,iI,or_false]at ha;rcases ha with rfl|rfl
 ·exact .c _
 ·exact .c _⟩
theorem LR(l:List lL)(k:Nat)(h:k<l.length):(aB cX l)[k]? =some (cX (l.getD k gG)):=tB gG h
theorem Ci(l:List (Int×Int))(k:Nat)(h:k<l.length):(aB jY l)[k]? =some (jY (l.getD k (0,0))):=tB (0,0) h
theorem aN3(G:Nat->Option aI)(k:Nat)(l:List bR):(aB aH l).map (fun row=>row.map (bJ G k))=aB aH l:=by
 unfold aB;rw[B9];refine sG fun o _=> ?_
 cases k<;>simp[aH,bJ]
theorem Cj(G:Nat->Option aI)(k:Nat)(l:List lL):(aB cX l).map (fun row=>row.map (bJ G k))=aB cX l:=by
 unfold aB;rw[B9];refine sG fun o _=> ?_
 cases k<;>simp[cX,bJ]
def IL(l:List bR):Prop:=l.length<=1000000/\∀w∈l,w.2.2.length<=1000000
theorem aN4(l:List bR)(hl:IL l):PC 163 [.snap (aB aH l)] (.snap (aB aH l)):=by
 refine iZ func163 ntmps163 (gJ _) ?_;have hg:=gW l;have hlen:=hl.1;have hc:∀k,k<l.length->PC 150 [.snap (aB aP (l.getD k eF).2.2)] (.snap (aB aP (l.getD k eF).2.2)):=fun k hk=>yM _ (hl.2 _ (eB eF hk))
 replace hc:=bC.mk hc
 clear hl;refine aE ?_;refine dC (α:=Nat) l.length (fun k id=> [(8,true,zV k),(7,true,zV l.length),(6,true,.snap (aB aH l)),(3,true,lJ k id)]) (fun k id=>lX 69 3 (aB aH (l.take k)) k id) (fun k m id=>0<k->id<m) ⟨100,0,fun h=>absurd h oM,aG⟩ (fun k m id hk hR=> ?_) (fun m id hR=> ?_)
 ·have bO:=hg k hk
  have c1:=hc.out k hk;have cI:=kF eF hk;have eR:aB aH (l.take k)++[aH (l.getD k eF)]=aB aH (l.take k++[l.getD k eF]):=kK _ _;have iE:(l.take k).length=k:=by rw[dX];omega
  rw[cI];clear cI hg hc;generalize l.take k=F at*;generalize l.getD k eF=x at*;obtain⟨v,s,d⟩:=x;simp only[]at*;have yN:(aB aH l)[k]? =some [zV v,zV s,.snap (aB aP d)]:=bO;have aN5:aB aH F++[[zV v,zV s,.snap (aB aP d)]]=aB aH (F++[(v,s,d)]):=eR;clear bO eR;have dM:aB aH ([]++[(v,s,d)])=[[zV v,zV s,.snap (aB aP d)]]:=rfl;cases k with
  |zero=>
   have jC:F=[]:=eL iE;subst jC;clear hR iE aN5;refine aE ?_;exact⟨m+40,m+1+1+1+1,fun _=>by omega,aG⟩
  |succ q=>
   have i2:=hR oM
   clear hR dM;refine aE ?_;exact⟨m+40,m+1+1+1+1,fun _=>by omega,aG⟩
 ·rw[gP]
  clear hg hc;cases hh:l.length with
  |zero=>
   have jD:l=[]:=eL hh;subst jD;clear hR hh;refine aE ?_;exact dS
  |succ q=>
   have i2:=hR oM
   have hex:=fun G k=>aN3 G k l
   have cI:l.take (q+1)=l:=cN oM
   clear hR;refine aE ?_;exact dS
end Go.Proofs.YtpaomccedbjknaaGreatDoor
