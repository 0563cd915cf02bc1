/- Staging. No condition. -/
import Derived.Test.YtioafciifiggaaaGreatDoorL0
import Derived.Test.YtioafciifiggaaaGreatDoorAe
import Derived.Test.YtioafciifiggaaaGreatDoorAi
import Derived.Test.YtioafciifiggaaaGreatDoorAzd
import Derived.Test.YtioafciifiggaaaGreatDoorAf
import Derived.Test.YtioafciifiggaaaGreatDoorAh
import Derived.Test.YtioafciifiggaaaGreatDoorLc
import Derived.KernelRfl
set_option linter.all false
namespace Go.Proofs.YtioafciifiggaaaGreatDoor
open Go.Proofs Go.AL
set_option maxRecDepth 100000
set_option maxHeartbeats 1000000
attribute [local irreducible] cB AW aX cZ dK hold
structure Rec where
 kind:Int
 seq:Int
 cH:List Int
deriving instance DecidableEq for Rec
def cQ:Rec:=⟨0,0,[]⟩
def dN(r:Rec):List AV:=[zV r.kind,zV r.seq,.snap (aA aH r.cH)]
def fA(s:aY):Int:=s.2.2.1+256*s.2.2.2.1
def le4(l:List Int):Int:=l.getD 0 0+256*l.getD 1 0+65536*l.getD 2 0+16777216*l.getD 3 0
def fK(l:List aY):Rec×Int×Int:=
 if l=[]then(cQ,0,10)
 else if cL (l.getD 0 aO)=0 then(cQ,0,7)
 else if 4096<fA (l.getD 0 aO)then(cQ,0,5)
 else if(l.length:Int)<(fA (l.getD 0 aO)+10)/4 then(cQ,0,10)
 else if(l.take ((fA (l.getD 0 aO)+10)/4).toNat).any (fun x=>cL x !=cL (l.getD 0 aO))=true then(cQ,0,10)
 else if le4 ((eE (l.take ((fA (l.getD 0 aO)+10)/4).toNat)).drop (3+(fA (l.getD 0 aO)).toNat))≠eO ((eE (l.take ((fA (l.getD 0 aO)+10)/4).toNat)).take (3+(fA (l.getD 0 aO)).toNat))then(cQ,0,9)
 else if(eE (l.take ((fA (l.getD 0 aO)+10)/4).toNat)).getD 0 0=0\/((eE (l.take ((fA (l.getD 0 aO)+10)/4).toNat)).drop (7+(fA (l.getD 0 aO)).toNat)).any (fun x=>x !=0)=true then(cQ,0,3)
 else(⟨(eE (l.take ((fA (l.getD 0 aO)+10)/4).toNat)).getD 0 0,cL (l.getD 0 aO),((eE (l.take ((fA (l.getD 0 aO)+10)/4).toNat)).drop 3).take (fA (l.getD 0 aO)).toNat⟩,(fA (l.getD 0 aO)+10)/4,0)
theorem G0{s:aY}(h:eR s):0<=fA s/\fA s<65536:=by
 have h1:=h.2 s.2.2.1 (by simp[d4])
 have h2:=h.2 s.2.2.2.1 (by simp[d4])
 unfold aV at h1 h2;unfold fA;omega
theorem G1{s:aY}(h:eR s):0<=cL s/\cL s<4294967296:=by
 obtain⟨⟨h1,h2,h3,h4⟩,-⟩:=h;unfold aV at h1 h2 h3 h4;unfold cL;omega
theorem MA(l:List aY)(hl:∀s∈l,eR s):(fK l).2.2≠0\/(0<(fK l).2.1/\(fK l).2.1<=l.length/\(fK l).2.1=((fK l).1.cH.length+10)/4/\(fK l).1.cH.length<=4096/\(fK l).1.seq=cL (l.getD 0 aO)/\l≠[]/\(∀x∈(fK l).1.cH,aV x)/\1<=(fK l).1.kind/\(fK l).1.kind<256):=by
 unfold fK;split
 ·exact .inl (by decide)
 rename_i g0;have h0:l.getD 0 aO∈l:=dC aO (by cases l with|nil=>exact absurd rfl g0|cons a b=>simp)
 have hr:=G0 (hl _ h0);split
 ·exact .inl (by decide)
 split
 ·exact .inl (by decide)
 rename_i g2;split
 ·exact .inl (by decide)
 rename_i g3;split
 ·exact .inl (by decide)
 split
 ·exact .inl (by decide)
 split
 ·exact .inl (by decide)
 rename_i g6;generalize lP:fA (l.getD 0 aO)=r at*;obtain⟨q,hq⟩:∃q:Nat,(r+10)/4=q:=⟨((r+10)/4).toNat,by omega⟩
 rw[hq]at g3 g6⊢;rw[nC]at*
 have hd:(eE (l.take q)).length=4*q:=by
  unfold eE;rw[List.length_flatMap]
  have:∀(m:List aY),(m.map fun s=>(d4 s).length).sum=4*m.length:=fun m=>by
   induction m with
   |nil=>rfl
   |cons a b ih=>rw[jW,u9,ih,aa9,eI];omega
  rw[this,eD];omega
 have hb:∀x∈eE (l.take q),aV x:=fun x hx=>by
  unfold eE at hx;obtain⟨s,hs,hx⟩:=sJ.1 hx;exact(hl s (qB hs)).2 x hx
 have hp:(((eE (l.take q)).drop 3).take r.toNat).length=r.toNat:=by
  rw[eD,fX,hd];omega
 have hk:aV ((eE (l.take q)).getD 0 0):=hb _ (dC 0 (by omega))
 refine .inr ⟨by simp only[];omega,by simp only[];omega,?_,?_,rfl,g0,fun x hx=>hb x (l5 (qB hx)),?_,hk.2⟩
 ·simp only[]
  rw[hp];omega
 ·simp only[]
  rw[hp];omega
 ·simp only[]
  have:=hk.1;omega
def vA:Nat->List aY->Int->List Rec×Int
 |0,_,_=>([],0)
 |f+1,l,q=>if 1<=q/\(fK l).2.2=0/\(fK l).1.seq=q then
   ((fK l).1::(vA f (l.drop (fK l).2.1.toNat) (q+1)).1,(fK l).2.1+(vA f (l.drop (fK l).2.1.toNat) (q+1)).2)
  else([],0)
def mE(l:List aY)(q:Int):List Rec×Int:=vA (l.length+1) l q
theorem Pv:∀(f g:Nat) (l:List aY) (q:Int),(∀s∈l,eR s)->l.length<f->l.length<g->vA f l q=vA g l q
 |0,g,l,q,_,h,_=>by omega
 |f+1,0,l,q,_,_,h=>by omega
 |f+1,g+1,l,q,hl,h1,h2=>by
  unfold vA;split
  ·rename_i hc
   rcases MA l hl with h3|⟨h3,h4,-⟩
   ·exact absurd hc.2.1 h3
   ·have h5:=fX (i:=(fK l).2.1.toNat) (l:=l)
    rw[Pv f g _ _ (fun s hs=>hl s (l5 hs)) (by omega) (by omega)]
  ·rfl
theorem Pw(l:List aY)(q:Int)(hl:∀s∈l,eR s):mE l q=if 1<=q/\(fK l).2.2=0/\(fK l).1.seq=q then
   ((fK l).1::(mE (l.drop (fK l).2.1.toNat) (q+1)).1,(fK l).2.1+(mE (l.drop (fK l).2.1.toNat) (q+1)).2)else([],0):=by
 show vA (l.length+1) l q=_
 rw[vA];split
 ·rename_i hc
  rcases MA l hl with h3|⟨h3,h4,-⟩
  ·exact absurd hc.2.1 h3
  ·have h5:=fX (i:=(fK l).2.1.toNat) (l:=l)
   unfold mE;rw[Pv l.length _ _ _ (fun s hs=>hl s (l5 hs)) (by omega) (D4 _)]
 ·rfl
def pY(r:Rec):Int:=if r.kind=2 then(aF r.cH).1 else(bM r.cH).1.number
def nL(r:Rec):Bool:=if r.kind=2 then decide ((aF r.cH).2.2=0/\(aF r.cH).2.1=[])else decide (r.kind=1/\(bM r.cH).2=0)
def iY(l:List bI)(r:Rec):List bI×Int:=
 if nL r=true then
  if r.kind=2 then
   if iW l (pY r)=true/\(l.getD (bE l (pY r)) b8).closed=false/\(oA (bF (l.getD (bE l (pY r)) b8))).2=0 then
    (pD l (jT (bF (l.getD (bE l (pY r)) b8)) ((l.getD (bE l (pY r)) b8).records++[r.seq]) true),0)
   else(l,0)
  else if iW l (pY r)=true/\(kG (bF (l.getD (bE l (pY r)) b8)) r.cH).2=0 then
   if(kG (bF (l.getD (bE l (pY r)) b8)) r.cH).1=bF (l.getD (bE l (pY r)) b8)then(l,0)
   else(pD l (jT (kG (bF (l.getD (bE l (pY r)) b8)) r.cH).1 ((l.getD (bE l (pY r)) b8).records++[r.seq]) (l.getD (bE l (pY r)) b8).closed),0)
  else(pD l (jT (qF r.cH).1 [r.seq] false),0)
 else([],3)
def vB:List Rec->List bI->Nat->(List bI×Nat)×Int
 |[],l,m=>((l,m),0)
 |r::rs,l,m=>if(iY l r).2=0 then vB rs (iY l r).1 (max m (iY l r).1.length)else(([],0),(iY l r).2)
theorem Cx(l:List bI)(r:Rec):(iY l r).2=if nL r=true then 0 else 3:=by
 unfold iY;split
 ·split
  ·split<;>rfl
  ·split
   ·split<;>rfl
   ·rfl
 ·rfl
def gN:List Bool->Nat->List (Nat×Nat)
 |[],_=> []
 |false::l,p=>gN l (p+1)
 |true::l,p=>match gN l (p+1)with
  |[]=> [(p,1)]
  |(q,n)::r=>if q=p+1 then(p,n+1)::r else(p,1)::(q,n)::r
theorem WN(l:List Bool)(p:Nat):gN (true::l) p=match gN l (p+1)with
  |[]=> [(p,1)]
  |(q,n)::r=>if q=p+1 then(p,n+1)::r else(p,1)::(q,n)::r:=rfl
theorem Px(l:List Bool)(p:Nat):gN (false::l) p=gN l (p+1):=rfl
theorem Cy:∀(l:List Bool) (p:Nat),∀x∈gN l p,p<=x.1
 |[],_,x,h=>by simp[gN]at h
 |false::l,p,x,h=>by
  have:=Cy l (p+1) x h;omega
 |true::l,p,x,h=>by
  have ih:=Cy l (p+1);unfold gN at h;cases hr:gN l (p+1)with
  |nil=>
   rw[hr]at h;simp only[fB,mR,or_false]at h;subst h;exact cA _
  |cons a r=>
   obtain⟨q,n⟩:=a;rw[hr]at h ih;simp only[]at h;split at h
   ·rcases fB.1 h with h|h
    ·subst h;exact cA _
    ·have:=ih x (by simp[h]);omega
   ·rcases fB.1 h with h|h
    ·subst h;exact cA _
    ·have:=ih x (by simpa using h);omega
theorem Py:∀(n:Nat) (l:List Bool) (p:Nat),gN (List.replicate (n+1) true++false::l) p=(p,n+1)::gN l (p+n+2)
 |0,l,p=>by
  show gN (true::false::l) p=_
  rw[WN,Px];cases hr:gN l (p+1+1)with
  |nil=>rfl
  |cons a r=>
   obtain⟨q,m⟩:=a;have:=Cy l (p+1+1) (q,m) (by rw[hr];simp)
   simp only[]at this⊢;rw[if_neg (by omega)]
 |n+1,l,p=>by
  have ih:=Py n l (p+1)
  show gN (true::(List.replicate (n+1) true++false::l)) p=_
  rw[WN,ih];simp only[if_true];rw[show p+1+n+2=p+(n+1)+2 by omega]
theorem Pz:∀(n p:Nat),gN (List.replicate (n+1) true) p=[(p,n+1)]
 |0,p=>rfl
 |n+1,p=>by
  have ih:=Pz n (p+1);rw[KS,WN,ih];simp
def l9(C:List aY)(h:Nat):List aY:=C.drop h++C.take h
def xW(C:List aY)(n h u next:Int):List Bool:=(List.range C.length).map fun(p:Nat)=>decide (u<=((p:Int)-h+n) % n)&&decide (next<=cL (C.getD p aO))
def MB(a:Int)(L:List Bool):List iC:=
 (gN L 0).map (fun r=>((0:Int),a+16+r.1,List.replicate r.2 aO))++(if gN L 0=[]then []else [(1,0,[])])
def gZ(d:fJ)(a c:Int):(Int×Int)×Int:=
 if(kO d a).2.2.2.2=0 then
  if(aF (kO d a).2.2.1).2.2=0 then
   if(aF (aF (kO d a).2.2.1).2.1).2.2=0/\(aF (aF (kO d a).2.2.1).2.1).2.1=[]/\(aF (kO d a).2.2.1).1<c-16/\1<=(aF (aF (kO d a).2.2.1).2.1).1/\(aF (aF (kO d a).2.2.1).2.1).1<=1073741824 then
    (((aF (kO d a).2.2.1).1,(aF (aF (kO d a).2.2.1).2.1).1),0)
   else((0,0),3)
  else((0,0),3)
 else((0,0),(kO d a).2.2.2.2)
def qK(d:fJ)(a c:Int):List aY:=((iK d.st d.ca).drop (a+16).toNat).take (c-16).toNat
def zD(C:List aY)(h f:Int):List Rec:=(mE (l9 C h.toNat) f).1.take (1073741824-f).toNat
def cS(R:List Rec):List Int:=R.map fun r=>(((r.cH.length+10)/4:Nat):Int)
def oE(a c h f:Int)(R:List Rec):Jr:=⟨a,c,h,(h+(cS R).sum) % (c-16),f,cS R⟩
def jV(d:fJ)(a c:Int):(Jr×List Rec×List iC)×Int:=
 if l6 d=0 then
  if lV a c=true/\a+c<=(d.st.length:Int)then
   if(gZ d a c).2=0 then
    ((oE a c (gZ d a c).1.1 (gZ d a c).1.2 (zD (qK d a c) (gZ d a c).1.1 (gZ d a c).1.2),zD (qK d a c) (gZ d a c).1.1 (gZ d a c).1.2,
      MB a (xW (qK d a c) (c-16) (gZ d a c).1.1 (cS (zD (qK d a c) (gZ d a c).1.1 (gZ d a c).1.2)).sum ((gZ d a c).1.2+(zD (qK d a c) (gZ d a c).1.1 (gZ d a c).1.2).length))),0)
   else((l7,[],[]),(gZ d a c).2)
  else((l7,[],[]),2)
 else((l7,[],[]),l6 d)
def tR(d:fJ)(a c:Int):l8×List iC×Int:=
 if(jV d a c).2=0 then
  if(vB (jV d a c).1.2.1 [] 0).2=0 then
   if 1024<(vB (jV d a c).1.2.1 [] 0).1.2 then(nI,[],6)
   else(⟨(jV d a c).1.1,(vB (jV d a c).1.2.1 [] 0).1.1⟩,(jV d a c).1.2.2,0)
  else(nI,[],(vB (jV d a c).1.2.1 [] 0).2)
 else(nI,[],(jV d a c).2)
theorem DP{C:List aY}{h:Nat}(hh:h<=C.length):(l9 C h).length=C.length:=by
 unfold l9;rw[cP,fX,eD];omega
theorem aB8{a n:Nat}(h1:n<=a)(h2:a<n+n):a % n=a-n:=by
 rw[Yq h1,D3 (by omega)]
theorem aB9{C:List aY}{h i:Nat}(hh:h<=C.length)(hi:i<C.length):(l9 C h).getD i aO=C.getD ((h+i) % C.length) aO:=by
 unfold l9;by_cases g:i<C.length-h
 ·rw[lC,lT (by rw[fX];exact g),m9,D3 (by omega),<-lC]
 ·rw[aB8 (by omega) (by omega),lC,lD (by rw[fX];omega),fX,UB (by omega),<-lC]
  congr 1;omega
theorem Qa(H:List (List Int))(i:Nat)(x:List Int):jJ (H.set i x)<=jJ H+x.length:=by
 induction H generalizing i with
 |nil=>simp[jJ]
 |cons y H ih=>
  cases i with
  |zero=>
   rw[YU];unfold jJ;simp only[jW,u9];omega
  |succ i=>
   have:=ih i;rw[Ip];unfold jJ at*;simp only[jW,u9];omega
end Go.Proofs.YtioafciifiggaaaGreatDoor
namespace Go.Proofs.YtioafciifiggaaaGreatDoor
open Go.Proofs Go.AL
set_option maxRecDepth 100000
set_option maxHeartbeats 8000000
attribute [local irreducible] cB AW aX cZ dK hold
attribute [local irreducible] eV
theorem aC0(j:Jr):PC 99 [.agg (eG j)] (.snap (aA aH (b9 j.head++b9 j.first))):=by
 refine aT Tryz.func99 Tryz.ntmps99 (iJ _) ?_
 have c1:PC 168 [.c (.slice none 0 0),zV j.head] (.snap (aA aH (b9 j.head))):=by
  have:=fD.less (Js [] j.head (by simp)) (iO (Wk.nil (a:=none) (cap:=0)) (UR _))
  rwa[x8]at this
 have c2:=Js (b9 j.head) j.first (by have:=aA1 j.head;omega)
 unfold eG;refine aE ?_;exact aB
set_option maxHeartbeats 2000000
theorem aC1{d:fJ}(h:LG d=true):d.st.length<=400/\d.ca.length<=400:=by
 unfold LG at h;simp only[jX,decide_eq_true_eq]at h;exact h
end Go.Proofs.YtioafciifiggaaaGreatDoor
namespace Go.Proofs.YtioafciifiggaaaGreatDoor
open Go.Proofs Go.AL
open Go.ChangeShapes Go.WideShapes Go.RowKit
def WO:List Sh:=[FZ,FZ,FZ,FZ,FZ,FZ,FZ,FZ]
def Cz:List Sh:=M9::WO
def Qb:List Sh:=[.sl WO,.sl Cz]
theorem Qc(r:List AV)(h:lQ WO r):∃s:aY,eR s/\r=aQ s:=by
 obtain⟨a0,r,rfl,h0,g0⟩:=h.xX;obtain⟨a1,r,rfl,h1,g1⟩:=g0.xX;obtain⟨a2,r,rfl,h2,g2⟩:=g1.xX;obtain⟨a3,r,rfl,h3,g3⟩:=g2.xX;obtain⟨a4,r,rfl,h4,g4⟩:=g3.xX;obtain⟨a5,r,rfl,h5,g5⟩:=g4.xX;obtain⟨a6,r,rfl,h6,g6⟩:=g5.xX;obtain⟨a7,r,rfl,h7,g7⟩:=g6.xX;obtain rfl:=g7.Da;obtain⟨n0,rfl,w0⟩:=h0.CF;obtain⟨n1,rfl,w1⟩:=h1.CF;obtain⟨n2,rfl,w2⟩:=h2.CF;obtain⟨n3,rfl,w3⟩:=h3.CF
 obtain⟨n4,rfl,w4⟩:=h4.CF;obtain⟨n5,rfl,w5⟩:=h5.CF;obtain⟨n6,rfl,w6⟩:=h6.CF;obtain⟨n7,rfl,w7⟩:=h7.CF;refine⟨((n0,n1,n2,n3),(n4,n5,n6,n7)),⟨⟨FY w0,FY w1,FY w2,FY w3⟩,fun x hx=> ?_⟩,rfl⟩
 simp only[d4,fB,mR,or_false]at hx;rcases hx with rfl|rfl|rfl|rfl
 ·exact FY w4
 ·exact FY w5
 ·exact FY w6
 ·exact FY w7
theorem aC2{a:AV}(h:r9 (.sl WO) a):∃l:List aY,(∀s∈l,eR s)/\l.length<=maxLen/\a= .snap (aA aQ l):=Qd Qc h
theorem aC3(r:List AV)(h:lQ Cz r):∃x:Int×aY,eR x.2/\r=oM x:=by
 obtain⟨a0,r,rfl,h0,g0⟩:=h.xX;obtain⟨n,rfl,hn⟩:=h0.CF;obtain⟨s,hs,rfl⟩:=Qc r g0;exact⟨(n,s),hs,rfl⟩
theorem aC4{a:AV}(h:r9 (.sl Cz) a):∃l:List (Int×aY),(∀x∈l,eR x.2)/\l.length<=maxLen/\a= .snap (aA oM l):=Qd aC3 h
theorem aC5(r:List AV)(h:lQ Qb r):∃d:fJ,(UW d/\d.st.length<=maxLen/\d.ca.length<=maxLen)/\r=dI d:=by
 obtain⟨a0,r,rfl,h0,g0⟩:=h.xX;obtain⟨a1,r,rfl,h1,g1⟩:=g0.xX;obtain rfl:=g1.Da;obtain⟨st,w0,w1,rfl⟩:=aC2 h0;obtain⟨ca,w2,w3,rfl⟩:=aC4 h1;exact⟨⟨st,ca⟩,⟨⟨w0,w2⟩,w1,w3⟩,rfl⟩
theorem aC6(r:List AV)(h:lQ [M9,M9] r):∃a c:Int,r=[zV a,zV c]:=by
 obtain⟨a0,r,rfl,h0,g0⟩:=h.xX;obtain⟨a1,r,rfl,h1,g1⟩:=g0.xX;obtain rfl:=g1.Da;obtain⟨a,rfl⟩:=Pt h0;obtain⟨c,rfl⟩:=Pt h1;exact⟨a,c,rfl⟩
theorem aC7:wH Tryz.prog 10 25=some Qb:=by kernel_rfl
theorem aC8:wH Tryz.prog 10 27=some [M9,M9]:=by kernel_rfl
end Go.Proofs.YtioafciifiggaaaGreatDoor
namespace Go.Proofs.YtioafciifiggaaaGreatDoor
open Go.Proofs Go.AL
set_option maxRecDepth 100000
set_option maxHeartbeats 8000000
attribute [local irreducible] cB AW aX cZ dK hold
attribute [local irreducible] eV
theorem aC9(a c:Int):PC 47 [.agg [zV a,zV c]] (.aR [.agg (eG (sV a c).1),.snap (aA bC (sV a c).2.1),zV (sV a c).2.2]):=by
 refine uH Tryz.func47 Tryz.ntmps47 (by simp only[go_sem,eG]) ?_
 have c1:=Kw a c;have Qe:=aC0 ⟨a,c,0,0,1,[]⟩
 have c3:PC 99 [.agg [zV a,zV c,zV 0,zV 0,zV 1,.c (.slice none 0 0)]] (.snap (aA aH (b9 0++b9 1))):=
  fD.less Qe (iO (DB (iO (.refl _) (iO (.refl _) (iO (.refl _) (iO (.refl _) (iO (.refl _) (iO (Wk.nil (a:=none) (cap:=0)) sP))))))) sP)
 clear Qe;have c4:=ac2 a (b9 0++b9 1) (by have:=rU 0;have:=rU 1;rw[cP];omega)
 have QK:=Ke a (b9 0++b9 1);obtain⟨M,hM⟩:∃M,sV a c=M:=⟨_,rfl⟩;rw[hM];unfold sV at hM;have IS:=fun h=>yW (a:=a) (b:=c) h
 have A8:lV a c=true->(rY a (b9 0++b9 1)).2=0:=fun h=>by
  have:=yW h;unfold rY;rw[if_neg (by omega),if_neg (by have:=rU 0;have:=rU 1;rw[cP];omega)]
 generalize lV a c=v at*;generalize rY a (b9 0++b9 1)=E at*;generalize b9 0++b9 1=V at*;obtain⟨so,se⟩:=E;simp only[]at*;cases v with
 |false=>
  rw[if_neg (by decide)]at hM
  subst hM;unfold eG l7;clear c3 c4 IS A8;refine aE ?_;exact aB
 |true=>
  rw[if_pos rfl]at hM;have h5:=IS rfl;have h6:=A8 rfl;rw[if_pos h6]at hM;subst hM;subst h6;have w1:=IntWalk.i64_in (c-16) (by omega)
  have w2:=IntWalk.i64_in (a+16) (by omega)
  clear IS A8;obtain⟨n,rfl⟩:∃n:Nat,c=(n:Int)+16:=⟨(c-16).toNat,by omega⟩
  have e1:(n:Int)+16-16=n:=by omega
  have hz:rQ ((n:Int)+16-16)=List.replicate n aO:=by unfold rQ;rw[e1,nC]
  rw[hz];rw[e1]at w1;have e:aA bC ([(0,a+16,List.replicate n aO),(1,0,[])]++so)=[zV 0,zV (a+16),.snap (aA aQ (List.replicate n aO))]::[zV 1,zV 0,.snap []]::aA bC so:=rfl;rw[e];have hT:∀a b:List AV,List.take (2+so.length) (a::b::aA bC so)=a::b::aA bC so:=fun a b=>cR (by simp only[eI,fZ];omega)
  unfold eG;simp only[];clear e hz e1;refine aE ?_;exact nE
theorem aD0(a c:Int):PC 15 [.agg [zV a,zV c]] (.aR [.agg (fO (r7 a c).1),.snap (aA bC (r7 a c).2.1),zV (r7 a c).2.2]):=by
 refine aT Tryz.func15 Tryz.ntmps15 (by simp only[go_sem,fO]) ?_
 have c1:=aC9 a c;obtain⟨M,hM⟩:∃M,r7 a c=M:=⟨_,rfl⟩;rw[hM];unfold r7 at hM;generalize sV a c=E at*;obtain⟨⟨js,jc,jh,jt,jf,jz⟩,o,e⟩:=E;unfold eG at c1;simp only[]at*;by_cases g:e=0
 ·rw[if_pos g]at hM
  subst hM g;unfold fO;simp only[];refine aE ?_;exact aB
 ·rw[if_neg g]at hM
  subst hM;unfold fO nI l7;simp only[];refine aE ?_;exact aB
end Go.Proofs.YtioafciifiggaaaGreatDoor
