/- Target: contracts of its functions (Ah). No condition but those named. -/
import Derived.Test.YtpaomccedbjknaaGreatDoorAg
set_option linter.all false
namespace Go.Proofs.YtpaomccedbjknaaGreatDoor
open Go.Proofs Go.AL Tryz
set_option maxRecDepth 100000
set_option maxHeartbeats 8000000
attribute [local irreducible] bT AW b8 cF dB hold
def dZ(d:bQ)(r:eD)(n:Int):eD×List (Int×Int×List aQ)×Int:=
 if mQ r=0 then
  if n<=r.dK then(iK,[],8)
  else if 1073741824<n then(iK,[],2)
  else if n=r.jM then(r,[],0)
  else if r.jM≠0 then(iK,[],26)
  else xF d ⟨r.aR,r.gQ,r.data,r.dY,r.dK,n⟩
 else(iK,[],mQ r)
def zY(d:bQ)(r:eD):eD×List (Int×Int×List aQ)×Int:=
 if mQ r=0 then
  if r.jM=0 then(iK,[],12)
  else xF d ⟨r.aR,r.gQ,r.data,r.dY,r.jM,0⟩
 else(iK,[],mQ r)
def F3(d:bQ)(r:eD)(n:Int):eD×List (Int×Int×List aQ)×Int:=
 if mQ r=0 then
  if n<r.dY then(iK,[],13)
  else if 1073741824<n then(iK,[],2)
  else if n=r.dY then(r,[],0)
  else xF d ⟨r.aR,r.gQ,r.data,n,r.dK,r.jM⟩
 else(iK,[],mQ r)
abbrev D9(F:eD×List (Int×Int×List aQ)×Int):AV:= .aK [.agg (cC F.1),.snap (aB aH F.2.1),zV F.2.2]
theorem ai5{d:bQ}{a:Int}{p:List Int}(h:(iN d a p).2≠0):(iN d a p).1=[]:=by
 unfold iN at h⊢;split
 ·rename_i h1
  rw[if_pos h1]at h;split
  ·rfl
  ·rename_i h2
   rw[if_neg h2]at h;split
   ·rfl
   ·rename_i h3
    rw[if_neg h3]at h;exact absurd rfl h
 ·rfl
theorem TX(d:bQ)(a:Int)(p:List Int)(hp:p.length<=31)(hs:d.st.length<=1000000)(h2:d.ca.length<=1000000)(hk:∀s∈k9 d.st d.ca,kL s):
  PC 219 [.agg (bD d),zV a,.snap (aB aO p)] (.aK [.snap (aB aH (iN d a p).1),zV (iN d a p).2]):=by
 by_cases h:(iN d a p).2=0
 ·have t:=Kt d a p hs h2 hk h
  have hl:=YX h;rw[h];refine t.TL (by simp only[go_sem]) ?_
  generalize (iN d a p).1=F at*;have e:List.take 2 F=F:=cN oM
  simp only[go_sem,p9,xG,aY,hl,e];exact .refl _
 ·rw[ai5 h]
  exact ai2 d a p hp hs h2 hk h
theorem ai6(d:bQ)(r:eD)(n:Int)(hl:r.aR.length<=1000000)(hs:d.st.length<=1000000)(h2:d.ca.length<=1000000)(hk:∀s∈k9 d.st d.ca,kL s):PC 142 [.agg (bD d),.agg (cC r),zV n] (D9 (dZ d r n)):=by
 refine aZ func142 ntmps142 (by simp only[go_sem,cC]) ?_
 have c1:=H4 r hl;have c4:=yK r.aR hl;have c7:=KX;obtain⟨M,hM⟩:∃M,dZ d r n=M:=⟨_,rfl⟩;rw[hM];unfold dZ xF at hM;obtain⟨sz,sp,dt,ep,ap,ag⟩:=r;unfold cC at c1;unfold iK cC at c7;unfold iK at hM;unfold D9 cC;simp only[]at*;refine aE ?_;refine eO func80 ntmps80 ?_;refine aE ?_;refine eO func153 ntmps153 ?_;by_cases g1:mQ ⟨sz,sp,dt,ep,ap,ag⟩=0
 ·rw[if_pos g1]at hM
  rw[g1]at c1;refine aE ?_;refine eO func215 ntmps215 ?_;by_cases g2:n<=ap
  ·rw[if_pos g2]at hM
   subst hM;exact zE
  rw[if_neg g2]at hM;by_cases g3:1073741824<n
  ·rw[if_pos g3]at hM
   subst hM;exact zE
  rw[if_neg g3]at hM;by_cases g4:n=ag
  ·rw[if_pos g4]at hM
   subst hM g4;exact zE
  rw[if_neg g4]at hM;by_cases g5:ag≠0
  ·rw[if_pos g5]at hM
   subst hM;exact zE
  rw[if_neg g5]at hM;have g6:ag=0:=oM
  subst g6;have c9:=TX d sp (gR ⟨sz,sp,dt,ep,ap,n⟩) (PF _) hs h2 hk;have c8:=TW ⟨sz,sp,dt,ep,ap,n⟩;clear hk;generalize iN d sp (gR ⟨sz,sp,dt,ep,ap,n⟩)=F at*;obtain⟨F1,F2⟩:=F;simp only[]at*;generalize gR ⟨sz,sp,dt,ep,ap,n⟩=V at*;unfold bD cC at*;by_cases g9:F2=0
  ·rw[if_pos g9]at hM
   subst hM g9;refine aE ?_;refine eO func152 ntmps152 ?_;refine aE ?_;exact dS
  ·rw[if_neg g9]at hM
   subst hM;refine aE ?_;refine eO func152 ntmps152 ?_;exact zE
 ·rw[if_neg g1]at hM
  subst hM;exact zE
theorem ai7(d:bQ)(r:eD)(hl:r.aR.length<=1000000)(hs:d.st.length<=1000000)(h2:d.ca.length<=1000000)(hk:∀s∈k9 d.st d.ca,kL s):PC 144 [.agg (bD d),.agg (cC r)] (D9 (zY d r)):=by
 refine aZ func144 ntmps144 (by simp only[go_sem,cC]) ?_
 have c1:=H4 r hl;have c4:=yK r.aR hl;have c7:=KX;obtain⟨M,hM⟩:∃M,zY d r=M:=⟨_,rfl⟩;rw[hM];unfold zY xF at hM;obtain⟨sz,sp,dt,ep,ap,ag⟩:=r;unfold cC at c1;unfold iK cC at c7;unfold iK at hM;unfold D9 cC;simp only[]at*;refine aE ?_;refine eO func80 ntmps80 ?_;refine aE ?_;refine eO func153 ntmps153 ?_;by_cases g1:mQ ⟨sz,sp,dt,ep,ap,ag⟩=0
 ·rw[if_pos g1]at hM
  rw[g1]at c1;refine aE ?_;refine eO func217 ntmps217 ?_;by_cases g2:ag=0
  ·rw[if_pos g2]at hM
   subst hM g2;exact zE
  rw[if_neg g2]at hM;have c9:=TX d sp (gR ⟨sz,sp,dt,ep,ag,0⟩) (PF _) hs h2 hk;have c8:=TW ⟨sz,sp,dt,ep,ag,0⟩;clear hk;generalize iN d sp (gR ⟨sz,sp,dt,ep,ag,0⟩)=F at*;obtain⟨F1,F2⟩:=F;simp only[]at*;generalize gR ⟨sz,sp,dt,ep,ag,0⟩=V at*;unfold bD cC at*;by_cases g9:F2=0
  ·rw[if_pos g9]at hM
   subst hM g9;refine aE ?_;refine eO func152 ntmps152 ?_;refine aE ?_;exact dS
  ·rw[if_neg g9]at hM
   subst hM;refine aE ?_;refine eO func152 ntmps152 ?_;exact zE
 ·rw[if_neg g1]at hM
  subst hM;exact zE
theorem ai8(d:bQ)(r:eD)(n:Int)(hl:r.aR.length<=1000000)(hs:d.st.length<=1000000)(h2:d.ca.length<=1000000)(hk:∀s∈k9 d.st d.ca,kL s):PC 72 [.agg (bD d),.agg (cC r),zV n] (D9 (F3 d r n)):=by
 refine aZ func72 ntmps72 (by simp only[go_sem,cC]) ?_
 have c1:=H4 r hl;have c4:=yK r.aR hl;have c7:=KX;obtain⟨M,hM⟩:∃M,F3 d r n=M:=⟨_,rfl⟩;rw[hM];unfold F3 xF at hM;obtain⟨sz,sp,dt,ep,ap,ag⟩:=r;unfold cC at c1;unfold iK cC at c7;unfold iK at hM;unfold D9 cC;simp only[]at*;refine aE ?_;refine eO func80 ntmps80 ?_;refine aE ?_;refine eO func153 ntmps153 ?_;by_cases g1:mQ ⟨sz,sp,dt,ep,ap,ag⟩=0
 ·rw[if_pos g1]at hM
  rw[g1]at c1;refine aE ?_;refine eO func151 ntmps151 ?_;by_cases g2:n<ep
  ·rw[if_pos g2]at hM
   subst hM;exact zE
  rw[if_neg g2]at hM;by_cases g3:1073741824<n
  ·rw[if_pos g3]at hM
   subst hM;exact zE
  rw[if_neg g3]at hM;by_cases g4:n=ep
  ·rw[if_pos g4]at hM
   subst hM g4;exact zE
  rw[if_neg g4]at hM;have c9:=TX d sp (gR ⟨sz,sp,dt,n,ap,ag⟩) (PF _) hs h2 hk;have c8:=TW ⟨sz,sp,dt,n,ap,ag⟩;clear hk;generalize iN d sp (gR ⟨sz,sp,dt,n,ap,ag⟩)=F at*;obtain⟨F1,F2⟩:=F;simp only[]at*;generalize gR ⟨sz,sp,dt,n,ap,ag⟩=V at*;unfold bD cC at*;by_cases g9:F2=0
  ·rw[if_pos g9]at hM
   subst hM g9;refine aE ?_;refine eO func152 ntmps152 ?_;refine aE ?_;exact dS
  ·rw[if_neg g9]at hM
   subst hM;refine aE ?_;refine eO func152 ntmps152 ?_;exact zE
 ·rw[if_neg g1]at hM
  subst hM;exact zE
theorem ai9(d:bQ)(r:eD)(n:Int)(hl:r.aR.length<=1000000)(hs:d.st.length<=1000000)(h2:d.ca.length<=1000000)(hk:∀s∈k9 d.st d.ca,kL s)
  (g1:mQ r=0) (g2:¬n<=r.dK) (g3:¬1073741824<n) (g4:n≠r.jM) (g6:r.jM=0) (g7:(iN d r.gQ (gR ⟨r.aR,r.gQ,r.data,r.dY,r.dK,n⟩)).2=0):
  wJ prog 142 [.agg (bD d),.agg (cC r),zV n] (.aK [.agg (cC ⟨r.aR,r.gQ,r.data,r.dY,r.dK,n⟩),.own 0 0 2,zV 0]) 105 3 (aB aH (iN d r.gQ (gR ⟨r.aR,r.gQ,r.data,r.dY,r.dK,n⟩)).1):=by
 refine TV func142 ntmps142 (by simp only[go_sem,cC,bD]) (YW _ (Jc _) _ _) (PE _) ?_
 have c1:=H4 r hl;have c4:=yK r.aR hl;have c9:=Kt d r.gQ (gR ⟨r.aR,r.gQ,r.data,r.dY,r.dK,n⟩) hs h2 hk g7;have c8:=TW ⟨r.aR,r.gQ,r.data,r.dY,r.dK,n⟩;rw[g1]at c1;clear hk g7;obtain⟨sz,sp,dt,ep,ap,ag⟩:=r;simp only[]at*;generalize iN d sp (gR ⟨sz,sp,dt,ep,ap,n⟩)=F at*;obtain⟨F1,F2⟩:=F;simp only[]at*;generalize gR ⟨sz,sp,dt,ep,ap,n⟩=V at*
 unfold cC bD at*;clear g1;subst g6;refine aE ?_;refine eO func80 ntmps80 ?_;refine aE ?_;refine eO func153 ntmps153 ?_;refine aE ?_;refine eO func215 ntmps215 ?_;refine aE ?_;refine eO func152 ntmps152 ?_;refine aE ?_;refine⟨_,rfl,_,?_,EV _⟩;exact eN
def lW(n lo hi:Int):Bool:=decide (lo<=n)&&decide (n<=hi)
theorem YY(n lo hi:Int):PC 126 [zV n,zV lo,zV hi] (bV (lW n lo hi)):=by
 refine aZ func126 ntmps126 (.c _) ?_;unfold lW;by_cases g1:lo<=n
 ·refine aM ?_
  exact cR
 ·refine aM ?_
  exact cR
def BK(n:Int):Bool:= !(lW n 0 1073741824)
theorem aj0(n:Int):PC 205 [zV n] (bV (BK n)):=by
 refine aZ func205 ntmps205 (.c _) ?_;have c1:=YY n 0 1073741824;unfold BK;exact zEa
theorem aj1(l:List Int)(hl:l.length<=1000000):PC 227 [.snap (aB aW l),.fn (.func 205) [] []] (zV (pM (l.findIdx? BK))):=by
 refine aZ func227 ntmps227 (.c _) ?_;unfold pM;refine aM ?_;have hg:=gI l;have c1:=aj0;refine dC (α:=Unit) l.length (fun k _=> [(8,true,zV k),(7,true,zV l.length),(0,true,.snap (aB aW l)),(1,true,.fn (.func 205) [] [])]) (fun _ _=> []) (fun k m _=>∀i,i<k->BK (l.getD i 0)=false) ⟨0,(),fun i hi=>by omega,aG⟩ (fun k m _ hk hR=> ?_) (fun m _ hR=> ?_)
 ·refine aM ?_
  refine YH (fun h=> ?_) (fun h=> ?_)
  ·have hf:l.findIdx? BK=some k:=by
    rw[KG];exact⟨hk,by simpa[hk]using h,fun j hj=>by have:=hR j hj;simp[show j<l.length by omega]at this;simpa using this⟩
   exact zEa
  ·refine aM ?_
   refine⟨m,(),fun i hi=> ?_,aG⟩
   by_cases iJ:i=k
   ·subst iJ;exact h
   ·exact hR i oM
 ·have hf:l.findIdx? BK=none:=by
   rw[KH];intro x hx;obtain⟨i,hi⟩:=CT.1 hx;obtain⟨h1,h2⟩:=fT.1 hi;have:=hR i h1;simp[h1,h2]at this;exact this
  exact zEa
theorem PG{α:Type}(q:α->Bool)(l:List α):decide (0<=pM (l.findIdx? q))=l.any q:=by
 cases h:l.findIdx? q with
 |none=>
  rw[KH]at h;simp only[pM];symm;simpa using h
 |some i=>
  rw[KG]at h;obtain⟨h1,h2,_⟩:=h;simp only[pM];have:l.any q=true:=CU.2 ⟨_,EN h1,h2⟩;rw[this];simp
theorem aj2(l:List Int)(hl:l.length<=1000000):PC 154 [.snap (aB aW l),.fn (.func 205) [] []] (bV (l.any BK)):=by
 refine aZ func154 ntmps154 (.c _) ?_;have c1:=aj1 l hl;have h1:=PG BK l;exact zEa
def PH(l:List Int):Int:=if 8<l.length then 6 else if l.any BK=true then 2 else 0
theorem aj3(l:List Int)(hl:l.length<=1000000):PC 127 [.snap (aB aW l),zV 0] (zV (PH l)):=by
 refine aZ func127 ntmps127 (.c _) ?_;have c1:=YY (l.length:Int) 0 8;have c2:=aj2 l hl;unfold PH;unfold lW at c1;by_cases g1:8<l.length
 ·rw[if_pos g1]
  rw[vC oM,zW oM]at c1
  exact zEa
 ·rw[if_neg g1]
  rw[vC oM,vC oM]at c1
  cases h:l.any BK with
  |true=>
   rw[h]at c2;exact zEa
  |false=>
   rw[h]at c2;exact zEa
def bH(im:List (List aQ)):List Int:=im.map fun v=>(v.length:Int)
theorem gV(l:List (List aQ))(k:Nat)(h:k<l.length):(aB bA l)[k]? =some (bA (l.getD k [])):=tB [] h
theorem aj4(v:List aQ):PC 230 [.snap (aB aP v)] (zV v.length):=by
 refine aZ func230 ntmps230 (.c _) ?_;exact zEa
theorem aj5(im:List (List aQ))(hl:im.length<=1000):PC 229 [.snap (aB bA im),.fn (.func 230) [] []] (.snap (aB aW (bH im))):=by
 refine aZ func229 ntmps229 (gJ _) ?_;have hg:=gV im;have c1:=aj4;unfold bH;refine aM ?_;refine dC (α:=Nat) im.length (fun k id=> [(13,true,zV k),(12,true,zV im.length),(11,true,.snap (aB bA im)),(1,true,.fn (.func 230) [] []),(5,true,.own id 0 k)]) (fun k id=> [(id,some (.cells 3 1 (aB aW ((im.map fun v=>(v.length:Int)).take k)) true true))]) (fun k m id=>id<m) ⟨9,0,oM,aG⟩ (fun k m id hk hR=> ?_) (fun m id hR=> ?_)
 ·have h5:=TK (fun v:List aQ=>(v.length:Int)) [] hk
  have h6:((im.map fun v=>(v.length:Int)).take k).length=k:=by simp;omega
  refine aM ?_;exact⟨m+2,m+1,oM,aG⟩
 ·have h6:(im.map fun v=>(v.length:Int)).take im.length=im.map fun v=>(v.length:Int):=cN (by simp)
  exact zEa
theorem aj6(im:List (List aQ))(hl:im.length<=1000):PC 162 [.snap (aB bA im)] (.snap (aB aW (bH im))):=by
 refine aZ func162 ntmps162 (gJ _) ?_;have c1:=aj5 im hl;exact zEa
theorem vE(im:List (List aQ)):(bH im).length=im.length:=by simp[bH]
theorem TY(im:List (List aQ))(hl:im.length<=1000):PC 87 [.snap (aB bA im)] (zV (cZ (bH im))):=by
 refine aZ func87 ntmps87 (.c _) ?_;have c1:=aj6 im hl;have c2:=Jf (bH im) (by rw[vE];omega)
 exact zEa
def lA(sz:List Int)(w:Int×Int×List aQ):Int:=
 if w.1<0\/(sz.length:Int)<=w.1 then 7
 else if w.2.2.length=0 then 1
 else if w.2.1<0\/sz.getD w.1.toNat 0-w.2.2.length<w.2.1 then 2
 else 0
theorem aj7(im:List (List aQ))(w:Int×Int×List aQ)(hl:im.length<=1000)(hv:∀v∈im,v.length<=1000000)(hw:w.2.2.length<=1000000):PC 252 [.snap (aB bA im),.agg (aH w)] (zV (lA (bH im) w)):=by
 refine aZ func252 ntmps252 (.c _) ?_;have hg:=gV im;obtain⟨v,s,l⟩:=w;unfold aH;simp only[]at*;unfold lA;by_cases g1:v<0
 ·rw[if_pos (.inl g1)]
  exact zEa
 by_cases g2:(im.length:Int)<=v
 ·rw[if_pos (by rw[vE];exact .inr g2)]
  exact zEa
 rw[if_neg (by rw[vE];omega)]
 by_cases g3:l.length=0
 ·rw[if_pos g3]
  have g4:(l.length:Int)=0:=oM
  exact zEa
 rw[if_neg g3];have g4:¬(l.length:Int)=0:=oM
 obtain⟨n,rfl⟩:=xD (by omega:0<=v)
 have g5:n<im.length:=oM
 have e1:(bH im).getD ((n:Int)).toNat 0=((im.getD n []).length:Int):=by
  rw[sY];unfold bH;rw[rL,rL,kJ,gY g5];rfl
 rw[e1];have hvn:=hv _ (eB [] g5);have hgn:=hg n g5;clear hg hv e1;generalize im.getD n []=V at*;have w1:IntKind.i64.wrap ((V.length:Int)-l.length)=(V.length:Int)-l.length:=IntWalk.i64_in _ oM
 by_cases g6:s<0
 ·rw[if_pos (.inl g6)]
  exact zEa
 by_cases g7:(V.length:Int)-l.length<s
 ·rw[if_pos (.inr g7)]
  exact zEa
 rw[if_neg (fun h=>by simp only[]at h;omega)]
 exact zEa
theorem ak0(im:List (List aQ))(w:Int×Int×List aQ)(hl:im.length<=1000)(hv:∀v∈im,v.length<=1000000)(hw:w.2.2.length<=1000000):PC 208 [.snap (aB bA im),.agg (aH w)] (zV (if cZ (bH im)=0 then lA (bH im) w else cZ (bH im))):=by
 refine aZ func208 ntmps208 (.c _) ?_;have c1:=TY im hl;have c2:=aj7 im w hl hv hw;unfold aH at*;by_cases g:cZ (bH im)=0
 ·rw[if_pos g]
  rw[g]at c1;exact zEa
 ·rw[if_neg g]
  exact zEa
abbrev bR:=Int×Int×List aQ
def eF:bR:=(0,0,[])
theorem gW(l:List bR)(k:Nat)(h:k<l.length):(aB aH l)[k]? =some (aH (l.getD k eF)):=tB eF h
theorem YZ{sz:List Int}(h:cZ sz=0){v:Nat}(hv:v<sz.length):1<=sz.getD v 0/\sz.getD v 0<=4096:=by
 obtain⟨h1,h2,h3⟩:=GZ h;exact h3 _ (eB 0 hv)
theorem Z0{sz:List Int}{w:bR}(h:cZ sz=0)(hf:lA sz w=0):0<=w.1/\w.1.toNat<sz.length/\1<=w.2.2.length/\0<=w.2.1/\w.2.1+w.2.2.length<=sz.getD w.1.toNat 0/\w.2.1+w.2.2.length<=4096:=by
 unfold lA at hf;by_cases g1:w.1<0\/(sz.length:Int)<=w.1
 ·rw[if_pos g1]at hf;exact absurd hf dE
 rw[if_neg g1]at hf;by_cases g2:w.2.2.length=0
 ·rw[if_pos g2]at hf;exact absurd hf dE
 rw[if_neg g2]at hf;by_cases g3:w.2.1<0\/sz.getD w.1.toNat 0-w.2.2.length<w.2.1
 ·rw[if_pos g3]at hf;exact absurd hf dE
 have g4:w.1.toNat<sz.length:=oM
 have:=YZ h g4;exact⟨oM,g4,oM,oM,oM,oM⟩
def TZ(x w:bR):Bool:=decide (w.1<x.1)||(decide (w.1=x.1)&&decide (w.2.1<=x.2.1+x.2.2.length))
def qH(sz:List Int):Option bR->List bR->Int
 |_,[]=>0
 |p,w::r=>if lA sz w=0 then(match p with|none=>qH sz (some w) r|some x=>if TZ x w=true then 3 else qH sz (some w) r)else lA sz w
def PI(l:List bR):Nat->Option bR
 |0=>none
 |k+1=>some (l.getD k eF)
theorem ak1(im:List (List aQ))(w:bR)(hl:im.length<=1000)(hv:∀v∈im,v.length<=1000000)(hw:w.2.2.length<=1000000)(h0:cZ (bH im)=0):PC 207 [.agg (aH w),.cH [[.snap (aB bA im)]] 0 0] (zV (lA (bH im) w)):=by
 refine aZ func207 ntmps207 (.c _) ?_;have c1:=ak0 im w hl hv hw;rw[if_pos h0]at c1;unfold aH at*;exact zEa
theorem ak2(im:List (List aQ))(l:List bR)(hl:im.length<=1000)(hv:∀v∈im,v.length<=1000000)(hw:∀w∈l,w.2.2.length<=1000000)(hn:l.length<=1000000)(h0:cZ (bH im)=0):PC 206 [.snap (aB aH l),.fn (.func 207) [] [.cH [[.snap (aB bA im)]] 0 0]] (zV (qH (bH im) none l)):=by
 refine aZ func206 ntmps206 (.c _) ?_;generalize hF:qH (bH im) none l=F;have hg:=gW l;refine aM ?_;refine dC (α:=Unit) l.length (fun k _=> [(11,true,zV k),(10,true,zV l.length),(9,true,.snap (aB aH l)),(1,true,.fn (.func 207) [] [.cH [[.snap (aB bA im)]] 0 0]),(0,true,.snap (aB aH l))]) (fun _ _=> []) (fun k m _=>qH (bH im) (PI l k) (l.drop k)=F/\(0<k->lA (bH im) (l.getD (k-1) eF)=0)) ⟨9,(),⟨hF,fun h=>by omega⟩,aG⟩ (fun k m _ hk hR=> ?_) (fun m _ hR=> ?_)
 ·obtain⟨r1,r2⟩:=hR
  have c1:=ak1 im (l.getD k eF) hl hv (hw _ (eB eF hk)) h0;have bO:=hg k hk;rw[wH eF hk]at r1;by_cases g1:lA (bH im) (l.getD k eF)=0
  ·have f1:=Z0 h0 g1
   rw[g1]at c1;cases k with
   |zero=>
    have r3:bC (qH (bH im) (PI l (0+1)) (l.drop (0+1))=F/\(0<0+1->lA (bH im) (l.getD (0+1-1) eF)=0)):=⟨by
     simp only[qH,PI]at r1;rw[if_pos g1]at r1
     exact r1,fun _=>g1⟩
    clear r1 r2 hF hg hw f1 g1;generalize l.getD 0 eF=w at*;obtain⟨v,s,d⟩:=w;have yN:(aB aH l)[0]? =some [zV v,zV s,.snap (aB aP d)]:=bO;clear bO;unfold aH at c1;refine aM ?_;exact⟨m+30,(),r3.out,aG⟩
   |succ j=>
    have f2:=Z0 h0 (r2 oM)
    have sJ:=hg j oM
    have e1:j+1-1=j:=oM
    rw[e1]at f2;have e2:((j+1:Nat):Int)-1=(j:Int):=oM
    have e3:((j:Int)+1)-1=(j:Int):=oM
    have hz:¬((j+1:Nat):Int)=0:=oM
    simp only[qH,PI]at r1;rw[if_pos g1]at r1;by_cases g2:TZ (l.getD j eF) (l.getD (j+1) eF)=true
    ·rw[if_pos g2]at r1
     rw[<-r1];clear r1 r2 hF hg hw g1;generalize l.getD j eF=x at*;generalize l.getD (j+1) eF=w at*;obtain⟨v,s,d⟩:=w;obtain⟨v2,s2,d2⟩:=x;have yN:(aB aH l)[j+1]? =some [zV v,zV s,.snap (aB aP d)]:=bO;have PJ:(aB aH l)[j]? =some [zV v2,zV s2,.snap (aB aP d2)]:=sJ;clear bO sJ;unfold aH at c1;unfold TZ at g2;simp only[]at*;have w1:IntKind.i64.wrap (s2+(d2.length:Int))=s2+d2.length:=IntWalk.i64_in _ oM
     simp only[GN,jF,decide_eq_true_eq]at g2;by_cases g3:v<v2
     ·clear g2
      exact zEa
     ·have g4:v=v2:=oM
      have g5:s<=s2+d2.length:=oM
      subst g4;clear g2;exact zEa
    ·rw[if_neg g2]at r1
     have r3:bC (qH (bH im) (PI l (j+1+1)) (l.drop (j+1+1))=F/\(0<j+1+1->lA (bH im) (l.getD (j+1+1-1) eF)=0)):=⟨r1,fun _=>g1⟩
     clear r1 r2 hF hg hw g1;generalize l.getD j eF=x at*;generalize l.getD (j+1) eF=w at*;obtain⟨v,s,d⟩:=w;obtain⟨v2,s2,d2⟩:=x;have yN:(aB aH l)[j+1]? =some [zV v,zV s,.snap (aB aP d)]:=bO;have PJ:(aB aH l)[j]? =some [zV v2,zV s2,.snap (aB aP d2)]:=sJ;clear bO sJ;unfold aH at c1;unfold TZ at g2;simp only[]at*;have w1:IntKind.i64.wrap (s2+(d2.length:Int))=s2+d2.length:=IntWalk.i64_in _ oM
     simp only[GN,jF,decide_eq_true_eq]at g2;have g3:¬v<v2:=oM
     by_cases g4:v=v2
     ·have g5:¬s<=s2+d2.length:=oM
      subst g4;clear g2;refine aM ?_;exact⟨m+30,(),r3.out,aG⟩
     ·clear g2
      refine aM ?_;exact⟨m+30,(),r3.out,aG⟩
  ·simp only[qH]at r1
   rw[if_neg g1]at r1;rw[<-r1];clear r1 r2 hF hg hw;generalize lA (bH im) (l.getD k eF)=e at*;generalize l.getD k eF=w at*;obtain⟨v,s,d⟩:=w;have yN:(aB aH l)[k]? =some [zV v,zV s,.snap (aB aP d)]:=bO;clear bO;unfold aH at c1;exact zEa
 ·have r1:=hR.1
  rw[v8]at r1;rw[<-r1];clear r1 hR hF;exact zEa
end Go.Proofs.YtpaomccedbjknaaGreatDoor
