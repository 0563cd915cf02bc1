/- Staging. No condition. -/
import Derived.Test.YtioafciifiggaaaGreatDoorL0
import Derived.Test.YtioafciifiggaaaGreatDoorAc
set_option linter.all false
namespace Go.Proofs.YtioafciifiggaaaGreatDoor
open Go.Proofs Go.AL
set_option maxRecDepth 100000
set_option maxHeartbeats 1000000
attribute [local irreducible] cB AW aX cZ dK hold
theorem gS(l:List aY)(k:Nat)(h:k<l.length):(aA aQ l)[k]? =some (aQ (l.getD k aO)):=pQ aO h
def d4(s:aY):List Int:=[s.2.1,s.2.2.1,s.2.2.2.1,s.2.2.2.2]
def eE(l:List aY):List Int:=l.flatMap d4
def eR(s:aY):Prop:=LA s/\∀x∈d4 s,aV x
@[go_sem] theorem bE0(s:aY):List.map (fun x=> [x]) (List.take 4 (List.drop 4 (aQ s)))=aA aH (d4 s):=rfl
@[go_sem] theorem aa9(s:aY):(d4 s).length=4:=rfl
@[go_sem] theorem bE1(s:aY):(d4 s).isEmpty=false:=rfl
theorem PS{l:List aY}{k:Nat}(h:k<l.length):aA aH (eE (l.take k))++aA aH (d4 (l.getD k aO))=aA aH (eE (l.take (k+1))):=by
 rw[P7 h];simp only[eE,Ya,Yb,YV,rO,aA,yO,lC,fU h,qR]
theorem xC:∀(l:List aY),(eE l).length=4*l.length
 |[]=>rfl
 |s::l=>by
  have:=xC l;simp only[eE,Yb,cP,eI]at this⊢;rw[this];simp[d4];omega
def oV:Nat->Nat->AV
 |0,_=> .c (.slice none 0 0)
 |k+1,id=> .own id 0 (4*(k+1))
def oT:Nat->Nat->List Int->List (Nat×Option aI)
 |0,_,_=> []
 |k+1,id,D=> [(id,some (.cells 5 1 (aA aH D) true true))]
def D9(l:List aY):Bool:=l.all fun s=>cL s==cL (l.getD 0 aO)
def gY(l:List aY):List Int×Int:=
 if D9 l=true then
  if 31<(eE l).getD 0 0 then([],0)
  else if((eE l).drop (((eE l).getD 0 0).toNat+1)).all (fun x=>x==0)=true then(((eE l).drop 1).take ((eE l).getD 0 0).toNat,cL (l.getD 0 aO))else([],0)
 else([],0)
theorem Jz:PC 166 [] (zV 31):=by
 refine aT Tryz.func166 Tryz.ntmps166 (.c _) ?_;refine aD ?_;exact aB
theorem Ka(l:List aY)(hl:l.length=8)(h:∀s∈l,eR s):PC 210 [.snap (aA aQ l)] (.aR [.snap (aA aH (gY l).1),.c (.int .u32 (gY l).2)]):=by
 refine aT Tryz.func210 Tryz.ntmps210 (by simp only[go_sem]) ?_
 have hg:=gS l;have c0:=Jz;have c1:=ZG (l.getD 0 aO) (h _ (dC aO (by omega))).1
 refine aD ?_;refine dP (α:=Nat) 8 (fun k id=> [(6,true,zV k),(5,true,oV k id),(4,true,.c (.int .u32 (cL (l.getD 0 aO)))),(0,true,.snap (aA aQ l))]) (fun k id=>oT k id (eE (l.take k))) (fun k m id=>(k=0\/id<m)/\∀i,i<k->cL (l.getD i aO)=cL (l.getD 0 aO)) ⟨0,0,⟨.inl rfl,fun i hi=>by omega⟩,?_⟩ (fun k m id hk hm=> ?_) (fun m id hm=> ?_)
 ·simp only[oV,oT]
  exact aN
 ·have c2:=ZG (l.getD k aO) (h _ (dC aO (by omega))).1
  obtain⟨nZ,nD⟩:=hm;have h5:=PS (l:=l) (k:=k) (by omega)
  by_cases g:cL (l.getD k aO)=cL (l.getD 0 aO)
  ·have h6:∀i,i<k+1->cL (l.getD i aO)=cL (l.getD 0 aO):=fun i hi=>by
    by_cases fE:i=k
    ·subst fE;exact g
    ·exact nD i (by omega)
   clear nD;cases k with
   |zero=>
    simp only[oV,oT,wY]at h5⊢;have h9:aA aH (d4 (l.getD 0 aO))=aA aH (eE (List.take (0+1) l)):=h5;have h8:(eE (List.take 1 l)).length=4:=by rw[xC,eD];omega
    have cO:(eE (List.take 1 l)).isEmpty=false:=by
     cases hx:eE (List.take 1 l)with
     |nil=>rw[hx]at h8;simp at h8
     |cons a b=>rfl
    clear h5;refine aD ?_;refine⟨m+1,m,⟨by omega,h6⟩,?_⟩
    simp only[oV,oT];exact aN
   |succ k=>
    simp only[oV,oT]at h5⊢;have C0:id<m:=by omega
    have h8:(eE (List.take (k+1) l)).length=4*(k+1):=by rw[xC,eD];omega
    refine aD ?_;refine⟨m+1,m,⟨by omega,h6⟩,?_⟩
    simp only[oV,oT];exact aN
  ·have h7:D9 l=false:=by
    unfold D9;rw[Yc];exact⟨_,dC aO (by omega:k<l.length),by simpa using g⟩
   unfold gY;clear nD;refine aD ?_;exact aB
 ·simp only[oV,oT]
  rw[cR (by omega:l.length<=8)]
  obtain⟨nZ,nD⟩:=hm;have C0:id<m:=by omega
  have h6:D9 l=true:=by
   unfold D9;rw[gK];intro x hx;obtain⟨i,hi,rfl⟩:=ER.1 hx;have:=nD i (by omega)
   rw[lC,fU hi]at this;simpa using this
  have h7:(eE l).length=32:=by rw[xC,hl]
  have h8:∀x∈eE l,aV x:=fun x hx=>by
   obtain⟨s,hs,hx⟩:=sJ.1 hx;exact(h s hs).2 x hx
  unfold gY;generalize hD:eE l=D at*;clear nD;have h9:=h8 _ (dC 0 (by omega:0<D.length))
  obtain⟨n,hn⟩:=sK h9.1;have cO:n<256:=by have:=h9.2;omega
  have hgD:=gB D;have hw:IntKind.i64.wrap (n:Int)=n:=IntWalk.i64_in _ (by omega)
  clear h9 h8 h c1;by_cases g1:31<n
  ·have g2:(31:Int)<(n:Int):=by omega
   refine aD ?_;exact aB
  ·have g2:¬(31:Int)<(n:Int):=by omega
   refine aD ?_;refine dP (α:=Unit) (31-n) (fun j _=> [(8,true,.c (.int .i64 ((n+1+j:Nat):Int))),(7,true,zV n),(5,true,.own id 0 32),(4,true,.c (.int .u32 (cL (l.getD 0 aO)))),(0,true,.snap (aA aQ l))]) (fun j _=> [(id,some (.cells 5 1 (aA aH D) true true))]) (fun j m _=>id<m/\∀i,i<j->D.getD (n+1+i) 0=0) ⟨m,(),⟨C0,fun i hi=>by omega⟩,aN⟩ (fun j m _ hj hR=> ?_) (fun m _ hR=> ?_)
   ·obtain⟨tJ,bK⟩:=hR
    by_cases g3:D.getD (n+1+j) 0=0
    ·have lM:∀i,i<j+1->D.getD (n+1+i) 0=0:=fun i hi=>by
      by_cases jY:i=j
      ·subst jY;exact g3
      ·exact bK i (by omega)
     clear bK;refine aD ?_;exact⟨m,(),⟨tJ,lM⟩,aN⟩
    ·have g4:((D.drop (n+1)).all fun x=>x==0)=false:=by
      rw[Yc];refine⟨D.getD (n+1+j) 0,?_,by simpa using g3⟩
      have kC:n+1+j<D.length:=by omega
      rw[lC,fU kC,qR];exact bv4.2 ⟨j,by omega,rfl⟩
     clear bK;refine aD ?_;exact aB
   ·obtain⟨tJ,bK⟩:=hR
    have g4:((D.drop (n+1)).all fun x=>x==0)=true:=by
     rw[gK];intro x hx;obtain⟨j,hj,rfl⟩:=bv4.1 hx;have:=bK j (by omega)
     rw[lC,fU (by omega),qR]at this
     simpa using this
    clear bK;refine aD ?_;have e1:n+1-1=n:=by omega
    exact aB
def rW(c:Int)(l:List Int):List Int:=(l.reverse.dropWhile fun x=>x==c).reverse
theorem ab1{c:Int}{b:List Int}:rW c (b++[c])=rW c b:=by simp[rW,Ir]
theorem ab2{c x:Int}{b:List Int}(h:¬x=c):rW c (b++[x])=b++[x]:=by simp[rW,Ir,h]
theorem ab3(l:List Int)(c:Int)(hl:l.length<=100000):PC 283 [.snap (aA aH l),uV c] (.snap (aA aH (rW c l))):=by
 refine aT Tryz.func283 Tryz.ntmps283 (iJ _) ?_;refine aD ?_;refine D7 (α:=List Int) (fun a=> [(0,true,.snap (aA aH a)),(1,true,uV c)]) (fun _=> []) (fun m a=>a.length<=100000/\rW c a=rW c l) List.length l ⟨0,⟨hl,rfl⟩,aN⟩ (fun m a hR=> ?_)
 obtain⟨tJ,bK⟩:=hR;rcases List.eq_nil_or_concat a with rfl|⟨b,x,rfl⟩
 ·have h5:rW c l=[]:=by rw[<-bK];rfl
  rw[h5];clear bK h5;refine aD ?_;exact aB
 ·simp only[List.concat_eq_append]at tJ bK⊢
  have h1:(b++[x]).length=b.length+1:=by simp
  have h2:(aA aH (b++[x]))[b.length]? =some (aH x):=by
   rw[pQ 0 (by simp)];simp
  have h3:(aA aH (b++[x])).take b.length=aA aH b:=by rw[ZI];simp
  have h4:(b++[x]).isEmpty=false:=by cases b<;>rfl
  have e1:((b.length+1:Nat):Int)-1=(b.length:Int):=by omega
  generalize hA:b++[x]=A at*;by_cases g:x=c
  ·subst g
   have h5:rW x b=rW x l:=by rw[<-bK,<-hA,ab1]
   clear bK;refine aD ?_;exact⟨m,b,by omega,⟨by omega,h5⟩,aN⟩
  ·have h5:rW c l=A:=by rw[<-bK,<-hA,ab2 g]
   rw[h5];clear bK h5;refine aD ?_;exact aB
theorem ab4:((⟨#[0]⟩:ByteArray).toList==(⟨#[]⟩:ByteArray).toList)=false:=by
 simp[ByteArray.toList,ByteArray.toList.loop,ByteArray.size,ByteArray.get!]
theorem ab5:(⟨#[0]⟩:ByteArray).size=1:=rfl
theorem ab6:(⟨#[0]⟩:ByteArray)[0]? =some (0:UInt8):=by rfl
theorem ab7(l:List Int)(hl:l.length<=100000):PC 249 [.snap (aA aH l),.c (.string ⟨#[0]⟩)] (.snap (aA aH (rW 0 l))):=by
 refine aT Tryz.func249 Tryz.ntmps249 (iJ _) ?_;have c1:=ab3 l 0 hl;by_cases h:l=[]
 ·subst h
  have h5:rW 0 []=[]:=rfl;refine aD ?_;exact aB
 ·have h1:=rS h
  have s1:=ab4;have s2:=ab5;have s3:=ab6;have s4:((UInt8.toNat 0:Nat):Int)=0:=rfl;have h2:¬l.length=0:=by rw[Is];exact h
  refine aD ?_;exact aB
theorem Kb{l:List Int}:(rW 0 l=[])↔(l.all fun x=>x==0)=true:=by
 unfold rW;rw[List.reverse_eq_nil_iff]
 have h:∀m:List Int,m.dropWhile (fun x=>x==0)=[]↔∀x∈m,x=0:=by
  intro m
  induction m with
  |nil=>simp
  |cons a m ih=>
   by_cases ha:a=0
   ·simp[Ir,ha,ih]
   ·simp[Ir,ha]
 rw[h];simp
def copyV(g:Int)(p:List Int)(l:List aY):AV:= .agg [zV g,.snap (aA aH p),.snap (aA aQ l)]
theorem Kc(l:List aY)(hl:l.length=8)(h:∀s∈l,eR s):PC 209 [.snap (aA aQ l)] (copyV (gY l).2 (gY l).1 l):=by
 unfold copyV;refine aT Tryz.func209 Tryz.ntmps209 (by simp only[go_sem]) ?_
 have hg:=gS l;have c1:=Jw (l.getD 0 aO) (h _ (dC aO (by omega))).1
 refine aD ?_;refine eP 2 ?_;refine eQ ?_;refine aD ?_;refine dP (α:=Nat) 8 (fun k id=> [(12,true,zV k),(11,true,zV (8:Nat)),(10,true,.snap (aA aQ l)),(4,true,oV k id),(3,true,.ptr 1 0 0),(2,true,.ptr 0 0 0),(0,true,.snap (aA aQ l))]) (fun k id=>(0,some (.cells 261 3 [[.c (.int .i64 0),.c (.slice none 0 0),.c (.slice none 0 0)]] true false))::(1,some (.cells 261 3 [[.c (.int .i64 0),.c (.slice none 0 0),.snap (aA aQ l)]] true false))::oT k id (eE (l.take k))) (fun k m id=>(3<=m/\(k=0\/(1<id/\id<m)))/\∀i,i<k->cL (l.getD i aO)=cL (l.getD 0 aO)) ⟨3,0,⟨⟨by omega,.inl rfl⟩,fun i hi=>by omega⟩,?_⟩ (fun k m id hk hm=> ?_) (fun m id hm=> ?_)
 ·simp only[oV,oT]
  exact aN
 ·have c2:=Jw (l.getD k aO) (h _ (dC aO (by omega))).1
  obtain⟨⟨HN,nZ⟩,nD⟩:=hm;have h5:=PS (l:=l) (k:=k) (by omega)
  by_cases g:cL (l.getD k aO)=cL (l.getD 0 aO)
  ·have h6:∀i,i<k+1->cL (l.getD i aO)=cL (l.getD 0 aO):=fun i hi=>by
    by_cases fE:i=k
    ·subst fE;exact g
    ·exact nD i (by omega)
   clear nD;cases k with
   |zero=>
    simp only[oV,oT,wY]at h5⊢;have h9:aA aH (d4 (l.getD 0 aO))=aA aH (eE (List.take (0+1) l)):=h5;have h8:(eE (List.take 1 l)).length=4:=by rw[xC,eD];omega
    have cO:(eE (List.take 1 l)).isEmpty=false:=by
     cases hx:eE (List.take 1 l)with
     |nil=>rw[hx]at h8;simp at h8
     |cons a b=>rfl
    clear h5;refine aD ?_;refine⟨m+10,m+9,⟨⟨by omega,by omega⟩,h6⟩,?_⟩
    simp only[oV,oT];exact aN
   |succ k=>
    simp only[oV,oT]at h5⊢;have C0:1<id/\id<m:=by omega
    obtain⟨Kd,hm5⟩:=C0;have h8:(eE (List.take (k+1) l)).length=4*(k+1):=by rw[xC,eD];omega
    refine aD ?_;refine⟨m+10,m+9,⟨⟨by omega,by omega⟩,h6⟩,?_⟩
    simp only[oV,oT];exact aN
  ·have h7:D9 l=false:=by
    unfold D9;rw[Yc];exact⟨_,dC aO (by omega:k<l.length),by simpa using g⟩
   have kC:gY l=([],0):=by unfold gY;rw[h7];rfl
   rw[kC];clear nD;cases k with
   |zero=>exact absurd rfl g
   |succ k=>
    simp only[oV,oT];have C0:1<id/\id<m:=by omega
    obtain⟨Kd,hm5⟩:=C0;refine aD ?_;exact aB
 ·simp only[oV,oT]
  rw[cR (by omega:l.length<=8)]
  obtain⟨⟨HN,nZ⟩,nD⟩:=hm;have C0:1<id:=by omega
  have Kd:id<m:=by omega
  have h6:D9 l=true:=by
   unfold D9;rw[gK];intro x hx;obtain⟨i,hi,rfl⟩:=ER.1 hx;have:=nD i (by omega)
   rw[lC,fU hi]at this;simpa using this
  have h7:(eE l).length=32:=by rw[xC,hl]
  have h8:∀x∈eE l,aV x:=fun x hx=>by
   obtain⟨s,hs,hx⟩:=sJ.1 hx;exact(h s hs).2 x hx
  unfold gY;generalize hD:eE l=D at*;clear nD;have h9:=h8 _ (dC 0 (by omega:0<D.length))
  obtain⟨n,hn⟩:=sK h9.1;have cO:n<256:=by have:=h9.2;omega
  have hgD:=gB D;have hw:IntKind.i64.wrap (n:Int)=n:=IntWalk.i64_in _ (by omega)
  clear h9 h8 h hD nZ;by_cases g1:31<n
  ·have g2:(31:Int)<(n:Int):=by omega
   refine aD ?_;exact aB
  ·have g2:¬(31:Int)<(n:Int):=by omega
   have c3:=ab7 (D.drop (n+1)) (by rw[fX];omega)
   have rX:(aA aH (D.drop (n+1))).length=32-(n+1):=by rw[fZ,fX];omega
   have vU:List.take (32-(n+1)) (D.drop (n+1))=D.drop (n+1):=cR (by rw[fX];omega)
   have zZ:List.take (32-(n+1)) (aA aH (D.drop (n+1)))=aA aH (D.drop (n+1)):=cR (by omega)
   by_cases g3:rW 0 (D.drop (n+1))=[]
   ·have g4:=Kb.1 g3
    refine aD ?_;have e1:n+1-1=n:=by omega
    exact aB
   ·have g4:((D.drop (n+1)).all fun x=>x==0)=false:=by
     cases hb:((D.drop (n+1)).all fun x=>x==0)with
     |false=>rfl
     |true=>exact absurd (Kb.2 hb) g3
    have g5:0<(rW 0 (D.drop (n+1))).length:=BP.2 g3;refine aD ?_;exact aB
def bC(o:Int×Int×List aY):List AV:=[zV o.1,zV o.2.1,.snap (aA aQ o.2.2)]
@[go_sem] theorem ab9(G:Nat->Option aI)(k:Nat)(s:aY):(aQ s).map (cT G k)=aQ s:=by
  cases k<;>simp[aQ,cT]
theorem ac0(o:Int×Int×List aY):∀x∈bC o,bJ x:=by
 intro x hx;simp only[bC,fB,mR,or_false]at hx;rcases hx with rfl|rfl|rfl
 ·exact .c _
 ·exact .c _
 ·exact iJ _
instance :uF bC 3:=⟨fun _=>rfl,fun _=>rfl,ac0⟩
def UQ:List aY:=List.replicate 16 aO
def rY(a:Int)(p:List Int):List (Int×Int×List aY)×Int:=
 if a<0\/4080<a then([],2)
 else if 31<p.length then([],5)
 else([(0,a,UQ),(1,0,[]),(0,a,D8 1 p),(1,0,[])],0)
theorem ac1(a:Int)(p:List Int)(hp:p.length<=100000):PC 104 [zV a,.snap (aA aH p)] (.aR [.snap (aA bC (rY a p).1),zV (rY a p).2]):=by
 refine uH Tryz.func104 Tryz.ntmps104 (by simp only[go_sem]) ?_
 unfold rY;by_cases g1:a<0
 ·refine aD ?_
  exact aB
 by_cases g2:4080<a
 ·refine aD ?_
  exact aB
 have g3:¬(a<0\/4080<a):=by omega
 rw[if_neg g3];clear g3;by_cases g4:31<p.length
 ·have g5:(31:Int)<p.length:=by omega
  refine aD ?_;exact aB
 have g5:¬(31:Int)<p.length:=by omega
 have c1:=aa4 1 p (by omega)
 rw[if_neg g4];unfold UQ;refine aD ?_;exact aB
theorem ac2(a:Int)(p:List Int)(hp:p.length<=100000):PC 106 [zV a,.snap (aA aH p)] (.aR [.snap (aA bC (rY a p).1),zV (rY a p).2]):=by
 refine uH Tryz.func106 Tryz.ntmps106 (by simp only[go_sem]) ?_
 have c0:=Jz;unfold rY;by_cases g1:a<0
 ·refine aD ?_
  exact aB
 by_cases g2:4080<a
 ·refine aD ?_
  exact aB
 have g3:¬(a<0\/4080<a):=by omega
 rw[if_neg g3];clear g3;by_cases g4:31<p.length
 ·have g5:(31:Int)<p.length:=by omega
  refine aD ?_;exact aB
 have g5:¬(31:Int)<p.length:=by omega
 have c1:=aa8 1 p (by omega)
 rw[if_neg g4];unfold UQ;refine aD ?_;exact aB
theorem PT(xs:List (List AV)):xD xs xs:=⟨rfl,fun k a b h1 h2=>by rw[h1]at h2;injection h2 with h2;subst h2;exact UR a⟩
theorem nE{A:Prop}(w:A:=by(simp(maxSteps:=2000000) (disch:=omega) only[go_sem,eU,e8,eN,eF,false_implies,implies_true, *];(repeat (first|exact .refl _|exact .nil|exact sP|refine iO ?_ ?_|refine DA ?_|refine DB ?_|refine C3 ?_|exact yS|exact PT _|refine vV ?_ ?_)))):A:=w
@[go_sem] theorem ac3(G:Nat->Option aI)(k:Nat)(F:List (Int×Int×List aY)):(aA bC F).map (fun row=>row.map (cT G k))=aA bC F:=by
  unfold aA;rw[P9];refine sL fun o _=> ?_
  cases k<;>simp[bC,cT]
@[go_sem] theorem bE2(G:Nat->Option aI)(k:Nat)(F:List aY):(aA aQ F).map (fun row=>row.map (cT G k))=aA aQ F:=by
  unfold aA;rw[P9];exact sL fun o _=>ab9 G k o
theorem Ke(a:Int)(p:List Int):(rY a p).1.length<=4:=by
 unfold rY;split
 ·simp
 ·split
  ·simp
  ·simp
structure fJ where
 st:List aY
 ca:List (Int×aY)
def dI(d:fJ):List AV:=[.snap (aA aQ d.st),.snap (aA oM d.ca)]
theorem gC(l:List (Int×aY))(k:Nat)(h:k<l.length):(aA oM l)[k]? =some (oM (l.getD k (0,aO))):=pQ (0,aO) h
def mA(n:Nat)(c:Int×aY):Bool:=decide (c.1<0)||decide ((n:Int)<=c.1)
def l6(d:fJ):Int:=if 4096<d.st.length then 2 else if d.ca.any (mA d.st.length)=true then 2 else 0
theorem ZJ(d:fJ)(h1:d.st.length<=1000000)(h2:d.ca.length<=1000000):PC 38 [.agg (dI d)] (zV (l6 d)):=by
 refine aT Tryz.func38 Tryz.ntmps38 (.c _) ?_;obtain⟨st,ca⟩:=d;unfold dI l6;simp only[]at h1 h2⊢;have hg:=gC ca;by_cases g1:4096<st.length
 ·have g2:(4096:Int)<(st.length:Int):=by omega
  refine aD ?_;exact aB
 have g2:¬(4096:Int)<(st.length:Int):=by omega
 refine aD ?_;refine dP (α:=Unit) ca.length (fun k _=> [(3,true,zV k),(1,true,.ptr 0 0 0)]) (fun _ _=> [(0,some (.cells 25 2 [[.snap (aA aQ st),.snap (aA oM ca)]] true false))]) (fun k m _=>1<=m/\∀i,i<k->mA st.length (ca.getD i (0,aO))=false) ⟨1,(),⟨cA _,fun i hi=>by omega⟩,aN⟩ (fun k m _ hk hR=> ?_) (fun m _ hR=> ?_)
 ·obtain⟨tJ,bK⟩:=hR
  by_cases g3:(ca.getD k (0,aO)).1<0
  ·have g5:ca.any (mA st.length)=true:=pO.2 ⟨_,dC (0,aO) hk,by unfold mA;rw[PK g3];rfl⟩
   clear bK;refine aD ?_;exact aB
  by_cases g4:(st.length:Int)<=(ca.getD k (0,aO)).1
  ·have g5:ca.any (mA st.length)=true:=pO.2 ⟨_,dC (0,aO) hk,by unfold mA;rw[rP g4];simp⟩
   clear bK;refine aD ?_;exact aB
  have lM:∀i,i<k+1->mA st.length (ca.getD i (0,aO))=false:=fun i hi=>by
   by_cases fE:i=k
   ·subst fE;unfold mA;rw[PL g3,yR g4];rfl
   ·exact bK i (by omega)
  clear bK;refine aD ?_;exact⟨m+19,(),⟨by omega,lM⟩,aN⟩
 ·have g5:ca.any (mA st.length)=false:=by
   rw[TV];intro x hx;obtain⟨i,hi,rfl⟩:=ER.1 hx;have:=hR.2 i hi;rw[lC,fU hi]at this;simpa using this
  clear hR;refine aD ?_;exact aB
end Go.Proofs.YtioafciifiggaaaGreatDoor
