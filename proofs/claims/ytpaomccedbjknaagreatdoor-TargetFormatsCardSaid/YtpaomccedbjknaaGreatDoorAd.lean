/- Target: contracts of its functions (Ad). No condition but those named. -/
import Derived.Test.YtpaomccedbjknaaGreatDoorAc
set_option linter.all false
namespace Go.Proofs.YtpaomccedbjknaaGreatDoor
open Go.Proofs Go.AL Tryz
set_option maxRecDepth 100000
set_option maxHeartbeats 8000000
attribute [local irreducible] bT AW b8 cF dB hold
def sH(c:Int)(l:List Int):List Int:=(l.reverse.dropWhile fun x=>x==c).reverse
theorem ae0{c:Int}{b:List Int}:sH c (b++[c])=sH c b:=by simp[sH,Ib]
theorem ae1{c x:Int}{b:List Int}(h:¬x=c):sH c (b++[x])=b++[x]:=by simp[sH,Ib,h]
theorem ae2(l:List Int)(c:Int)(hl:l.length<=100000):PC 296 [.snap (aB aO l),uV c] (.snap (aB aO (sH c l))):=by
 refine aZ func296 ntmps296 (gJ _) ?_;refine aM ?_;refine P0 (α:=List Int) (fun a=> [(0,true,.snap (aB aO a)),(1,true,uV c)]) (fun _=> []) (fun m a=>a.length<=100000/\sH c a=sH c l) List.length l ⟨0,⟨hl,rfl⟩,aG⟩ (fun m a hR=> ?_)
 obtain⟨pP,cW⟩:=hR;rcases List.eq_nil_or_concat a with rfl|⟨b,x,rfl⟩
 ·have h5:sH c l=[]:=by rw[<-cW];rfl
  rw[h5];clear cW h5;exact zEa
 ·simp only[List.concat_eq_append]at pP cW⊢
  have h1:(b++[x]).length=b.length+1:=by simp
  have h2:(aB aO (b++[x]))[b.length]? =some (aO x):=by
   rw[tB 0 (by simp)];simp
  have h3:(aB aO (b++[x])).take b.length=aB aO b:=by rw[YP];simp
  have h4:(b++[x]).isEmpty=false:=by cases b<;>rfl
  have e1:((b.length+1:Nat):Int)-1=(b.length:Int):=oM
  generalize hA:b++[x]=A at*;by_cases g:x=c
  ·subst g
   have h5:sH x b=sH x l:=by rw[<-cW,<-hA,ae0]
   clear cW;refine aM ?_;exact⟨m,b,oM,⟨oM,h5⟩,aG⟩
  ·have h5:sH c l=A:=by rw[<-cW,<-hA,ae1 g]
   rw[h5];clear cW h5;exact zEa
theorem ae3:((⟨#[0]⟩:ByteArray).toList==(⟨#[]⟩:ByteArray).toList)=false:=by
 simp[ByteArray.toList,ByteArray.toList.loop,ByteArray.size,ByteArray.get!]
theorem ae4:(⟨#[0]⟩:ByteArray).size=1:=rfl
theorem ae5:(⟨#[0]⟩:ByteArray)[0]? =some (0:UInt8):=by rfl
theorem ae6(l:List Int)(hl:l.length<=100000):PC 289 [.snap (aB aO l),.c (.string ⟨#[0]⟩)] (.snap (aB aO (sH 0 l))):=by
 refine aZ func289 ntmps289 (gJ _) ?_;have c1:=ae2 l 0 hl;by_cases h:l=[]
 ·subst h
  have h5:sH 0 []=[]:=rfl;exact zEa
 ·have h1:=qF h
  have s1:=ae3;have s2:=ae4;have s3:=ae5;have s4:((UInt8.toNat 0:Nat):Int)=0:=rfl;have h2:¬l.length=0:=by rw[Ic];exact h
  exact zEa
theorem Jn{l:List Int}:(sH 0 l=[])↔(l.all fun x=>x==0)=true:=by
 unfold sH;rw[List.reverse_eq_nil_iff]
 have h:∀m:List Int,m.dropWhile (fun x=>x==0)=[]↔∀x∈m,x=0:=by
  intro m
  induction m with
  |nil=>simp
  |cons a m ih=>
   by_cases ha:a=0
   ·simp[Ib,ha,ih]
   ·simp[Ib,ha]
 rw[h];simp
def copyV(g:Int)(p:List Int)(l:List aQ):AV:= .agg [zV g,.snap (aB aO p),.snap (aB aP l)]
theorem Jo(l:List aQ)(hl:l.length=8)(h:∀s∈l,kL s):PC 276 [.snap (aB aP l)] (copyV (fF l).2 (fF l).1 l):=by
 unfold copyV;refine aZ func276 ntmps276 (by simp only[go_sem]) ?_
 have hg:=gS l;have c1:=KV (l.getD 0 bS) (h _ (eB bS oM)).1
 refine aM ?_;refine fZ 2 ?_;refine gD ?_;refine aM ?_;refine dC (α:=Nat) 8 (fun k id=> [(12,true,zV k),(11,true,zV (8:Nat)),(10,true,.snap (aB aP l)),(4,true,oV k id),(3,true,.ptr 1 0 0),(2,true,.ptr 0 0 0),(0,true,.snap (aB aP l))]) (fun k id=>(0,some (.cells 265 3 [[.c (.int .i64 0),.c (.slice none 0 0),.c (.slice none 0 0)]] true false))::(1,some (.cells 265 3 [[.c (.int .i64 0),.c (.slice none 0 0),.snap (aB aP l)]] true false))::oT k id (rR (l.take k))) (fun k m id=>(3<=m/\(k=0\/(1<id/\id<m)))/\∀i,i<k->kV (l.getD i bS)=kV (l.getD 0 bS)) ⟨3,0,⟨⟨oM,.inl rfl⟩,fun i hi=>by omega⟩,?_⟩ (fun k m id hk hm=> ?_) (fun m id hm=> ?_)
 ·simp only[oV,oT]
  exact aG
 ·have c2:=KV (l.getD k bS) (h _ (eB bS oM)).1
  obtain⟨⟨H7,r6⟩,wG⟩:=hm;have h5:=ad8 (l:=l) (k:=k) oM
  by_cases g:kV (l.getD k bS)=kV (l.getD 0 bS)
  ·have h6:∀i,i<k+1->kV (l.getD i bS)=kV (l.getD 0 bS):=fun i hi=>by
    by_cases iJ:i=k
    ·subst iJ;exact g
    ·exact wG i oM
   clear wG;cases k with
   |zero=>
    simp only[oV,oT,ER]at h5⊢;have h9:aB aO (d4 (l.getD 0 bS))=aB aO (rR (List.take (0+1) l)):=h5;have h8:(rR (List.take 1 l)).length=4:=by rw[TP,dX];omega
    have fG:(rR (List.take 1 l)).isEmpty=false:=by
     cases hx:rR (List.take 1 l)with
     |nil=>rw[hx]at h8;simp at h8
     |cons a b=>rfl
    clear h5;refine aM ?_;refine⟨m+10,m+9,⟨⟨oM,oM⟩,h6⟩,?_⟩
    simp only[oV,oT];exact aG
   |succ k=>
    simp only[oV,oT]at h5⊢;have KW:1<id/\id<m:=oM
    obtain⟨Jp,hm5⟩:=KW;have h8:(rR (List.take (k+1) l)).length=4*(k+1):=by rw[TP,dX];omega
    refine aM ?_;refine⟨m+10,m+9,⟨⟨oM,oM⟩,h6⟩,?_⟩
    simp only[oV,oT];exact aG
  ·have h7:P3 l=false:=by
    unfold P3;rw[List.all_eq_false];exact⟨_,eB bS (by omega:k<l.length),by simpa using g⟩
   have mR:fF l=([],0):=by unfold fF;rw[h7];rfl
   rw[mR];clear wG;cases k with
   |zero=>exact absurd rfl g
   |succ k=>
    simp only[oV,oT];have KW:1<id/\id<m:=oM
    obtain⟨Jp,hm5⟩:=KW;exact zEa
 ·simp only[oV,oT]
  rw[cN (by omega:l.length<=8)]
  obtain⟨⟨H7,r6⟩,wG⟩:=hm;have KW:1<id:=oM
  have Jp:id<m:=oM
  have h6:P3 l=true:=by
   unfold P3;rw[iM];intro x hx;obtain⟨i,hi,rfl⟩:=CW.1 hx;have:=wG i oM
   rw[rL,gY hi]at this;simpa using this
  have h7:(rR l).length=32:=by rw[TP,hl]
  have h8:∀x∈rR l,bZ x:=fun x hx=>by
   obtain⟨s,hs,hx⟩:=B8.1 hx;exact(h s hs).2 x hx
  unfold fF;generalize hD:rR l=D at*;clear wG;have h9:=h8 _ (eB 0 (by omega:0<D.length))
  obtain⟨n,hn⟩:=xD h9.1;have fG:n<256:=by have:=h9.2;omega
  have hgD:=gB D;have hw:IntKind.i64.wrap (n:Int)=n:=IntWalk.i64_in _ oM
  clear h9 h8 h hD r6;by_cases g1:31<n
  ·have g2:(31:Int)<(n:Int):=oM
   exact zEa
  ·have g2:¬(31:Int)<(n:Int):=oM
   have c3:=ae6 (D.drop (n+1)) (by rw[kR];omega)
   have u2:(aB aO (D.drop (n+1))).length=32-(n+1):=by rw[fK,kR];omega
   have D6:List.take (32-(n+1)) (D.drop (n+1))=D.drop (n+1):=cN (by rw[kR];omega)
   have H8:List.take (32-(n+1)) (aB aO (D.drop (n+1)))=aB aO (D.drop (n+1)):=cN oM
   by_cases g3:sH 0 (D.drop (n+1))=[]
   ·have g4:=Jn.1 g3
    refine aM ?_;have e1:n+1-1=n:=oM
    exact cR
   ·have g4:((D.drop (n+1)).all fun x=>x==0)=false:=by
     cases hb:((D.drop (n+1)).all fun x=>x==0)with
     |false=>rfl
     |true=>exact absurd (Jn.2 hb) g3
    have g5:0<(sH 0 (D.drop (n+1))).length:=T7.2 g3;exact zEa
def aH(o:Int×Int×List aQ):List AV:=[zV o.1,zV o.2.1,.snap (aB aP o.2.2)]
@[go_sem] theorem ae8(G:Nat->Option aI)(k:Nat)(s:aQ):(aP s).map (bJ G k)=aP s:=by
  cases k<;>simp[aP,bJ]
theorem Jq(o:Int×Int×List aQ):∀x∈aH o,bF x:=by
 intro x hx;simp only[aH,dJ,iI,or_false]at hx;rcases hx with rfl|rfl|rfl
 ·exact .c _
 ·exact .c _
 ·exact gJ _
instance :rN aH 3:=⟨fun _=>rfl,fun _=>rfl,Jq⟩
def TQ:List aQ:=List.replicate 16 bS
def nK(a:Int)(p:List Int):List (Int×Int×List aQ)×Int:=
 if a<0\/4080<a then([],2)
 else if 31<p.length then([],5)
 else([(0,a,TQ),(1,0,[]),(0,a,tD 1 p),(1,0,[])],0)
theorem Js(a:Int)(p:List Int)(hp:p.length<=100000):PC 84 [zV a,.snap (aB aO p)] (.aK [.snap (aB aH (nK a p).1),zV (nK a p).2]):=by
 refine iZ func84 ntmps84 (by simp only[go_sem]) ?_
 unfold nK;by_cases g1:a<0
 ·refine aM ?_
  exact cR
 by_cases g2:4080<a
 ·refine aM ?_
  exact cR
 have g3:¬(a<0\/4080<a):=oM
 rw[if_neg g3];clear g3;by_cases g4:31<p.length
 ·have g5:(31:Int)<p.length:=oM
  exact zEa
 have g5:¬(31:Int)<p.length:=oM
 have c1:=YO 1 p oM
 rw[if_neg g4];unfold TQ;exact zEa
theorem Jt(a:Int)(p:List Int)(hp:p.length<=100000):PC 95 [zV a,.snap (aB aO p)] (.aK [.snap (aB aH (nK a p).1),zV (nK a p).2]):=by
 refine iZ func95 ntmps95 (by simp only[go_sem]) ?_
 have c0:=ad9;unfold nK;by_cases g1:a<0
 ·refine aM ?_
  exact cR
 by_cases g2:4080<a
 ·refine aM ?_
  exact cR
 have g3:¬(a<0\/4080<a):=oM
 rw[if_neg g3];clear g3;by_cases g4:31<p.length
 ·have g5:(31:Int)<p.length:=oM
  exact zEa
 have g5:¬(31:Int)<p.length:=oM
 have c1:=ad7 1 p oM
 rw[if_neg g4];unfold TQ;exact zEa
theorem EV(xs:List (List AV)):r7 xs xs:=⟨rfl,fun k a b h1 h2=>by rw[h1]at h2;injection h2 with h2;subst h2;exact tY a⟩
theorem dS{A:Prop}(w:A:=by(simp(maxSteps:=2000000) (disch:=omega) only[go_sem,fH,eM,fD,fC,false_implies,implies_true, *];(repeat (first|exact .refl _|exact .nil|exact mS|refine eE ?_ ?_|refine H9 ?_|refine vD ?_|refine HA ?_|exact BH|exact EV _|refine u3 ?_ ?_)))):A:=w
@[go_sem] theorem Ju(G:Nat->Option aI)(k:Nat)(F:List (Int×Int×List aQ)):(aB aH F).map (fun row=>row.map (bJ G k))=aB aH F:=by
  unfold aB;rw[B9];refine sG fun o _=> ?_
  cases k<;>simp[aH,bJ]
@[go_sem] theorem bS2(G:Nat->Option aI)(k:Nat)(F:List aQ):(aB aP F).map (fun row=>row.map (bJ G k))=aB aP F:=by
  unfold aB;rw[B9];exact sG fun o _=>ae8 G k o
def iK:eD:=⟨[],0,0,0,0,0⟩
def kW(l:List Int)(s d n:Int):eD×List (Int×Int×List aQ)×Int:=
 if rO l s d=0 then
  if fY n=true then
   if(nK s (gR ⟨l,s,d,n,0,0⟩)).2=0 then(⟨l,s,d,n,0,0⟩,[(0,d,jG (sum l)),(1,0,[])]++(nK s (gR ⟨l,s,d,n,0,0⟩)).1,0)
   else(iK,[],(nK s (gR ⟨l,s,d,n,0,0⟩)).2)
  else(iK,[],2)
 else(iK,[],rO l s d)
theorem ae9(r:eD)(hl:r.aR.length<=1000000):PC 94 [.agg (cC r)] (.agg (cC r)):=by
 refine iZ func94 ntmps94 (Jc r) ?_;obtain⟨l,a,b,c,d,e⟩:=r;unfold cC;simp only[]at hl⊢;by_cases h:l=[]
 ·subst h
  exact zEa
 ·have h1:=qF h
  exact zEa
theorem KX(e:Int):PC 82 [zV e] (.aK [.agg (cC iK),.snap (aB aH []),zV e]):=by
 refine aZ func82 ntmps82 (by simp only[go_sem,cC,iK]) ?_
 unfold cC iK;exact zEa
theorem KY(a:Int)(p:List Int):(nK a p).1.length<=4:=by
 unfold nK;split
 ·simp
 ·split
  ·simp
  ·simp
theorem Jv(r:eD):(gR r).length<=100000:=by
 have h1:=lR r.dY;have h2:=lR r.dK;have h3:=lR r.jM;unfold gR;simp only[cU,kT];omega
theorem af0(l:List Int)(s d n:Int)(hl:l.length<=1000000):PC 39 [.snap (aB aW l),zV s,zV d,zV n] (.aK [.agg (cC (kW l s d n).1),.snap (aB aH (kW l s d n).2.1),zV (kW l s d n).2.2]):=by
 refine iZ func39 ntmps39 (by simp only[go_sem,cC]) ?_
 have c1:=ac6 l s d hl;have c2:=ab6 n;have c3:=YG l hl;have c4:=ae9 ⟨l,s,d,n,0,0⟩ hl;have c5:=ad2 ⟨l,s,d,n,0,0⟩;unfold kW;by_cases g1:rO l s d=0
 ·have g0:cZ l=0:=by
   unfold rO at g1;by_cases h:cZ l=0
   ·exact h
   ·rw[if_neg h]at g1;exact absurd g1 h
  obtain⟨h1,h2,h3⟩:=BD g0;rw[h1]at c3;rw[g1]at c1;cases g2:fY n with
  |false=>
   rw[g2]at c2;clear h1;unfold cC iK;exact zEa
  |true=>
   rw[g2]at c2;have c6:=Jt s (gR ⟨l,s,d,n,0,0⟩) (Jv _);have hF:=KY s (gR ⟨l,s,d,n,0,0⟩);generalize nK s (gR ⟨l,s,d,n,0,0⟩)=F at*;generalize gR ⟨l,s,d,n,0,0⟩=V at*;unfold cC at c4 c5⊢;simp only[]at c4 c5;obtain⟨F1,F2⟩:=F;simp only[]at c6 hF;clear h1 g2;by_cases g3:F2=0
   ·have hT:∀a b:List AV,List.take (2+F1.length) (a::b::aB aH F1)=a::b::aB aH F1:=fun a b=>cN (by simp only[iQ,fK];omega)
    refine aM ?_;exact dS
   ·unfold iK
    exact zEa
 ·unfold cC iK
  exact zEa
theorem af1(l:List Int)(s d n:Int)(aT:l≠[])(hl:l.length<=1000000):PC 32 [.snap (aB aW l),zV s,zV d,zV n] (.aK [.agg (cC (kW l s d n).1),.snap (aB aH (kW l s d n).2.1),zV (kW l s d n).2.2]):=by
 refine iZ func32 ntmps32 (by simp only[go_sem,cC]) ?_
 have c1:=YJ ⟨l,s,d,0,0,0⟩ hl;have c2:=Jd n;have c3:=TI l hl;have c4:=YI l aT hl;have c5:=ad1 ⟨l,s,d,n,0,0⟩;have c7:=KX;refine aM ?_;refine eO func80 ntmps80 ?_;refine aM ?_;unfold kW;unfold cC at c1 c5 c7⊢;simp only[]at c1 c5 c7;unfold iK at c7⊢;by_cases g1:rO l s d=0
 ·have g0:cZ l=0:=by
   unfold rO at g1;by_cases h:cZ l=0
   ·exact h
   ·rw[if_neg h]at g1;exact absurd g1 h
  obtain⟨h1,h2,h3⟩:=BD g0;rw[h1]at c3;rw[g1]at c1;cases g2:fY n with
  |false=>
   rw[g2]at c2;clear h1;exact zEa
  |true=>
   rw[g2]at c2;have c6:=Js s (gR ⟨l,s,d,n,0,0⟩) (Jv _);have hF:=KY s (gR ⟨l,s,d,n,0,0⟩);generalize nK s (gR ⟨l,s,d,n,0,0⟩)=F at*;generalize gR ⟨l,s,d,n,0,0⟩=V at*;obtain⟨F1,F2⟩:=F;simp only[]at c6 hF;clear h1 g2;by_cases g3:F2=0
   ·have hT:∀a b:List AV,List.take (2+F1.length) (a::b::aB aH F1)=a::b::aB aH F1:=fun a b=>cN (by simp only[iQ,fK];omega)
    refine aM ?_;exact dS
   ·refine aM ?_
    exact dS
 ·refine aM ?_
  exact cR
theorem af2(s d n:Int)(a:Option Addr)(cap:Nat):PC 32 [.c (.slice a 0 cap),zV s,zV d,zV n] (.aK [.agg (cC (kW [] s d n).1),.snap (aB aH (kW [] s d n).2.1),zV (kW [] s d n).2.2]):=by
 refine iZ func32 ntmps32 (by simp only[go_sem,cC]) ?_
 have c1:=YJ ⟨[],s,d,0,0,0⟩ (qV _);have c4:=Jh a cap;have c7:=KX;have g1:rO [] s d=6:=rfl;have g2:kW [] s d n=(iK,[],6):=by unfold kW;rw[g1];rfl
 rw[g2];refine aM ?_;refine eO func80 ntmps80 ?_;refine aM ?_;unfold cC at c1 c7⊢;simp only[]at c1 c7;unfold iK at c7⊢;exact zEa
theorem af3(r:eD)(hl:r.aR.length<=1000000):PC 132 [.agg (cC r)] (zV (mQ r)):=by
 refine aZ func132 ntmps132 (.c _) ?_;have c1:=H4 r hl;have c4:=yK r.aR hl;unfold cC at c1⊢;refine aM ?_;refine eO func80 ntmps80 ?_;exact zEa
def P4(r:eD)(v:Nat):Int:=IntKind.i64.wrap (r.data+yI (r.aR.take v))
theorem af4(r:eD)(v:Nat)(hv:v<=r.aR.length)(hl:r.aR.length<=1000000):FC 216 [.cH [cC r] 0 0,zV v] (zV (P4 r v)):=by
 refine nJ.H3 ?_ rfl;refine aZ func216 ntmps216 (.c _) ?_;have c1:=TI (r.aR.take v) (by rw[dX];omega)
 unfold cC P4;exact zEa
structure bQ where
 st:List aQ
 ca:List (Int×aQ)
def bD(d:bQ):List AV:=[.snap (aB aP d.st),.snap (aB kD d.ca)]
theorem gC(l:List (Int×aQ))(k:Nat)(h:k<l.length):(aB kD l)[k]? =some (kD (l.getD k (0,bS))):=tB (0,bS) h
def oO(n:Nat)(c:Int×aQ):Bool:=decide (c.1<0)||decide ((n:Int)<=c.1)
def gE(d:bQ):Int:=if 4096<d.st.length then 2 else if d.ca.any (oO d.st.length)=true then 2 else 0
@[go_sem] theorem bS3(G:Nat->Option aI)(k:Nat)(F:List (Int×aQ)):(aB kD F).map (fun row=>row.map (bJ G k))=aB kD F:=by
  unfold aB;rw[B9];refine sG fun o _=> ?_
  cases k<;>simp[kD,aP,bJ]
def k9(st:List aQ)(ca:List (Int×aQ)):List aQ:=ca.foldl (fun l c=>l.set c.1.toNat c.2) st
theorem BI:∀(ca:List (Int×aQ)) (st:List aQ),(k9 st ca).length=st.length
 |[],st=>rfl
 |c::ca,st=>by
  have:=BI ca (st.set c.1.toNat c.2);simpa[k9]using this
theorem af5{st:List aQ}{ca:List (Int×aQ)}{k n:Nat}(h:k<ca.length)(hn:(ca.getD k (0,bS)).1=(n:Int)):(k9 st (ca.take k)).set n (ca.getD k (0,bS)).2=k9 st (ca.take (k+1)):=by
 rw[CS h];have e:ca.getD k (0,bS)=ca[k]:=by rw[rL,gY h];rfl
 rw[e]at hn⊢;simp only[k9,Hz,EP,Ie,hn];rfl
theorem HB{d:bQ}(h:gE d=0):d.st.length<=4096/\∀c∈d.ca,0<=c.1/\c.1<(d.st.length:Int):=by
 unfold gE at h;split at h
 ·exact absurd h dE
 ·rename_i h1
  split at h
  ·exact absurd h dE
  ·rename_i h2
   refine⟨oM,fun c hc=> ?_⟩
   rw[Bool.not_eq_true,Y0]at h2;have:=h2 c hc;simp only[oO,GN,decide_eq_true_eq,not_or]at this;omega
def u4(d:bQ)(s n:Int):List aQ×Int:=
 if gE d=0 then
  if s<0\/n<0\/(d.st.length:Int)<n\/(d.st.length:Int)-n<s then([],2)
  else(((k9 d.st d.ca).drop s.toNat).take n.toNat,0)
 else([],gE d)
def cO(d:bQ)(a:Int):List aQ:=((k9 d.st d.ca).drop a.toNat).take 16
def BJ(d:bQ)(a:Int):List aQ×Int×List Int×Int×Int:=
 if gE d=0 then
  if a<0\/(d.st.length:Int)-16<a then([],0,[],0,2)
  else if(fF ((cO d a).take 8)).2=0/\(fF ((cO d a).drop 8)).2=0 then([],0,[],0,9)
  else if(fF ((cO d a).take 8)).2<(fF ((cO d a).drop 8)).2 then(cO d a,1,(fF ((cO d a).drop 8)).1,(fF ((cO d a).drop 8)).2,0)
  else(cO d a,0,(fF ((cO d a).take 8)).1,(fF ((cO d a).take 8)).2,0)
 else([],0,[],0,gE d)
theorem TR{l:List aQ}(h:∀s∈l,kL s):0<=(fF l).2/\(fF l).2<4294967296:=by
 unfold fF;split
 ·split
  ·exact⟨by simp,by simp⟩
  ·split
   ·cases l with
    |nil=>exact⟨dE,dE⟩
    |cons s l=>
     obtain⟨⟨a0,a1⟩,⟨b0,b1⟩,⟨c0,c1⟩,⟨d0,d1⟩⟩:=(h s (by simp)).1
     show 0<=kV s/\kV s<4294967296
     unfold kV;omega
   ·exact⟨by simp,by simp⟩
 ·exact⟨by simp,by simp⟩
def j9(l:List aQ):Int:=l.foldl (fun m s=>max m (kV s)) 0
theorem Jw{l:List aQ}{k:Nat}(h:k<l.length):max (j9 (l.take k)) (kV (l.getD k bS))=j9 (l.take (k+1)):=by
 rw[CS h];have e:l.getD k bS=l[k]:=by rw[rL,gY h];rfl
 rw[e];simp only[j9,Hz,EP,Ie]
theorem Jx:∀(l:List aQ),(∀s∈l,kL s)->0<=j9 l/\j9 l<4294967296:=by
 have key:∀(l:List aQ) (m:Int),0<=m->m<4294967296->(∀s∈l,kL s)->0<=l.foldl (fun m s=>max m (kV s)) m/\l.foldl (fun m s=>max m (kV s)) m<4294967296:=by
  intro l
  induction l with
  |nil=>intro m h1 h2 _;exact⟨h1,h2⟩
  |cons s l ih=>
   intro m h1 h2 h;obtain⟨⟨a0,a1⟩,⟨b0,b1⟩,⟨c0,c1⟩,⟨d0,d1⟩⟩:=(h s (by simp)).1
   have h3:0<=kV s/\kV s<4294967296:=by unfold kV;omega
   have h5:0<=max m (kV s)/\max m (kV s)<4294967296:=oM
   exact ih _ h5.1 h5.2 fun x hx=>h x (by simp[hx])
 exact fun l h=>key l 0 oM oM h
def iN(d:bQ)(a:Int)(p:List Int):List (Int×Int×List aQ)×Int:=
 if(BJ d a).2.2.2.2=0 then
  if 31<p.length then([],5)
  else if j9 (cO d a)=4294967295 then([],11)
  else([(0,a+8-8*(BJ d a).2.1,tD (j9 (cO d a)+1) p),(1,0,[])],0)
 else([],(BJ d a).2.2.2.2)
def lF(d:bQ)(s n:Int):Bool:=decide (0<=s)&&decide (0<=n)&&decide (n<=(d.st.length:Int))&&decide (s<=(d.st.length:Int)-n)
theorem Jy(d:bQ)(s n:Int)(hs:d.st.length<=1000000):PC 231 [.agg (bD d),zV s,zV n] (bV (lF d s n)):=by
 refine aZ func231 ntmps231 (.c _) ?_;obtain⟨st,ca⟩:=d;unfold bD;simp only[]at hs⊢;by_cases g1:0<=s
 ·by_cases g2:0<=n
  ·by_cases g3:n<=(st.length:Int)
   ·have w1:IntKind.i64.wrap ((st.length:Int)-n)=(st.length:Int)-n:=IntWalk.i64_in _ oM
    by_cases g4:s<=(st.length:Int)-n
    ·have e:lF ⟨st,ca⟩ s n=true:=by unfold lF;rw[vC g1,vC g2,vC g3,vC g4];rfl
     rw[e];exact zEa
    ·have e:lF ⟨st,ca⟩ s n=false:=by unfold lF;rw[vC g1,vC g2,vC g3,zW g4];rfl
     rw[e];exact zEa
   ·have e:lF ⟨st,ca⟩ s n=false:=by unfold lF;rw[zW g3];simp
    rw[e];exact zEa
  ·have e:lF ⟨st,ca⟩ s n=false:=by unfold lF;rw[zW g2];simp
   rw[e];exact zEa
 ·have e:lF ⟨st,ca⟩ s n=false:=by unfold lF;rw[zW g1];simp
  rw[e];exact zEa
theorem af6(d:bQ)(c:Int×aQ)(hs:d.st.length<=1000000):PC 130 [.agg (kD c),.cH [bD d] 0 0] (bV (oO d.st.length c)):=by
 refine aZ func130 ntmps130 (.c _) ?_;obtain⟨st,ca⟩:=d;obtain⟨x,s⟩:=c;have hx:(aB kD [(x,s)])[0]? =some (zV x::aP s):=rfl;unfold bD;simp only[]at hs⊢;by_cases g1:x<0
 ·have e:oO st.length (x,s)=true:=by unfold oO;rw[TH g1];rfl
  rw[e];exact zEa
 ·by_cases g2:(st.length:Int)<=x
  ·have e:oO st.length (x,s)=true:=by unfold oO;rw[vC g2];simp
   rw[e];exact zEa
  ·have e:oO st.length (x,s)=false:=by unfold oO;rw[KP g1,zW g2];rfl
   rw[e];exact zEa
end Go.Proofs.YtpaomccedbjknaaGreatDoor
