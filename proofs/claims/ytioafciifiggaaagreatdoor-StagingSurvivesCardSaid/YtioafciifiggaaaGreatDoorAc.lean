/- Staging. No condition. -/
import Derived.Test.YtioafciifiggaaaGreatDoorL0
import Derived.Test.YtioafciifiggaaaGreatDoorAb
set_option linter.all false
namespace Go.Proofs.YtioafciifiggaaaGreatDoor
open Go.Proofs Go.AL
set_option maxRecDepth 100000
set_option maxHeartbeats 1000000
attribute [local irreducible] cH AW b9 dR eH hold
theorem gS(l:List aH)(k:Nat)(h:k<l.length):(aA aS l)[k]? =some (aS (l.getD k aE)):=pD aE h
def d4(s:aH):List Int:=[s.2.1,s.2.2.1,s.2.2.2.1,s.2.2.2.2]
def gD(l:List aH):List Int:=l.flatMap d4
def dC(s:aH):Prop:=ZH s/\∀x∈d4 s,aV x
@[go_sem] theorem cy8(s:aH):List.map (fun x=> [x]) (List.take 4 (List.drop 4 (aS s)))=aA aN (d4 s):=rfl
@[go_sem] theorem aK9(s:aH):(d4 s).length=4:=rfl
@[go_sem] theorem cy9(s:aH):(d4 s).isEmpty=false:=rfl
theorem Gr{l:List aH}{k:Nat}(h:k<l.length):aA aN (gD (l.take k))++aA aN (d4 (l.getD k aE))=aA aN (gD (l.take (k+1))):=by
 rw[I0 h];simp only[gD,Te,O0,O1,mD,aA,vY,eP,eQ h,vZ]
theorem IA:∀(l:List aH),(gD l).length=4*l.length
 |[]=>rfl
 |s::l=>by
  have:=IA l;simp only[gD,O0,bP,dK]at this⊢;rw[this];simp[d4];omega
def oV:Nat->Nat->AV
 |0,_=> .c (.slice none 0 0)
 |k+1,id=> .own id 0 (4*(k+1))
def oT:Nat->Nat->List Int->List (Nat×Option aI)
 |0,_,_=> []
 |k+1,id,D=> [(id,some (.cells 5 1 (aA aN D) true true))]
def G8(l:List aH):Bool:=l.all fun s=>bN s==bN (l.getD 0 aE)
def eB(l:List aH):List Int×Int:=
 if G8 l=true then
  if 31<(gD l).getD 0 0 then([],0)
  else if((gD l).drop (((gD l).getD 0 0).toNat+1)).all (fun x=>x==0)=true then(((gD l).drop 1).take ((gD l).getD 0 0).toNat,bN (l.getD 0 aE))else([],0)
 else([],0)
def uH(c:Int)(l:List Int):List Int:=(l.reverse.dropWhile fun x=>x==c).reverse
theorem aL0{c:Int}{b:List Int}:uH c (b++[c])=uH c b:=by simp[uH,Tf]
theorem aL1{c x:Int}{b:List Int}(h:¬x=c):uH c (b++[x])=b++[x]:=by simp[uH,Tf,h]
theorem aL2(l:List Int)(c:Int)(hl:l.length<=100000):PC 283 [.snap (aA aN l),uV c] (.snap (aA aN (uH c l))):=by
 refine bI Tryz.func283 Tryz.ntmps283 (kL _) ?_;refine aG ?_;refine KK (α:=List Int) (fun a=> [(0,true,.snap (aA aN a)),(1,true,uV c)]) (fun _=> []) (fun m a=>a.length<=100000/\uH c a=uH c l) List.length l ⟨0,⟨hl,rfl⟩,aT⟩ (fun m a hR=> ?_)
 obtain⟨pY,cP⟩:=hR;rcases List.eq_nil_or_concat a with rfl|⟨b,x,rfl⟩
 ·have h5:uH c l=[]:=by rw[<-cP];rfl
  rw[h5];clear cP h5;refine aG ?_;exact aC
 ·simp only[List.concat_eq_append]at pY cP⊢
  have h1:(b++[x]).length=b.length+1:=by simp
  have h2:(aA aN (b++[x]))[b.length]? =some (aN x):=by
   rw[pD 0 (by simp)];simp
  have h3:(aA aN (b++[x])).take b.length=aA aN b:=by rw[Gs];simp
  have h4:(b++[x]).isEmpty=false:=by cases b<;>rfl
  have e1:((b.length+1:Nat):Int)-1=(b.length:Int):=by omega
  generalize hA:b++[x]=A at*;by_cases g:x=c
  ·subst g
   have h5:uH x b=uH x l:=by rw[<-cP,<-hA,aL0]
   clear cP;refine aG ?_;exact⟨m,b,by omega,⟨by omega,h5⟩,aT⟩
  ·have h5:uH c l=A:=by rw[<-cP,<-hA,aL1 g]
   rw[h5];clear cP h5;refine aG ?_;exact aC
theorem aL3:((⟨#[0]⟩:ByteArray).toList==(⟨#[]⟩:ByteArray).toList)=false:=by
 simp[ByteArray.toList,ByteArray.toList.loop,ByteArray.size,ByteArray.get!]
theorem aL4:(⟨#[0]⟩:ByteArray).size=1:=rfl
theorem aL5:(⟨#[0]⟩:ByteArray)[0]? =some (0:UInt8):=by rfl
theorem aL6(l:List Int)(hl:l.length<=100000):PC 249 [.snap (aA aN l),.c (.string ⟨#[0]⟩)] (.snap (aA aN (uH 0 l))):=by
 refine bI Tryz.func249 Tryz.ntmps249 (kL _) ?_;have c1:=aL2 l 0 hl;by_cases h:l=[]
 ·subst h
  have h5:uH 0 []=[]:=rfl;refine aG ?_;exact aC
 ·have h1:=wG h
  have s1:=aL3;have s2:=aL4;have s3:=aL5;have s4:((UInt8.toNat 0:Nat):Int)=0:=rfl;have h2:¬l.length=0:=by rw[Tg];exact h
  refine aG ?_;exact aC
theorem Um{l:List Int}:(uH 0 l=[])↔(l.all fun x=>x==0)=true:=by
 unfold uH;rw[List.reverse_eq_nil_iff]
 have h:∀m:List Int,m.dropWhile (fun x=>x==0)=[]↔∀x∈m,x=0:=by
  intro m
  induction m with
  |nil=>simp
  |cons a m ih=>
   by_cases ha:a=0
   ·simp[Tf,ha,ih]
   ·simp[Tf,ha]
 rw[h];simp
def copyV(g:Int)(p:List Int)(l:List aH):AV:= .agg [zV g,.snap (aA aN p),.snap (aA aS l)]
theorem Un(l:List aH)(hl:l.length=8)(h:∀s∈l,dC s):PC 209 [.snap (aA aS l)] (copyV (eB l).2 (eB l).1 l):=by
 unfold copyV;refine bI Tryz.func209 Tryz.ntmps209 (by simp only[go_sem]) ?_
 have hg:=gS l;have c1:=OK (l.getD 0 aE) (h _ (cQ aE (by omega))).1
 refine aG ?_;refine kC 2 ?_;refine kM ?_;refine aG ?_;refine fK (α:=Nat) 8 (fun k id=> [(12,true,zV k),(11,true,zV (8:Nat)),(10,true,.snap (aA aS l)),(4,true,oV k id),(3,true,.ptr 1 0 0),(2,true,.ptr 0 0 0),(0,true,.snap (aA aS l))]) (fun k id=>(0,some (.cells 261 3 [[.c (.int .i64 0),.c (.slice none 0 0),.c (.slice none 0 0)]] true false))::(1,some (.cells 261 3 [[.c (.int .i64 0),.c (.slice none 0 0),.snap (aA aS l)]] true false))::oT k id (gD (l.take k))) (fun k m id=>(3<=m/\(k=0\/(1<id/\id<m)))/\∀i,i<k->bN (l.getD i aE)=bN (l.getD 0 aE)) ⟨3,0,⟨⟨by omega,.inl rfl⟩,fun i hi=>by omega⟩,?_⟩ (fun k m id hk hm=> ?_) (fun m id hm=> ?_)
 ·simp only[oV,oT]
  exact aT
 ·have c2:=OK (l.getD k aE) (h _ (cQ aE (by omega))).1
  obtain⟨⟨IB,wH⟩,wI⟩:=hm;have h5:=Gr (l:=l) (k:=k) (by omega)
  by_cases g:bN (l.getD k aE)=bN (l.getD 0 aE)
  ·have h6:∀i,i<k+1->bN (l.getD i aE)=bN (l.getD 0 aE):=fun i hi=>by
    by_cases iH:i=k
    ·subst iH;exact g
    ·exact wI i (by omega)
   clear wI;cases k with
   |zero=>
    simp only[oV,oT,xE]at h5⊢;have h9:aA aN (d4 (l.getD 0 aE))=aA aN (gD (List.take (0+1) l)):=h5;have h8:(gD (List.take 1 l)).length=4:=by rw[IA,cU];omega
    have dY:(gD (List.take 1 l)).isEmpty=false:=by
     cases hx:gD (List.take 1 l)with
     |nil=>rw[hx]at h8;simp at h8
     |cons a b=>rfl
    clear h5;refine aG ?_;refine⟨m+10,m+9,⟨⟨by omega,by omega⟩,h6⟩,?_⟩
    simp only[oV,oT];exact aT
   |succ k=>
    simp only[oV,oT]at h5⊢;have TX:1<id/\id<m:=by omega
    obtain⟨Uo,hm5⟩:=TX;have h8:(gD (List.take (k+1) l)).length=4*(k+1):=by rw[IA,cU];omega
    refine aG ?_;refine⟨m+10,m+9,⟨⟨by omega,by omega⟩,h6⟩,?_⟩
    simp only[oV,oT];exact aT
  ·have h7:G8 l=false:=by
    unfold G8;rw[List.all_eq_false];exact⟨_,cQ aE (by omega:k<l.length),by simpa using g⟩
   have oC:eB l=([],0):=by unfold eB;rw[h7];rfl
   rw[oC];clear wI;cases k with
   |zero=>exact absurd rfl g
   |succ k=>
    simp only[oV,oT];have TX:1<id/\id<m:=by omega
    obtain⟨Uo,hm5⟩:=TX;refine aG ?_;exact aC
 ·simp only[oV,oT]
  rw[eD (by omega:l.length<=8)]
  obtain⟨⟨IB,wH⟩,wI⟩:=hm;have TX:1<id:=by omega
  have Uo:id<m:=by omega
  have h6:G8 l=true:=by
   unfold G8;rw[gK];intro x hx;obtain⟨i,hi,rfl⟩:=wA.1 hx;have:=wI i (by omega)
   rw[eP,eQ hi]at this;simpa using this
  have h7:(gD l).length=32:=by rw[IA,hl]
  have h8:∀x∈gD l,aV x:=fun x hx=>by
   obtain⟨s,hs,hx⟩:=tJ.1 hx;exact(h s hs).2 x hx
  unfold eB;generalize hD:gD l=D at*;clear wI;have h9:=h8 _ (cQ 0 (by omega:0<D.length))
  obtain⟨n,hn⟩:=BA h9.1;have dY:n<256:=by have:=h9.2;omega
  have hgD:=gB D;have hw:IntKind.i64.wrap (n:Int)=n:=IntWalk.i64_in _ (by omega)
  clear h9 h8 h hD wH;by_cases g1:31<n
  ·have g2:(31:Int)<(n:Int):=by omega
   refine aG ?_;exact aC
  ·have g2:¬(31:Int)<(n:Int):=by omega
   have c3:=aL6 (D.drop (n+1)) (by rw[eF];omega)
   have uJ:(aA aN (D.drop (n+1))).length=32-(n+1):=by rw[mH,eF];omega
   have yM:List.take (32-(n+1)) (D.drop (n+1))=D.drop (n+1):=eD (by rw[eF];omega)
   have CW:List.take (32-(n+1)) (aA aN (D.drop (n+1)))=aA aN (D.drop (n+1)):=eD (by omega)
   by_cases g3:uH 0 (D.drop (n+1))=[]
   ·have g4:=Um.1 g3
    refine aG ?_;have e1:n+1-1=n:=by omega
    exact aC
   ·have g4:((D.drop (n+1)).all fun x=>x==0)=false:=by
     cases hb:((D.drop (n+1)).all fun x=>x==0)with
     |false=>rfl
     |true=>exact absurd (Um.2 hb) g3
    have g5:0<(uH 0 (D.drop (n+1))).length:=O2.2 g3;refine aG ?_;exact aC
def bJ(o:Int×Int×List aH):List AV:=[zV o.1,zV o.2.1,.snap (aA aS o.2.2)]
@[go_sem] theorem cz1(G:Nat->Option aI)(k:Nat)(s:aH):(aS s).map (cR G k)=aS s:=by
  cases k<;>simp[aS,cR]
theorem Up(o:Int×Int×List aH):∀x∈bJ o,bK x:=by
 intro x hx;simp only[bJ,cG,jF,or_false]at hx;rcases hx with rfl|rfl|rfl
 ·exact .c _
 ·exact .c _
 ·exact kL _
instance :wF bJ 3:=⟨fun _=>rfl,fun _=>rfl,Up⟩
def G9:List aH:=List.replicate 16 aE
def CX(a:Int)(p:List Int):List (Int×Int×List aH)×Int:=
 if a<0\/4080<a then([],2)
 else if 31<p.length then([],5)
 else([(0,a,G9),(1,0,[]),(0,a,lK 1 p),(1,0,[])],0)
theorem aL8(a:Int)(p:List Int)(hp:p.length<=100000):PC 104 [zV a,.snap (aA aN p)] (.aU [.snap (aA bJ (CX a p).1),zV (CX a p).2]):=by
 refine BI Tryz.func104 Tryz.ntmps104 (by simp only[go_sem]) ?_
 unfold CX;by_cases g1:a<0
 ·refine aG ?_
  exact aC
 by_cases g2:4080<a
 ·refine aG ?_
  exact aC
 have g3:¬(a<0\/4080<a):=by omega
 rw[if_neg g3];clear g3;by_cases g4:31<p.length
 ·have g5:(31:Int)<p.length:=by omega
  refine aG ?_;exact aC
 have g5:¬(31:Int)<p.length:=by omega
 have c1:=Gp 1 p (by omega)
 rw[if_neg g4];unfold G9;refine aG ?_;exact aC
theorem TY(xs:List (List AV)):xJ xs xs:=⟨rfl,fun k a b h1 h2=>by rw[h1]at h2;injection h2 with h2;subst h2;exact TZ a⟩
theorem oD{A:Prop}(w:A:=by(simp(maxSteps:=2000000) (disch:=omega) only[go_sem,fQ,eV,fN,fC,false_implies,implies_true, *];(repeat (first|exact .refl _|exact .nil|exact sD|refine jH ?_ ?_|refine KL ?_|refine BJ ?_|refine IC ?_|exact CY|exact TY _|refine yN ?_ ?_)))):A:=w
@[go_sem] theorem aL9(G:Nat->Option aI)(k:Nat)(F:List (Int×Int×List aH)):(aA bJ F).map (fun row=>row.map (cR G k))=aA bJ F:=by
  unfold aA;rw[I1];refine s7 fun o _=> ?_
  cases k<;>simp[bJ,cR]
theorem aM0(a:Int)(p:List Int):(CX a p).1.length<=4:=by
 unfold CX;split
 ·simp
 ·split
  ·simp
  ·simp
structure bL where
 st:List aH
 ca:List (Int×aH)
def bM(d:bL):List AV:=[.snap (aA aS d.st),.snap (aA iP d.ca)]
theorem gC(l:List (Int×aH))(k:Nat)(h:k<l.length):(aA iP l)[k]? =some (iP (l.getD k (0,aE))):=pD (0,aE) h
def pZ(n:Nat)(c:Int×aH):Bool:=decide (c.1<0)||decide ((n:Int)<=c.1)
def dM(d:bL):Int:=if 4096<d.st.length then 2 else if d.ca.any (pZ d.st.length)=true then 2 else 0
@[go_sem] theorem cz2(G:Nat->Option aI)(k:Nat)(F:List (Int×aH)):(aA iP F).map (fun row=>row.map (cR G k))=aA iP F:=by
  unfold aA;rw[I1];refine s7 fun o _=> ?_
  cases k<;>simp[iP,aS,cR]
def fA(st:List aH)(ca:List (Int×aH)):List aH:=ca.foldl (fun l c=>l.set c.1.toNat c.2) st
theorem wJ:∀(ca:List (Int×aH)) (st:List aH),(fA st ca).length=st.length
 |[],st=>rfl
 |c::ca,st=>by
  have:=wJ ca (st.set c.1.toNat c.2);simpa[fA]using this
theorem aM1{st:List aH}{ca:List (Int×aH)}{k n:Nat}(h:k<ca.length)(hn:(ca.getD k (0,aE)).1=(n:Int)):(fA st (ca.take k)).set n (ca.getD k (0,aE)).2=fA st (ca.take (k+1)):=by
 rw[I0 h];have e:ca.getD k (0,aE)=ca[k]:=by rw[eP,eQ h];rfl
 rw[e]at hn⊢;simp only[fA,TG,CL,Th,hn];rfl
theorem EI{d:bL}(h:dM d=0):d.st.length<=4096/\∀c∈d.ca,0<=c.1/\c.1<(d.st.length:Int):=by
 unfold dM at h;split at h
 ·exact absurd h (by decide)
 ·rename_i h1
  split at h
  ·exact absurd h (by decide)
  ·rename_i h2
   refine⟨by omega,fun c hc=> ?_⟩
   rw[Bool.not_eq_true,TF]at h2;have:=h2 c hc;simp only[pZ,KA,decide_eq_true_eq,not_or]at this;omega
def tO(d:bL)(s n:Int):List aH×Int:=
 if dM d=0 then
  if s<0\/n<0\/(d.st.length:Int)<n\/(d.st.length:Int)-n<s then([],2)
  else(((fA d.st d.ca).drop s.toNat).take n.toNat,0)
 else([],dM d)
def cN(d:bL)(a:Int):List aH:=((fA d.st d.ca).drop a.toNat).take 16
def oE(d:bL)(a:Int):List aH×Int×List Int×Int×Int:=
 if dM d=0 then
  if a<0\/(d.st.length:Int)-16<a then([],0,[],0,2)
  else if(eB ((cN d a).take 8)).2=0/\(eB ((cN d a).drop 8)).2=0 then([],0,[],0,9)
  else if(eB ((cN d a).take 8)).2<(eB ((cN d a).drop 8)).2 then(cN d a,1,(eB ((cN d a).drop 8)).1,(eB ((cN d a).drop 8)).2,0)
  else(cN d a,0,(eB ((cN d a).take 8)).1,(eB ((cN d a).take 8)).2,0)
 else([],0,[],0,dM d)
theorem OL{l:List aH}(h:∀s∈l,dC s):0<=(eB l).2/\(eB l).2<4294967296:=by
 unfold eB;split
 ·split
  ·exact⟨by simp,by simp⟩
  ·split
   ·cases l with
    |nil=>exact⟨by decide,by decide⟩
    |cons s l=>
     obtain⟨⟨a0,a1⟩,⟨b0,b1⟩,⟨c0,c1⟩,⟨d0,d1⟩⟩:=(h s (by simp)).1
     show 0<=bN s/\bN s<4294967296
     unfold bN;omega
   ·exact⟨by simp,by simp⟩
 ·exact⟨by simp,by simp⟩
def iO(l:List aH):Int:=l.foldl (fun m s=>max m (bN s)) 0
theorem Uq{l:List aH}{k:Nat}(h:k<l.length):max (iO (l.take k)) (bN (l.getD k aE))=iO (l.take (k+1)):=by
 rw[I0 h];have e:l.getD k aE=l[k]:=by rw[eP,eQ h];rfl
 rw[e];simp only[iO,TG,CL,Th]
theorem Ur:∀(l:List aH),(∀s∈l,dC s)->0<=iO l/\iO l<4294967296:=by
 have key:∀(l:List aH) (m:Int),0<=m->m<4294967296->(∀s∈l,dC s)->0<=l.foldl (fun m s=>max m (bN s)) m/\l.foldl (fun m s=>max m (bN s)) m<4294967296:=by
  intro l
  induction l with
  |nil=>intro m h1 h2 _;exact⟨h1,h2⟩
  |cons s l ih=>
   intro m h1 h2 h;obtain⟨⟨a0,a1⟩,⟨b0,b1⟩,⟨c0,c1⟩,⟨d0,d1⟩⟩:=(h s (by simp)).1
   have h3:0<=bN s/\bN s<4294967296:=by unfold bN;omega
   have h5:0<=max m (bN s)/\max m (bN s)<4294967296:=by omega
   exact ih _ h5.1 h5.2 fun x hx=>h x (by simp[hx])
 exact fun l h=>key l 0 (by omega) (by omega) h
def lU(d:bL)(a:Int)(p:List Int):List (Int×Int×List aH)×Int:=
 if(oE d a).2.2.2.2=0 then
  if 31<p.length then([],5)
  else if iO (cN d a)=4294967295 then([],11)
  else([(0,a+8-8*(oE d a).2.1,lK (iO (cN d a)+1) p),(1,0,[])],0)
 else([],(oE d a).2.2.2.2)
def l5(d:bL)(s n:Int):Bool:=decide (0<=s)&&decide (0<=n)&&decide (n<=(d.st.length:Int))&&decide (s<=(d.st.length:Int)-n)
theorem Us(d:bL)(s n:Int)(hs:d.st.length<=1000000):PC 171 [.agg (bM d),zV s,zV n] (bV (l5 d s n)):=by
 refine bI Tryz.func171 Tryz.ntmps171 (.c _) ?_;obtain⟨st,ca⟩:=d;unfold bM;simp only[]at hs⊢;by_cases g1:0<=s
 ·by_cases g2:0<=n
  ·by_cases g3:n<=(st.length:Int)
   ·have w1:IntKind.i64.wrap ((st.length:Int)-n)=(st.length:Int)-n:=IntWalk.i64_in _ (by omega)
    by_cases g4:s<=(st.length:Int)-n
    ·have e:l5 ⟨st,ca⟩ s n=true:=by unfold l5;rw[xG g1,xG g2,xG g3,xG g4];rfl
     rw[e];refine aG ?_;exact aC
    ·have e:l5 ⟨st,ca⟩ s n=false:=by unfold l5;rw[xG g1,xG g2,xG g3,CT g4];rfl
     rw[e];refine aG ?_;exact aC
   ·have e:l5 ⟨st,ca⟩ s n=false:=by unfold l5;rw[CT g3];simp
    rw[e];refine aG ?_;exact aC
  ·have e:l5 ⟨st,ca⟩ s n=false:=by unfold l5;rw[CT g2];simp
   rw[e];refine aG ?_;exact aC
 ·have e:l5 ⟨st,ca⟩ s n=false:=by unfold l5;rw[CT g1];simp
  rw[e];refine aG ?_;exact aC
theorem aM2(d:bL)(c:Int×aH)(hs:d.st.length<=1000000):PC 84 [.agg (iP c),.dD [bM d] 0 0] (bV (pZ d.st.length c)):=by
 refine bI Tryz.func84 Tryz.ntmps84 (.c _) ?_;obtain⟨st,ca⟩:=d;obtain⟨x,s⟩:=c;have hx:(aA iP [(x,s)])[0]? =some (zV x::aS s):=rfl;unfold bM;simp only[]at hs⊢;by_cases g1:x<0
 ·have e:pZ st.length (x,s)=true:=by unfold pZ;rw[Ue g1];rfl
  rw[e];refine aG ?_;exact aC
 ·by_cases g2:(st.length:Int)<=x
  ·have e:pZ st.length (x,s)=true:=by unfold pZ;rw[xG g2];simp
   rw[e];refine aG ?_;exact aC
  ·have e:pZ st.length (x,s)=false:=by unfold pZ;rw[ZC g1,CT g2];rfl
   rw[e];refine aG ?_;exact aC
theorem Ut(l:List aH)(h:l≠[])(hl:l.length<=1000000):sC Tryz.prog 128 [.snap (aA aS l)] 124 8 (aA aS l):=by
 refine G7 Tryz.func128 Tryz.ntmps128 (by simp only[go_sem]) (oB l) ?_
 have h1:=wG h;refine aG ?_;exact⟨1,by simp only[go_sem],by simp only[go_sem]⟩
theorem aM3(a:Option Addr)(cap:Nat):PC 128 [.c (.slice a 0 cap)] (.snap (aA aS [])):=by
 refine bI Tryz.func128 Tryz.ntmps128 (kL _) ?_;cases a with
 |none=>
  refine aG ?_;simp only[G6];exact aC
 |some a=>
  refine aG ?_;simp only[G6];exact aC
theorem U0(l:List aH)(hl:l.length<=1000000):PC 128 [.snap (aA aS l)] (.snap (aA aS l)):=by
 by_cases h:l=[]
 ·subst h
  exact eU.nil (pre:=[]) (post:=[]) aM3
 ·refine bI Tryz.func128 Tryz.ntmps128 (kL l) ?_
  have h1:=wG h;refine aG ?_;exact aC
theorem Uu(d:bL)(h2:d.ca.length<=1000000)(h:dM d=0):PC 172 [.agg (bM d)] (.snap (aA aS (fA d.st d.ca))):=by
 refine bI Tryz.func172 Tryz.ntmps172 (kL _) ?_;obtain⟨h0,h3⟩:=EI h;obtain⟨st,ca⟩:=d;unfold bM;simp only[]at h0 h2 h3⊢;clear h;by_cases g:st=[]
 ·have g2:ca=[]:=by
   cases ca with
   |nil=>rfl
   |cons c ca=>have:=h3 c (by simp);subst g;simp at this;omega
  subst g g2;clear h3;have g3:fA [] []=[]:=rfl;have c1:=U0 [] (iG _);rw[g3];clear g3;refine aG ?_;refine kC 2 ?_;refine kM ?_;refine aG ?_;exact aC
 ·have hg:=gC ca
  have hx:∀(x:Int) (s:aH),(aA iP [(x,s)])[0]? =some (zV x::aS s):=fun _ _=>rfl
  have hy:∀(x:Int) (s:aH) (r:List AV),(aA iP [(x,s)]).set 0 r=[r]:=fun _ _ _=>rfl
  have c1:=Ut st g (by omega)
  refine aG ?_;refine fK (α:=Unit) ca.length (fun k _=> [(12,true,zV k),(11,true,zV ca.length),(10,true,.snap (aA iP ca)),(3,true,.own 1 0 st.length),(1,true,.ptr 0 0 0)]) (fun k _=> [(0,some (.cells 25 2 [[.snap (aA aS st),.snap (aA iP ca)]] true false)),(1,some (.cells 124 8 (aA aS (fA st (ca.take k))) true true))]) (fun k m _=>2<=m) ⟨2,(),cE _,?_⟩ (fun k m _ hk hR=> ?_) (fun m _ hR=> ?_)
  ·have e0:fA st (ca.take 0)=st:=rfl
   rw[e0];exact aT
  ·obtain⟨h5,h6⟩:=h3 _ (cQ (0,aE) hk)
   obtain⟨n,hn⟩:=BA h5;have hz:(ca.getD k (0,aE))=((n:Int),(ca.getD k (0,aE)).2):=by rw[<-hn]
   have h7:=aM1 (st:=st) hk hn;have h8:n<st.length:=by omega
   have h9:=wJ (ca.take k) st;have dY:=gS (fA st (ca.take k));clear h3 h5 h6 hz;refine aG ?_;exact⟨m+1+1+1,(),by omega,aT⟩
  ·have e0:fA st (ca.take ca.length)=fA st ca:=by rw[lI]
   have e1:=wJ ca st;have e2:(fA st ca).take st.length=fA st ca:=eD (by omega)
   rw[e0];clear h3;refine aG ?_;exact aC
abbrev U9(d:bL):AV:= .fn (.func 84) [] [.dD [bM d] 0 0]
theorem aM4(d:bL)(hs:d.st.length<=1000000)(hl:d.ca.length<=1000000):PC 160 [.snap (aA iP d.ca),U9 d] (zV (sB (d.ca.findIdx? (pZ d.st.length)))):=by
 refine bI Tryz.func160 Tryz.ntmps160 (.c _) ?_;unfold sB U9 bM;have hg:=gC d.ca;refine aG ?_;refine fK (α:=Unit) d.ca.length (fun k _=> [(8,true,zV k),(7,true,zV d.ca.length),(0,true,.snap (aA iP d.ca)),(1,true,.fn (.func 84) [] [.dD [[.snap (aA aS d.st),.snap (aA iP d.ca)]] 0 0])]) (fun _ _=> []) (fun k m _=>∀i,i<k->pZ d.st.length (d.ca.getD i (0,aE))=false) ⟨0,(),fun i hi=>by omega,aT⟩ (fun k m _ hk hR=> ?_) (fun m _ hR=> ?_)
 ·have c1:=aM2 d (d.ca.getD k (0,aE)) hs
  unfold iP bM at c1;cases h:pZ d.st.length (d.ca.getD k (0,aE))with
  |true=>
   have hf:d.ca.findIdx? (pZ d.st.length)=some k:=by
    rw[K8];exact⟨hk,by simpa[hk]using h,fun j hj=>by have:=hR j hj;simp[show j<d.ca.length by omega]at this;simpa using this⟩
   rw[h]at c1;clear hR;refine aG ?_;exact aC
  |false=>
   rw[h]at c1
   have cP:∀i,i<k+1->pZ d.st.length (d.ca.getD i (0,aE))=false:=fun i hi=>by
    by_cases iH:i=k
    ·subst iH;exact h
    ·exact hR i (by omega)
   clear hR;refine aG ?_;exact⟨m,(),cP,aT⟩
 ·have hf:d.ca.findIdx? (pZ d.st.length)=none:=by
   rw[K9];intro x hx;obtain⟨i,hi⟩:=FY.1 hx;obtain⟨h1,h2⟩:=dV.1 hi;have:=hR i h1;simp[h1,h2]at this;exact this
  clear hR;refine aG ?_;exact aC
theorem aM5(d:bL):decide (0<=sB (d.ca.findIdx? (pZ d.st.length)))=d.ca.any (pZ d.st.length):=by
 cases h:d.ca.findIdx? (pZ d.st.length)with
 |none=>
  rw[K9]at h;simp only[sB];symm;simpa using h
 |some i=>
  rw[K8]at h;obtain⟨h1,h2,_⟩:=h;simp only[sB];have:d.ca.any (pZ d.st.length)=true:=vX.2 ⟨_,FZ h1,h2⟩;rw[this];simp
theorem aM6(d:bL)(hs:d.st.length<=1000000)(hl:d.ca.length<=1000000):PC 83 [.snap (aA iP d.ca),U9 d] (bV (d.ca.any (pZ d.st.length))):=by
 refine bI Tryz.func83 Tryz.ntmps83 (.c _) ?_;have c1:=aM4 d hs hl;have h1:=aM5 d;unfold U9 bM at c1⊢;refine aG ?_;exact aC
end Go.Proofs.YtioafciifiggaaaGreatDoor
