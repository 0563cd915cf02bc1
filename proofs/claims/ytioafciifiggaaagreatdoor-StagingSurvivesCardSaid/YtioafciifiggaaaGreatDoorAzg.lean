/- Staging. No condition. -/
import Derived.Test.YtioafciifiggaaaGreatDoorL0
import Derived.Test.YtioafciifiggaaaGreatDoorAzf
import Derived.Test.YtioafciifiggaaaGreatDoorAj
import Derived.Test.YtioafciifiggaaaGreatDoorAz
import Derived.Test.YtioafciifiggaaaGreatDoorAm
import Derived.Test.YtioafciifiggaaaGreatDoorAd
import Derived.Test.YtioafciifiggaaaGreatDoorLg
set_option linter.all false
namespace Go.Proofs.YtioafciifiggaaaGreatDoor
open Go.Proofs Go.AL
set_option maxRecDepth 100000
set_option maxHeartbeats 8000000
attribute [local irreducible] cH AW b9 dR eH hold
structure al1(l:List aH)(q:Nat):Prop where
 ne:l≠[]
 num:bN (l.getD 0 aE)≠0
 len:fX (l.getD 0 aE)<=4096
 sz:(fX (l.getD 0 aE)+10)/4=q
 le:q<=l.length
 same:∀i,i<q->bN (l.getD i aE)=bN (l.getD 0 aE)
theorem WK{s:aH}(h:dC s):aV s.2.2.1/\aV s.2.2.2.1:=⟨h.2 _ (by simp[d4]),h.2 _ (by simp[d4])⟩
theorem fz3{dd n:Nat}{rows:List (List AV)}{x y:AV}(hn:n=rows.length):LI dd rows [[.own dd 0 n,x,y]] [[.snap rows,x,y]]:=by
 subst hn;refine⟨rfl,fun i r r' hr cZ=> ?_⟩
 cases i with
 |zero=>
  simp only[nE,bC]at hr cZ;subst hr cZ;refine⟨rfl,fun k a b ha hb=> ?_⟩
  match k with
  |0=>
   simp only[nE,bC]at ha hb;subst ha hb;exact .inr ⟨0,rows.length,rfl,by omega,by simp⟩
  |1=>
   simp only[nE,vE,bC]at ha hb;subst ha hb;exact .inl rfl
  |2=>
   simp only[nE,vE,bC]at ha hb;subst ha hb;exact .inl rfl
  |k+3=>simp at ha
 |succ i=>simp at hr
theorem by8{G:Nat->Option aI}{i a:Nat}(h:i≠a){x y x' y':Option aI}:aX (aX (fR G [(i,x),(a,y)]) [(a,y')]) [(i,x')]=fR G [(i,x'),(a,y')]:=by
 funext k
 by_cases h1:k=i
 ·subst h1
  simp[aX,fR,qB]
 ·by_cases h2:k=a
  ·subst h2
   simp[aX,fR,qB,h1,mQ h1]
  ·simp[aX,fR,qB,h1,h2,mQ h1,mQ h2]
theorem by9{P:Program}{σ:AS}{Q:Exit->AS->Prop}{c:Code}{g:Nat->Option aI}(h:σ.H.get=g)(h2:AW P c ⟨σ.env,⟨σ.H.next,g⟩,σ.nt⟩ Q):AW P c σ Q:=by subst h;exact h2
theorem bz0(l:List aH)(q:Nat)(hs:∀s∈l,dC s)(hl:l.length<=1000000)(B:al1 l q):∃d,∀id,l6 Tryz.prog 214 [.ptr id 0 0,.snap (aA aS l)] id (kR (.c (.slice none 0 0)) 0 0) (some (kR (.snap (aA aN (gD (l.take q)))) (bN (l.getD 0 aE)) q)) (.aU []) d:=by
 refine⟨200+30*q,fun id=> ?_⟩
 refine mstart Tryz.func214 Tryz.ntmps214 ?_;intro N G aB jL hG;obtain⟨b1,b2,b3,b4,b5,b6⟩:=B;have h0:0<l.length:=by cases l with|nil=>exact absurd rfl b1|cons a b=>simp
 have pQ:=fun k (hk:k<l.length)=>hs _ (cQ aE hk)
 have l7:=pQ 0 h0;have c1:=y8 10;have c2:=y8 7;have c3:=y8 5;have c4:=M4 _ l7.1;have hg:=gS l;have wW:=hg 0 h0;have F5:=PY l7;have iR:=LV l7;obtain⟨w5,w6⟩:=WK l7;have dS:fX (l.getD 0 aE)=(l.getD 0 aE).2.2.1+256*(l.getD 0 aE).2.2.2.1:=rfl;have o1:=(H9 w5 w6 w5 w5).1;have o2:=(y7 w6).1;have o3:IntKind.i64.wrap (l.getD 0 aE).2.2.1=(l.getD 0 aE).2.2.1:=IntWalk.i64_in _ (by have:=w5.1;have:=w5.2;omega)
 have o4:IntKind.i64.wrap (l.getD 0 aE).2.2.2.1=(l.getD 0 aE).2.2.2.1:=IntWalk.i64_in _ (by have:=w6.1;have:=w6.2;omega)
 have c5:=UZ (fX (l.getD 0 aE));have e5:D5 (fX (l.getD 0 aE))=(q:Int):=by unfold D5;rw[if_neg (by omega)];exact b4
 rw[e5]at c5;rw[<-dS]at o1;have t1:(0:Int)<l.length:=by omega
 have t2:0<bN (l.getD 0 aE):=by omega
 have t3:(q:Int)<=l.length:=by omega
 generalize l.getD 0 aE=S0 at*;obtain⟨⟨a0,a1,a2,a3⟩,a4,a5,a6,a7⟩:=S0;have bH:aS ((a0,a1,a2,a3),a4,a5,a6,a7)=[uV a0,uV a1,uV a2,uV a3,uV a4,uV a5,uV a6,uV a7]:=rfl;rw[bH]at c4 wW;simp only[]at*;generalize bN ((a0,a1,a2,a3),a4,a5,a6,a7)=gs at*;generalize fX ((a0,a1,a2,a3),a4,a5,a6,a7)=rl at*;subst dS;unfold kR at*
 replace hg:=bB.mk hg
 obtain⟨L,hL⟩:∃L,l.take q=L:=⟨_,rfl⟩;have pO:L.length=q:=by rw[<-hL,cU];omega
 have DU:∀k,k<q->dC (L.getD k aE)/\bN (L.getD k aE)=gs:=fun k hk=>by
  have e:L.getD k aE=l.getD k aE:=by rw[<-hL,eP,G0 hk,<-eP]
  rw[e];exact⟨pQ k (by omega),b6 k hk⟩
 have yZ:=gS L;rw[pO]at yZ
 replace yZ:=bB.mk yZ
 replace DU:=bB.mk DU
 have hq:2<=q:=by omega
 clear hs pQ b6 b4 hg iR;rw[hL];refine bW ?_
 refine P2 (α:=Nat) (G:=G) q (fun k a=> [(59,true,zV k),(58,true,zV q),(57,true,.snap (aA aS L)),(0,true,.ptr id 0 0)]) (fun k a=>(id,some (.cells 334 3 [[oV k a,zV gs,zV q]] true false))::oT k a (gD (L.take k)))
  (fun k m a=>(N<=m/\m<=N+100+30*k)/\(0<k->N<=a/\a<m)) ⟨N+90,0,⟨by omega,fun h=>by omega⟩,?_⟩ (fun k m a hk hR=> ?_) (fun m a hR=> ?_)
 ·simp only[oV,oT]
  exact qC
 ·obtain⟨hm,hR⟩:=hR
  obtain⟨k1,k2⟩:=DU.out k hk;have cn:=M4 _ k1.1;rw[k2]at cn;have fD:=yZ.out k hk;have h5:=Gr (l:=L) (k:=k) (by omega)
  generalize L.getD k aE=S at*;obtain⟨⟨x0,x1,x2,x3⟩,x4,x5,x6,x7⟩:=S;have JE:aS ((x0,x1,x2,x3),x4,x5,x6,x7)=[uV x0,uV x1,uV x2,uV x3,uV x4,uV x5,uV x6,uV x7]:=rfl;have WL:aA aN (d4 ((x0,x1,x2,x3),x4,x5,x6,x7))=[[uV x4],[uV x5],[uV x6],[uV x7]]:=rfl;rw[JE]at cn fD;rw[WL]at h5;clear k1 k2 DU yZ WL JE wW bH o1 o2 o3 o4 c5 c4;cases k with
  |zero=>
   simp only[oV,oT,xE]at h5⊢;have h9:aA aN (gD (List.take (0+1) L))=[[uV x4],[uV x5],[uV x6],[uV x7]]:=h5.symm;clear h5;refine bW ?_;refine⟨m+22,m+17,⟨by omega,fun _=>by omega⟩,?_⟩
   simp only[oV,oT];exact qC
  |succ k=>
   simp only[oV,oT]at h5⊢;obtain⟨i1,i2⟩:=hR (by omega)
   have h8:(gD (List.take (k+1) L)).length=4*(k+1):=by rw[IA,cU];omega
   refine bW ?_;refine⟨m+22,m+17,⟨by omega,fun _=>by omega⟩,?_⟩
   simp only[oV,oT];exact qC
 ·obtain⟨hm,hR⟩:=hR
  obtain⟨i1,i2⟩:=hR (by omega)
  obtain⟨k,hk⟩:∃k,q=k+1:=⟨q-1,by omega⟩
  have h8:(gD (List.take q L)).length=4*q:=by rw[IA,cU];omega
  have h7:L.take q=L:=eD (by omega)
  have hoV:oV q a= .own a 0 (4*q):=by rw[hk];rfl
  have hoT:oT q a (gD (L.take q))=[(a,some (.cells 5 1 (aA aN (gD L)) true true))]:=by rw[h7,hk];rfl
  rw[h7]at h8;have PM:=h7;rw[hoV,hoT];clear hoV hoT h7 DU yZ wW bH o1 o2 o3 o4 c5 c4 hk;refine C4 a id [[.snap (aA aN (gD L)),zV gs,zV q]] lT lT (by omega) (fz3 (by rw[mH];omega)) ?_
  refine by9 (by8 (i:=id) (a:=a) (by omega)) ?_
  refine BG (env:=[(59,true,zV q),(58,true,zV q),(57,true,.snap (aA aS L)),(0,true,.ptr id 0 0)]) (H:=⟨m,fR G [(id,some (.cells 334 3 [[.snap (aA aN (gD L)),zV gs,zV q]] true false))]⟩) qC ?_;refine bW ?_;exact kO
theorem bz1{D:List Int}{n:Nat}(h:7+n<=D.length):∃k l0 l1 s0 s1 s2 s3 P Z,D=k::l0::l1::(P++s0::s1::s2::s3::Z)/\P.length=n:=by
 obtain⟨k,l0,l1,R,rfl⟩:∃k l0 l1 R,D=k::l0::l1::R:=by
  rcases D with _|⟨k,_|⟨l0,_|⟨l1,R⟩⟩⟩
  case cons.cons.cons=>exact⟨k,l0,l1,R,rfl⟩
  all_goals (simp only[dK,fJ]at h;omega)
 simp only[dK]at h
 obtain⟨s0,s1,s2,s3,Z,hZ⟩:∃s0 s1 s2 s3 Z,R.drop n=s0::s1::s2::s3::Z:=by
  have:4<=(R.drop n).length:=by rw[eF];omega
  rcases hR:R.drop n with _|⟨s0,_|⟨s1,_|⟨s2,_|⟨s3,Z⟩⟩⟩⟩
  case cons.cons.cons.cons=>exact⟨s0,s1,s2,s3,Z,rfl⟩
  all_goals (rw[hR]at this;simp only[dK,fJ]at this;omega)
 refine⟨k,l0,l1,s0,s1,s2,s3,R.take n,Z,?_,by rw[cU];omega⟩
 rw[<-hZ,yJ]
theorem bz2(k l0 l1 s0 s1 s2 s3:Int)(P Z:List Int)(sq q:Int)(hk:aV k)(h0:aV l0)(h1:aV l1)(g0:aV s0)(g1:aV s1)(g2:aV s2)(g3:aV s3)(hP:∀x∈P,aV x)(hl:P.length<=4096)(hz:Z.length<=1000)
  (hn:l0+256*l1=(P.length:Int)) (hc:s0+256*s1+65536*s2+16777216*s3=fV (k::l0::l1::P)) (rS:k≠0) (hZ:Z.any tX=false):
  ∃d,∀id,l6 Tryz.prog 215 [.ptr id 0 0] id (kR (.snap (aA aN (k::l0::l1::(P++s0::s1::s2::s3::Z)))) sq q) (some (kR (.snap (aA aN Z)) sq q)) (.agg [zV k,zV sq,.snap (aA aN P)]) d:=by
 refine⟨1000,fun id=> ?_⟩
 refine DT Tryz.func215 Tryz.ntmps215 ?_;intro N G aB jL hG;have c1:=ak7 k (l0::l1::(P++s0::s1::s2::s3::Z)) sq q hk (by simp;omega) id
 have c2:=ak8 l0 l1 (P++s0::s1::s2::s3::Z) sq q h0 h1 (by simp;omega) id
 rw[hn]at c2;have c3:=WJ (P++s0::s1::s2::s3::Z) sq q P.length (by simp) (by simp;omega) id
 rw[I7,OC]at c3
 rotate_left
 ·rfl
 ·rfl
 have c5:=ak9 s0 s1 s2 s3 Z sq q g0 g1 g2 g3 (by simp;omega) id
 rw[hc]at c5
 have c6:=V4 (k::l0::l1::P) (fun x hx=>by
  simp only[cG]at hx;rcases hx with rfl|rfl|rfl|hx
  ·exact hk
  ·exact h0
  ·exact h1
  ·exact hP x hx) (by simp;omega)
 have c7:=al0 Z (by omega)
 rw[hZ]at c7;have d1:=y8 9;have d2:=y8 3
 have ht:(k::l0::l1::(P++s0::s1::s2::s3::Z)).take (3+P.length)=k::l0::l1::P:=by
  rw[show 3+P.length=P.length+1+1+1 by omega]
  simp only[G4];rw[I7];rfl
 have w1:IntKind.i64.wrap (3+(P.length:Int))=((3+P.length:Nat):Int):=by rw[IntWalk.i64_in _ (by omega)];omega
 have wN:=KV (k::l0::l1::P);have w2:IntKind.i64.wrap (fV (k::l0::l1::P))=fV (k::l0::l1::P):=IntWalk.i64_in _ (by omega)
 have BZ:0<k:=by have:=hk.1;omega
 generalize fV (k::l0::l1::P)=C at*;clear hP hk h0 h1 g0 g1 g2 g3 hc hn hZ rS;unfold kR at*;by_cases z6:P=[]
 ·subst z6
  have c4:=BL [] (by simp)
  refine bW ?_;exact rT
 ·have c4:=KJ P z6 (by omega)
  refine bW ?_;exact rT
abbrev Q8(l:List aH)(e:Int):Prop:=∃d,∀id,M6 Tryz.prog 214 [.ptr id 0 0,.snap (aA aS l)] id (kR (.c (.slice none 0 0)) 0 0) (yY e) d
theorem bz3:Q8 [] 10:=by
 refine⟨100,fun id=> ?_⟩
 refine Q9 Tryz.func214 Tryz.ntmps214 ?_;intro N G aB jL hG;have c1:=M5 10;have s:qX 0 3 (yY 10):=⟨⟩;unfold kR at*;refine bW ?_;exact C7
theorem bz4(l:List aH)(hs:∀s∈l,dC s)(hl:l.length<=1000000)(b1:l≠[])(b2:bN (l.getD 0 aE)=0):Q8 l 7:=by
 refine⟨100,fun id=> ?_⟩
 refine Q9 Tryz.func214 Tryz.ntmps214 ?_;intro N G aB jL hG;have h0:0<l.length:=by cases l with|nil=>exact absurd rfl b1|cons a b=>simp
 have l7:=hs _ (cQ aE h0);have wW:=gS l 0 h0;have c4:=M4 _ l7.1;have F5:=PY l7;have iR:=LV l7;obtain⟨w5,w6⟩:=WK l7;have dS:fX (l.getD 0 aE)=(l.getD 0 aE).2.2.1+256*(l.getD 0 aE).2.2.2.1:=rfl;have o1:=(H9 w5 w6 w5 w5).1;have o2:=(y7 w6).1;have o3:IntKind.i64.wrap (l.getD 0 aE).2.2.1=(l.getD 0 aE).2.2.1:=IntWalk.i64_in _ (by have:=w5.1;have:=w5.2;omega)
 have o4:IntKind.i64.wrap (l.getD 0 aE).2.2.2.1=(l.getD 0 aE).2.2.2.1:=IntWalk.i64_in _ (by have:=w6.1;have:=w6.2;omega)
 rw[<-dS]at o1;have t1:(0:Int)<l.length:=by omega
 have c1:=y8 10;have c2:=M5 7;have s:qX 2 5 (yY 7):=⟨⟩;generalize l.getD 0 aE=S0 at*;obtain⟨⟨a0,a1,a2,a3⟩,a4,a5,a6,a7⟩:=S0;have bH:aS ((a0,a1,a2,a3),a4,a5,a6,a7)=[uV a0,uV a1,uV a2,uV a3,uV a4,uV a5,uV a6,uV a7]:=rfl;rw[bH]at c4 wW;simp only[]at*;generalize bN ((a0,a1,a2,a3),a4,a5,a6,a7)=gs at*;generalize fX ((a0,a1,a2,a3),a4,a5,a6,a7)=rl at*;subst dS;clear hs
 subst b2;unfold kR at*;refine bW ?_;exact C7
theorem bz5(l:List aH)(hs:∀s∈l,dC s)(hl:l.length<=1000000)(b1:l≠[])(b2:bN (l.getD 0 aE)≠0)(b3:4096<fX (l.getD 0 aE)):Q8 l 5:=by
 refine⟨100,fun id=> ?_⟩
 refine Q9 Tryz.func214 Tryz.ntmps214 ?_;intro N G aB jL hG;have h0:0<l.length:=by cases l with|nil=>exact absurd rfl b1|cons a b=>simp
 have l7:=hs _ (cQ aE h0);have wW:=gS l 0 h0;have c4:=M4 _ l7.1;have F5:=PY l7;have iR:=LV l7;obtain⟨w5,w6⟩:=WK l7;have dS:fX (l.getD 0 aE)=(l.getD 0 aE).2.2.1+256*(l.getD 0 aE).2.2.2.1:=rfl;have o1:=(H9 w5 w6 w5 w5).1;have o2:=(y7 w6).1;have o3:IntKind.i64.wrap (l.getD 0 aE).2.2.1=(l.getD 0 aE).2.2.1:=IntWalk.i64_in _ (by have:=w5.1;have:=w5.2;omega)
 have o4:IntKind.i64.wrap (l.getD 0 aE).2.2.2.1=(l.getD 0 aE).2.2.2.1:=IntWalk.i64_in _ (by have:=w6.1;have:=w6.2;omega)
 rw[<-dS]at o1;have t1:(0:Int)<l.length:=by omega
 have t2:0<bN (l.getD 0 aE):=by omega
 have t3:¬fX (l.getD 0 aE)<=4096:=by omega
 have c1:=y8 10;have c2:=y8 7;have c3:=M5 5;have s:qX 4 2 (yY 5):=⟨⟩;generalize l.getD 0 aE=S0 at*;obtain⟨⟨a0,a1,a2,a3⟩,a4,a5,a6,a7⟩:=S0;have bH:aS ((a0,a1,a2,a3),a4,a5,a6,a7)=[uV a0,uV a1,uV a2,uV a3,uV a4,uV a5,uV a6,uV a7]:=rfl;rw[bH]at c4 wW;simp only[]at*;generalize bN ((a0,a1,a2,a3),a4,a5,a6,a7)=gs at*;generalize fX ((a0,a1,a2,a3),a4,a5,a6,a7)=rl at*
 subst dS;clear hs;unfold kR at*;refine bW ?_;exact C7
theorem bz6(l:List aH)(hs:∀s∈l,dC s)(hl:l.length<=1000000)(b1:l≠[])(b2:bN (l.getD 0 aE)≠0)(b3:fX (l.getD 0 aE)<=4096)(b4:(l.length:Int)<(fX (l.getD 0 aE)+10)/4):Q8 l 10:=by
 refine⟨100,fun id=> ?_⟩
 refine Q9 Tryz.func214 Tryz.ntmps214 ?_;intro N G aB jL hG;have h0:0<l.length:=by cases l with|nil=>exact absurd rfl b1|cons a b=>simp
 have l7:=hs _ (cQ aE h0);have wW:=gS l 0 h0;have c4:=M4 _ l7.1;have F5:=PY l7;have iR:=LV l7;obtain⟨w5,w6⟩:=WK l7;have dS:fX (l.getD 0 aE)=(l.getD 0 aE).2.2.1+256*(l.getD 0 aE).2.2.2.1:=rfl;have o1:=(H9 w5 w6 w5 w5).1;have o2:=(y7 w6).1;have o3:IntKind.i64.wrap (l.getD 0 aE).2.2.1=(l.getD 0 aE).2.2.1:=IntWalk.i64_in _ (by have:=w5.1;have:=w5.2;omega)
 have o4:IntKind.i64.wrap (l.getD 0 aE).2.2.2.1=(l.getD 0 aE).2.2.2.1:=IntWalk.i64_in _ (by have:=w6.1;have:=w6.2;omega)
 rw[<-dS]at o1;have t1:(0:Int)<l.length:=by omega
 have t2:0<bN (l.getD 0 aE):=by omega
 have c1:=y8 10;have c1x:=M5 10;have c2:=y8 7;have c3:=y8 5;have c5:=UZ (fX (l.getD 0 aE));have e5:D5 (fX (l.getD 0 aE))=(fX (l.getD 0 aE)+10)/4:=by unfold D5;rw[if_neg (by omega)]
 rw[e5]at c5;have t3:¬(fX (l.getD 0 aE)+10)/4<=(l.length:Int):=by omega
 generalize hq:(fX (l.getD 0 aE)+10)/4=q at*;have s:qX 6 7 (yY 10):=⟨⟩;generalize l.getD 0 aE=S0 at*;obtain⟨⟨a0,a1,a2,a3⟩,a4,a5,a6,a7⟩:=S0;have bH:aS ((a0,a1,a2,a3),a4,a5,a6,a7)=[uV a0,uV a1,uV a2,uV a3,uV a4,uV a5,uV a6,uV a7]:=rfl;rw[bH]at c4 wW;simp only[]at*;generalize bN ((a0,a1,a2,a3),a4,a5,a6,a7)=gs at*;generalize fX ((a0,a1,a2,a3),a4,a5,a6,a7)=rl at*;subst dS;clear hs
 unfold kR at*;refine bW ?_;exact C7
theorem bz8(l:List aH)(q:Nat)(hs:∀s∈l,dC s)(hl:l.length<=1000000)(b1:l≠[])(b2:bN (l.getD 0 aE)≠0)(b3:fX (l.getD 0 aE)<=4096)(b4:(fX (l.getD 0 aE)+10)/4=q)(b5:q<=l.length)(b6:∃i,i<q/\bN (l.getD i aE)≠bN (l.getD 0 aE)):Q8 l 10:=by
 refine⟨200+30*q,fun id=> ?_⟩
 refine Q9 Tryz.func214 Tryz.ntmps214 ?_;intro N G aB jL hG;have h0:0<l.length:=by cases l with|nil=>exact absurd rfl b1|cons a b=>simp
 have pQ:=fun k (hk:k<l.length)=>hs _ (cQ aE hk)
 have l7:=pQ 0 h0;have c1:=y8 10;have c2:=y8 7;have c3:=y8 5;have c4:=M4 _ l7.1;have hg:=gS l;have wW:=hg 0 h0;have F5:=PY l7;have iR:=LV l7;obtain⟨w5,w6⟩:=WK l7;have dS:fX (l.getD 0 aE)=(l.getD 0 aE).2.2.1+256*(l.getD 0 aE).2.2.2.1:=rfl;have o1:=(H9 w5 w6 w5 w5).1;have o2:=(y7 w6).1;have o3:IntKind.i64.wrap (l.getD 0 aE).2.2.1=(l.getD 0 aE).2.2.1:=IntWalk.i64_in _ (by have:=w5.1;have:=w5.2;omega)
 have o4:IntKind.i64.wrap (l.getD 0 aE).2.2.2.1=(l.getD 0 aE).2.2.2.1:=IntWalk.i64_in _ (by have:=w6.1;have:=w6.2;omega)
 have c5:=UZ (fX (l.getD 0 aE));have e5:D5 (fX (l.getD 0 aE))=(q:Int):=by unfold D5;rw[if_neg (by omega)];exact b4
 rw[e5]at c5;rw[<-dS]at o1;have t1:(0:Int)<l.length:=by omega
 have t2:0<bN (l.getD 0 aE):=by omega
 have t3:(q:Int)<=l.length:=by omega
 generalize l.getD 0 aE=S0 at*;obtain⟨⟨a0,a1,a2,a3⟩,a4,a5,a6,a7⟩:=S0;have bH:aS ((a0,a1,a2,a3),a4,a5,a6,a7)=[uV a0,uV a1,uV a2,uV a3,uV a4,uV a5,uV a6,uV a7]:=rfl;rw[bH]at c4 wW;simp only[]at*;generalize bN ((a0,a1,a2,a3),a4,a5,a6,a7)=gs at*;generalize fX ((a0,a1,a2,a3),a4,a5,a6,a7)=rl at*;subst dS;unfold kR at*
 replace hg:=bB.mk hg
 obtain⟨L,hL⟩:∃L,l.take q=L:=⟨_,rfl⟩;have pO:L.length=q:=by rw[<-hL,cU];omega
 have Mr:∀k,k<q->L.getD k aE=l.getD k aE:=fun k hk=>by rw[<-hL,eP,G0 hk,<-eP]
 have DU:∀k,k<q->dC (L.getD k aE):=fun k hk=>by
  rw[Mr k hk];exact pQ k (by omega)
 have Ms:∃i,i<q/\bN (L.getD i aE)≠gs:=by
  obtain⟨i,i1,i2⟩:=b6;exact⟨i,i1,by rw[Mr i i1];exact i2⟩
 replace Ms:=bB.mk Ms
 have yZ:=gS L;rw[pO]at yZ
 replace yZ:=bB.mk yZ
 replace DU:=bB.mk DU
 have hq:2<=q:=by omega
 clear hs pQ b6 b4 hg iR Mr;refine bW ?_
 refine P2 (α:=Nat) (G:=G) q (fun k a=> [(59,true,zV k),(58,true,zV q),(57,true,.snap (aA aS L)),(0,true,.ptr id 0 0)]) (fun k a=>(id,some (.cells 334 3 [[oV k a,zV gs,zV q]] true false))::oT k a (gD (L.take k)))
  (fun k m a=>(N<=m/\m<=N+100+30*k)/\(0<k->N<=a/\a<m)/\∀i,i<k->bN (L.getD i aE)=gs) ⟨N+90,0,⟨by omega,fun h=>by omega,fun i hi=>by omega⟩,?_⟩ (fun k m a hk hR=> ?_) (fun m a hR=> ?_)
 ·simp only[oV,oT]
  exact qC
 ·obtain⟨hm,hR,eR⟩:=hR
  have k1:=DU.out k hk;have cn:=M4 _ k1.1;have fD:=yZ.out k hk;have h5:=Gr (l:=L) (k:=k) (by omega)
  by_cases g:bN (L.getD k aE)=gs
  ·have WM:bB (∀i,i<k+1->bN (L.getD i aE)=gs):=⟨fun i hi=>by
    by_cases iH:i=k
    ·subst iH;exact g
    ·exact eR i (by omega)⟩
   clear eR;rw[g]at cn;clear g;generalize hS:L.getD k aE=S at*;obtain⟨⟨x0,x1,x2,x3⟩,x4,x5,x6,x7⟩:=S;have JE:aS ((x0,x1,x2,x3),x4,x5,x6,x7)=[uV x0,uV x1,uV x2,uV x3,uV x4,uV x5,uV x6,uV x7]:=rfl;have WL:aA aN (d4 ((x0,x1,x2,x3),x4,x5,x6,x7))=[[uV x4],[uV x5],[uV x6],[uV x7]]:=rfl;rw[JE]at cn fD;rw[WL]at h5;clear k1 DU yZ WL JE wW bH o1 o2 o3 o4 c5 c4 hS;cases k with
   |zero=>
    simp only[oV,oT,xE]at h5⊢;have h9:aA aN (gD (List.take (0+1) L))=[[uV x4],[uV x5],[uV x6],[uV x7]]:=h5.symm;clear h5;refine bW ?_;refine⟨m+22,m+17,⟨by omega,fun _=>by omega,WM.out⟩,?_⟩
    simp only[oV,oT];exact qC
   |succ k=>
    simp only[oV,oT]at h5⊢;obtain⟨i1,i2⟩:=hR (by omega)
    have h8:(gD (List.take (k+1) L)).length=4*(k+1):=by rw[IA,cU];omega
    refine bW ?_;refine⟨m+22,m+17,⟨by omega,fun _=>by omega,WM.out⟩,?_⟩
    simp only[oV,oT];exact qC
  ·have g':(bN (L.getD k aE)==gs)=false:=by simpa using g
   have c1x:=M5 10;have s:qX 10 7 (yY 10):=⟨⟩;have s2:qX (10+1000) 7 .nilIface:=⟨⟩
   replace hR:=hR
   clear eR h5 c1;generalize L.getD k aE=S at*;obtain⟨⟨x0,x1,x2,x3⟩,x4,x5,x6,x7⟩:=S;have JE:aS ((x0,x1,x2,x3),x4,x5,x6,x7)=[uV x0,uV x1,uV x2,uV x3,uV x4,uV x5,uV x6,uV x7]:=rfl;rw[JE]at cn fD;clear k1 DU yZ JE wW bH o1 o2 o3 o4 c5 c4 g;cases k with
   |zero=>
    simp only[oV,oT]at fD⊢;refine bW ?_;refine Iv s2 ?_;refine bW ?_;exact C7
   |succ k=>
    obtain⟨i1,i2⟩:=hR (by omega)
    clear hR;simp only[oV,oT]at fD⊢;refine bW ?_;refine Iv s2 ?_;refine bW ?_;exact C7
 ·obtain⟨hm,hR,eR⟩:=hR
  obtain⟨i,i1,i2⟩:=Ms.out;exact absurd (eR i i1) i2
theorem al4(k l0 l1 s0 s1 s2 s3:Int)(P Z:List Int)(sq q e:Int)(hk:aV k)(h0:aV l0)(h1:aV l1)(g0:aV s0)(g1:aV s1)(g2:aV s2)(g3:aV s3)(hP:∀x∈P,aV x)(hl:P.length<=4096)(hz:Z.length<=1000)
  (hn:l0+256*l1=(P.length:Int)) (hc:(s0+256*s1+65536*s2+16777216*s3≠fV (k::l0::l1::P)/\e=9)\/(s0+256*s1+65536*s2+16777216*s3=fV (k::l0::l1::P)/\(k=0\/Z.any tX=true)/\e=3)):
  ∃d,∀id,M6 Tryz.prog 215 [.ptr id 0 0] id (kR (.snap (aA aN (k::l0::l1::(P++s0::s1::s2::s3::Z)))) sq q) (yY e) d:=by
 refine⟨1000,fun id=> ?_⟩
 refine Q9 Tryz.func215 Tryz.ntmps215 ?_;intro N G aB jL hG;have c1:=ak7 k (l0::l1::(P++s0::s1::s2::s3::Z)) sq q hk (by simp;omega) id
 have c2:=ak8 l0 l1 (P++s0::s1::s2::s3::Z) sq q h0 h1 (by simp;omega) id
 rw[hn]at c2;have c3:=WJ (P++s0::s1::s2::s3::Z) sq q P.length (by simp) (by simp;omega) id
 rw[I7,OC]at c3
 rotate_left
 ·rfl
 ·rfl
 have c5:=ak9 s0 s1 s2 s3 Z sq q g0 g1 g2 g3 (by simp;omega) id
 have c6:=V4 (k::l0::l1::P) (fun x hx=>by
  simp only[cG]at hx;rcases hx with rfl|rfl|rfl|hx
  ·exact hk
  ·exact h0
  ·exact h1
  ·exact hP x hx) (by simp;omega)
 have c7:=al0 Z (by omega)
 have ht:(k::l0::l1::(P++s0::s1::s2::s3::Z)).take (3+P.length)=k::l0::l1::P:=by
  rw[show 3+P.length=P.length+1+1+1 by omega]
  simp only[G4];rw[I7];rfl
 have w1:IntKind.i64.wrap (3+(P.length:Int))=((3+P.length:Nat):Int):=by rw[IntWalk.i64_in _ (by omega)];omega
 have wN:=KV (k::l0::l1::P);have w2:IntKind.i64.wrap (fV (k::l0::l1::P))=fV (k::l0::l1::P):=IntWalk.i64_in _ (by omega)
 have rS:=hk.1;generalize fV (k::l0::l1::P)=C at*;generalize s0+256*s1+65536*s2+16777216*s3=T at*;clear hP hk h0 h1 g0 g1 g2 g3 hn;unfold kR at*;have d1:=y8 9;have cl:P=[]\/P≠[]:=by by_cases h:P=[];exact .inl h;exact .inr h
 rcases hc with⟨hc,rfl⟩|⟨rfl,hc,rfl⟩
 ·have aJ:(T==C)=false:=by simpa using hc
  have vO:=M5 9;have s:qX 6 8 (yY 9):=⟨⟩;clear d1 hc c7;rcases cl with z6|z6
  ·subst z6
   have c4:=BL [] (by simp)
   refine bW ?_;exact C7
  ·have c4:=KJ P z6 (by omega)
   refine bW ?_;exact C7
 ·have cG4:(T==T)=true:=by simp
  have EW:=M5 3;have s:qX 7 11 (yY 3):=⟨⟩;by_cases BZ:k=0
  ·have iX:¬0<k:=by omega
   clear hc BZ;rcases cl with z6|z6
   ·subst z6
    have c4:=BL [] (by simp)
    refine bW ?_;exact C7
   ·have c4:=KJ P z6 (by omega)
    refine bW ?_;exact C7
  ·have iX:0<k:=by omega
   have hZ:Z.any tX=true:=hc.resolve_left BZ;rw[hZ]at c7;clear hc BZ;rcases cl with z6|z6
   ·subst z6
    have c4:=BL [] (by simp)
    refine bW ?_;exact C7
   ·have c4:=KJ P z6 (by omega)
    refine bW ?_;exact C7
end Go.Proofs.YtioafciifiggaaaGreatDoor
