/- Staging. No condition. -/
import Derived.Test.YtioafciifiggaaaGreatDoorL0
import Derived.Test.YtioafciifiggaaaGreatDoorAzf
import Derived.Test.YtioafciifiggaaaGreatDoorAh
import Derived.Test.YtioafciifiggaaaGreatDoorAze
import Derived.Test.YtioafciifiggaaaGreatDoorAm
import Derived.Test.YtioafciifiggaaaGreatDoorAf
import Derived.Test.YtioafciifiggaaaGreatDoorLg
set_option linter.all false
namespace Go.Proofs.YtioafciifiggaaaGreatDoor
open Go.Proofs Go.AL
set_option maxRecDepth 100000
set_option maxHeartbeats 8000000
attribute [local irreducible] cB AW aX cZ dK hold
structure Qk(l:List aY)(q:Nat):Prop where
 ne:l≠[]
 num:cL (l.getD 0 aO)≠0
 len:fA (l.getD 0 aO)<=4096
 sz:(fA (l.getD 0 aO)+10)/4=q
 le:q<=l.length
 same:∀i,i<q->cL (l.getD i aO)=cL (l.getD 0 aO)
theorem MC{s:aY}(h:eR s):aV s.2.2.1/\aV s.2.2.2.1:=⟨h.2 _ (by simp[d4]),h.2 _ (by simp[d4])⟩
theorem fz3{dd n:Nat}{rows:List (List AV)}{x y:AV}(hn:n=rows.length):IJ dd rows [[.own dd 0 n,x,y]] [[.snap rows,x,y]]:=by
 subst hn;refine⟨rfl,fun i r r' hr dD=> ?_⟩
 cases i with
 |zero=>
  simp only[mK,bB]at hr dD;subst hr dD;refine⟨rfl,fun k a b ha hb=> ?_⟩
  match k with
  |0=>
   simp only[mK,bB]at ha hb;subst ha hb;exact .inr ⟨0,rows.length,rfl,by omega,by simp⟩
  |1=>
   simp only[mK,qS,bB]at ha hb;subst ha hb;exact .inl rfl
  |2=>
   simp only[mK,qS,bB]at ha hb;subst ha hb;exact .inl rfl
  |k+3=>simp at ha
 |succ i=>simp at hr
theorem aD9{G:Nat->Option aI}{i a:Nat}(h:i≠a){x y x' y':Option aI}:aS (aS (iU G [(i,x),(a,y)]) [(a,y')]) [(i,x')]=iU G [(i,x'),(a,y')]:=by
 funext k
 by_cases h1:k=i
 ·subst h1
  simp[aS,iU,tS]
 ·by_cases h2:k=a
  ·subst h2
   simp[aS,iU,tS,h1,mV h1]
  ·simp[aS,iU,tS,h1,h2,mV h1,mV h2]
theorem aE0{P:Program}{σ:AS}{Q:Exit->AS->Prop}{c:Code}{g:Nat->Option aI}(h:σ.H.get=g)(h2:AW P c ⟨σ.env,⟨σ.H.next,g⟩,σ.nt⟩ Q):AW P c σ Q:=by subst h;exact h2
theorem aE1(l:List aY)(q:Nat)(hs:∀s∈l,eR s)(hl:l.length<=1000000)(B:Qk l q):∃d,∀id,jZ Tryz.prog 214 [.ptr id 0 0,.snap (aA aQ l)] id (jK (.c (.slice none 0 0)) 0 0) (some (jK (.snap (aA aH (eE (l.take q)))) (cL (l.getD 0 aO)) q)) (.aR []) d:=by
 refine⟨200+30*q,fun id=> ?_⟩
 refine mstart Tryz.func214 Tryz.ntmps214 ?_;intro N G aC iL hG;obtain⟨b1,b2,b3,b4,b5,b6⟩:=B;have h0:0<l.length:=by cases l with|nil=>exact absurd rfl b1|cons a b=>simp
 have lF:=fun k (hk:k<l.length)=>hs _ (dC aO hk)
 have iM:=lF 0 h0;have c1:=vD 10;have c2:=vD 7;have c3:=vD 5;have c4:=IW _ iM.1;have hg:=gS l;have qM:=hg 0 h0;have qL:=G1 iM;have gH:=G0 iM;obtain⟨w5,w6⟩:=MC iM;have cW:fA (l.getD 0 aO)=(l.getD 0 aO).2.2.1+256*(l.getD 0 aO).2.2.2.1:=rfl;have o1:=(DQ w5 w6 w5 w5).1;have o2:=(vC w6).1;have o3:IntKind.i64.wrap (l.getD 0 aO).2.2.1=(l.getD 0 aO).2.2.1:=IntWalk.i64_in _ (by have:=w5.1;have:=w5.2;omega)
 have o4:IntKind.i64.wrap (l.getD 0 aO).2.2.2.1=(l.getD 0 aO).2.2.2.1:=IntWalk.i64_in _ (by have:=w6.1;have:=w6.2;omega)
 have c5:=Q3 (fA (l.getD 0 aO));have e5:sQ (fA (l.getD 0 aO))=(q:Int):=by unfold sQ;rw[if_neg (by omega)];exact b4
 rw[e5]at c5;rw[<-cW]at o1;have t1:(0:Int)<l.length:=by omega
 have t2:0<cL (l.getD 0 aO):=by omega
 have t3:(q:Int)<=l.length:=by omega
 generalize l.getD 0 aO=S0 at*;obtain⟨⟨a0,a1,a2,a3⟩,a4,a5,a6,a7⟩:=S0;have bH:aQ ((a0,a1,a2,a3),a4,a5,a6,a7)=[uV a0,uV a1,uV a2,uV a3,uV a4,uV a5,uV a6,uV a7]:=rfl;rw[bH]at c4 qM;simp only[]at*;generalize cL ((a0,a1,a2,a3),a4,a5,a6,a7)=gs at*;generalize fA ((a0,a1,a2,a3),a4,a5,a6,a7)=rl at*;subst cW;unfold jK at*
 replace hg:=aU.mk hg
 obtain⟨L,hL⟩:∃L,l.take q=L:=⟨_,rfl⟩;have nJ:L.length=q:=by rw[<-hL,eD];omega
 have AX:∀k,k<q->eR (L.getD k aO)/\cL (L.getD k aO)=gs:=fun k hk=>by
  have e:L.getD k aO=l.getD k aO:=by rw[<-hL,lC,UB hk,<-lC]
  rw[e];exact⟨lF k (by omega),b6 k hk⟩
 have wJ:=gS L;rw[nJ]at wJ
 replace wJ:=aU.mk wJ
 replace AX:=aU.mk AX
 have hq:2<=q:=by omega
 clear hs lF b6 b4 hg gH;rw[hL];refine bO ?_
 refine LJ (α:=Nat) (G:=G) q (fun k a=> [(59,true,zV k),(58,true,zV q),(57,true,.snap (aA aQ L)),(0,true,.ptr id 0 0)]) (fun k a=>(id,some (.cells 334 3 [[oV k a,zV gs,zV q]] true false))::oT k a (eE (L.take k)))
  (fun k m a=>(N<=m/\m<=N+100+30*k)/\(0<k->N<=a/\a<m)) ⟨N+90,0,⟨by omega,fun h=>by omega⟩,?_⟩ (fun k m a hk hR=> ?_) (fun m a hR=> ?_)
 ·simp only[oV,oT]
  exact qX
 ·obtain⟨hm,hR⟩:=hR
  obtain⟨k1,k2⟩:=AX.out k hk;have cn:=IW _ k1.1;rw[k2]at cn;have cV:=wJ.out k hk;have h5:=PS (l:=L) (k:=k) (by omega)
  generalize L.getD k aO=S at*;obtain⟨⟨x0,x1,x2,x3⟩,x4,x5,x6,x7⟩:=S;have wK:aQ ((x0,x1,x2,x3),x4,x5,x6,x7)=[uV x0,uV x1,uV x2,uV x3,uV x4,uV x5,uV x6,uV x7]:=rfl;have G2:aA aH (d4 ((x0,x1,x2,x3),x4,x5,x6,x7))=[[uV x4],[uV x5],[uV x6],[uV x7]]:=rfl;rw[wK]at cn cV;rw[G2]at h5;clear k1 k2 AX wJ G2 wK qM bH o1 o2 o3 o4 c5 c4;cases k with
  |zero=>
   simp only[oV,oT,wY]at h5⊢;have h9:aA aH (eE (List.take (0+1) L))=[[uV x4],[uV x5],[uV x6],[uV x7]]:=h5.symm;clear h5;refine bO ?_;refine⟨m+22,m+17,⟨by omega,fun _=>by omega⟩,?_⟩
   simp only[oV,oT];exact qX
  |succ k=>
   simp only[oV,oT]at h5⊢;obtain⟨i1,i2⟩:=hR (by omega)
   have h8:(eE (List.take (k+1) L)).length=4*(k+1):=by rw[xC,eD];omega
   refine bO ?_;refine⟨m+22,m+17,⟨by omega,fun _=>by omega⟩,?_⟩
   simp only[oV,oT];exact qX
 ·obtain⟨hm,hR⟩:=hR
  obtain⟨i1,i2⟩:=hR (by omega)
  obtain⟨k,hk⟩:∃k,q=k+1:=⟨q-1,by omega⟩
  have h8:(eE (List.take q L)).length=4*q:=by rw[xC,eD];omega
  have h7:L.take q=L:=cR (by omega)
  have Ql:oV q a= .own a 0 (4*q):=by rw[hk];rfl
  have Qm:oT q a (eE (L.take q))=[(a,some (.cells 5 1 (aA aH (eE L)) true true))]:=by rw[h7,hk];rfl
  rw[h7]at h8;have sC:=h7;rw[Ql,Qm];clear Ql Qm h7 AX wJ qM bH o1 o2 o3 o4 c5 c4 hk;refine sX a id [[.snap (aA aH (eE L)),zV gs,zV q]] iT iT (by omega) (fz3 (by rw[fZ];omega)) ?_
  refine aE0 (aD9 (i:=id) (a:=a) (by omega)) ?_
  refine tI (env:=[(59,true,zV q),(58,true,zV q),(57,true,.snap (aA aQ L)),(0,true,.ptr id 0 0)]) (H:=⟨m,iU G [(id,some (.cells 334 3 [[.snap (aA aH (eE L)),zV gs,zV q]] true false))]⟩) qX ?_;refine bO ?_;exact jI
theorem Qn{D:List Int}{n:Nat}(h:7+n<=D.length):∃k l0 l1 s0 s1 s2 s3 P Z,D=k::l0::l1::(P++s0::s1::s2::s3::Z)/\P.length=n:=by
 obtain⟨k,l0,l1,R,rfl⟩:∃k l0 l1 R,D=k::l0::l1::R:=by
  rcases D with _|⟨k,_|⟨l0,_|⟨l1,R⟩⟩⟩
  case cons.cons.cons=>exact⟨k,l0,l1,R,rfl⟩
  all_goals (simp only[eI,gL]at h;omega)
 simp only[eI]at h
 obtain⟨s0,s1,s2,s3,Z,hZ⟩:∃s0 s1 s2 s3 Z,R.drop n=s0::s1::s2::s3::Z:=by
  have:4<=(R.drop n).length:=by rw[fX];omega
  rcases hR:R.drop n with _|⟨s0,_|⟨s1,_|⟨s2,_|⟨s3,Z⟩⟩⟩⟩
  case cons.cons.cons.cons=>exact⟨s0,s1,s2,s3,Z,rfl⟩
  all_goals (rw[hR]at this;simp only[eI,gL]at this;omega)
 refine⟨k,l0,l1,s0,s1,s2,s3,R.take n,Z,?_,by rw[eD];omega⟩
 rw[<-hZ,Ym]
theorem aE2(k l0 l1 s0 s1 s2 s3:Int)(P Z:List Int)(sq q:Int)(hk:aV k)(h0:aV l0)(h1:aV l1)(g0:aV s0)(g1:aV s1)(g2:aV s2)(g3:aV s3)(hP:∀x∈P,aV x)(hl:P.length<=4096)(hz:Z.length<=1000)
  (hn:l0+256*l1=(P.length:Int)) (hc:s0+256*s1+65536*s2+16777216*s3=eO (k::l0::l1::P)) (vE:k≠0) (hZ:Z.any nA=false):
  ∃d,∀id,jZ Tryz.prog 215 [.ptr id 0 0] id (jK (.snap (aA aH (k::l0::l1::(P++s0::s1::s2::s3::Z)))) sq q) (some (jK (.snap (aA aH Z)) sq q)) (.agg [zV k,zV sq,.snap (aA aH P)]) d:=by
 refine⟨1000,fun id=> ?_⟩
 refine AU Tryz.func215 Tryz.ntmps215 ?_;intro N G aC iL hG;have c1:=Qg k (l0::l1::(P++s0::s1::s2::s3::Z)) sq q hk (by simp;omega) id
 have c2:=Qh l0 l1 (P++s0::s1::s2::s3::Z) sq q h0 h1 (by simp;omega) id
 rw[hn]at c2;have c3:=R7 (P++s0::s1::s2::s3::Z) sq q P.length (by simp) (by simp;omega) id
 rw[EV,U0]at c3
 rotate_left
 ·rfl
 ·rfl
 have c5:=Qi s0 s1 s2 s3 Z sq q g0 g1 g2 g3 (by simp;omega) id
 rw[hc]at c5
 have c6:=Q9 (k::l0::l1::P) (fun x hx=>by
  simp only[fB]at hx;rcases hx with rfl|rfl|rfl|hx
  ·exact hk
  ·exact h0
  ·exact h1
  ·exact hP x hx) (by simp;omega)
 have c7:=Qj Z (by omega)
 rw[hZ]at c7;have d1:=vD 9;have d2:=vD 3
 have ht:(k::l0::l1::(P++s0::s1::s2::s3::Z)).take (3+P.length)=k::l0::l1::P:=by
  rw[show 3+P.length=P.length+1+1+1 by omega]
  simp only[D5];rw[EV];rfl
 have w1:IntKind.i64.wrap (3+(P.length:Int))=((3+P.length:Nat):Int):=by rw[IntWalk.i64_in _ (by omega)];omega
 have qG:=HR (k::l0::l1::P);have w2:IntKind.i64.wrap (eO (k::l0::l1::P))=eO (k::l0::l1::P):=IntWalk.i64_in _ (by omega)
 have xQ:0<k:=by have:=hk.1;omega
 generalize eO (k::l0::l1::P)=C at*;clear hP hk h0 h1 g0 g1 g2 g3 hc hn hZ vE;unfold jK at*;by_cases wL:P=[]
 ·subst wL
  have c4:=yT [] (by simp)
  refine bO ?_;exact pI
 ·have c4:=HL P wL (by omega)
  refine bO ?_;exact pI
abbrev MD(l:List aY)(e:Int):Prop:=∃d,∀id,IY Tryz.prog 214 [.ptr id 0 0,.snap (aA aQ l)] id (jK (.c (.slice none 0 0)) 0 0) (wI e) d
theorem aE3:MD [] 10:=by
 refine⟨100,fun id=> ?_⟩
 refine ME Tryz.func214 Tryz.ntmps214 ?_;intro N G aC iL hG;have c1:=IX 10;have s:oP 0 3 (wI 10):=⟨⟩;unfold jK at*;refine bO ?_;exact zE
theorem aE4(l:List aY)(hs:∀s∈l,eR s)(hl:l.length<=1000000)(b1:l≠[])(b2:cL (l.getD 0 aO)=0):MD l 7:=by
 refine⟨100,fun id=> ?_⟩
 refine ME Tryz.func214 Tryz.ntmps214 ?_;intro N G aC iL hG;have h0:0<l.length:=by cases l with|nil=>exact absurd rfl b1|cons a b=>simp
 have iM:=hs _ (dC aO h0);have qM:=gS l 0 h0;have c4:=IW _ iM.1;have qL:=G1 iM;have gH:=G0 iM;obtain⟨w5,w6⟩:=MC iM;have cW:fA (l.getD 0 aO)=(l.getD 0 aO).2.2.1+256*(l.getD 0 aO).2.2.2.1:=rfl;have o1:=(DQ w5 w6 w5 w5).1;have o2:=(vC w6).1;have o3:IntKind.i64.wrap (l.getD 0 aO).2.2.1=(l.getD 0 aO).2.2.1:=IntWalk.i64_in _ (by have:=w5.1;have:=w5.2;omega)
 have o4:IntKind.i64.wrap (l.getD 0 aO).2.2.2.1=(l.getD 0 aO).2.2.2.1:=IntWalk.i64_in _ (by have:=w6.1;have:=w6.2;omega)
 rw[<-cW]at o1;have t1:(0:Int)<l.length:=by omega
 have c1:=vD 10;have c2:=IX 7;have s:oP 2 5 (wI 7):=⟨⟩;generalize l.getD 0 aO=S0 at*;obtain⟨⟨a0,a1,a2,a3⟩,a4,a5,a6,a7⟩:=S0;have bH:aQ ((a0,a1,a2,a3),a4,a5,a6,a7)=[uV a0,uV a1,uV a2,uV a3,uV a4,uV a5,uV a6,uV a7]:=rfl;rw[bH]at c4 qM;simp only[]at*;generalize cL ((a0,a1,a2,a3),a4,a5,a6,a7)=gs at*;generalize fA ((a0,a1,a2,a3),a4,a5,a6,a7)=rl at*;subst cW;clear hs
 subst b2;unfold jK at*;refine bO ?_;exact zE
theorem aE5(l:List aY)(hs:∀s∈l,eR s)(hl:l.length<=1000000)(b1:l≠[])(b2:cL (l.getD 0 aO)≠0)(b3:4096<fA (l.getD 0 aO)):MD l 5:=by
 refine⟨100,fun id=> ?_⟩
 refine ME Tryz.func214 Tryz.ntmps214 ?_;intro N G aC iL hG;have h0:0<l.length:=by cases l with|nil=>exact absurd rfl b1|cons a b=>simp
 have iM:=hs _ (dC aO h0);have qM:=gS l 0 h0;have c4:=IW _ iM.1;have qL:=G1 iM;have gH:=G0 iM;obtain⟨w5,w6⟩:=MC iM;have cW:fA (l.getD 0 aO)=(l.getD 0 aO).2.2.1+256*(l.getD 0 aO).2.2.2.1:=rfl;have o1:=(DQ w5 w6 w5 w5).1;have o2:=(vC w6).1;have o3:IntKind.i64.wrap (l.getD 0 aO).2.2.1=(l.getD 0 aO).2.2.1:=IntWalk.i64_in _ (by have:=w5.1;have:=w5.2;omega)
 have o4:IntKind.i64.wrap (l.getD 0 aO).2.2.2.1=(l.getD 0 aO).2.2.2.1:=IntWalk.i64_in _ (by have:=w6.1;have:=w6.2;omega)
 rw[<-cW]at o1;have t1:(0:Int)<l.length:=by omega
 have t2:0<cL (l.getD 0 aO):=by omega
 have t3:¬fA (l.getD 0 aO)<=4096:=by omega
 have c1:=vD 10;have c2:=vD 7;have c3:=IX 5;have s:oP 4 2 (wI 5):=⟨⟩;generalize l.getD 0 aO=S0 at*;obtain⟨⟨a0,a1,a2,a3⟩,a4,a5,a6,a7⟩:=S0;have bH:aQ ((a0,a1,a2,a3),a4,a5,a6,a7)=[uV a0,uV a1,uV a2,uV a3,uV a4,uV a5,uV a6,uV a7]:=rfl;rw[bH]at c4 qM;simp only[]at*;generalize cL ((a0,a1,a2,a3),a4,a5,a6,a7)=gs at*;generalize fA ((a0,a1,a2,a3),a4,a5,a6,a7)=rl at*
 subst cW;clear hs;unfold jK at*;refine bO ?_;exact zE
theorem aE6(l:List aY)(hs:∀s∈l,eR s)(hl:l.length<=1000000)(b1:l≠[])(b2:cL (l.getD 0 aO)≠0)(b3:fA (l.getD 0 aO)<=4096)(b4:(l.length:Int)<(fA (l.getD 0 aO)+10)/4):MD l 10:=by
 refine⟨100,fun id=> ?_⟩
 refine ME Tryz.func214 Tryz.ntmps214 ?_;intro N G aC iL hG;have h0:0<l.length:=by cases l with|nil=>exact absurd rfl b1|cons a b=>simp
 have iM:=hs _ (dC aO h0);have qM:=gS l 0 h0;have c4:=IW _ iM.1;have qL:=G1 iM;have gH:=G0 iM;obtain⟨w5,w6⟩:=MC iM;have cW:fA (l.getD 0 aO)=(l.getD 0 aO).2.2.1+256*(l.getD 0 aO).2.2.2.1:=rfl;have o1:=(DQ w5 w6 w5 w5).1;have o2:=(vC w6).1;have o3:IntKind.i64.wrap (l.getD 0 aO).2.2.1=(l.getD 0 aO).2.2.1:=IntWalk.i64_in _ (by have:=w5.1;have:=w5.2;omega)
 have o4:IntKind.i64.wrap (l.getD 0 aO).2.2.2.1=(l.getD 0 aO).2.2.2.1:=IntWalk.i64_in _ (by have:=w6.1;have:=w6.2;omega)
 rw[<-cW]at o1;have t1:(0:Int)<l.length:=by omega
 have t2:0<cL (l.getD 0 aO):=by omega
 have c1:=vD 10;have c1x:=IX 10;have c2:=vD 7;have c3:=vD 5;have c5:=Q3 (fA (l.getD 0 aO));have e5:sQ (fA (l.getD 0 aO))=(fA (l.getD 0 aO)+10)/4:=by unfold sQ;rw[if_neg (by omega)]
 rw[e5]at c5;have t3:¬(fA (l.getD 0 aO)+10)/4<=(l.length:Int):=by omega
 generalize hq:(fA (l.getD 0 aO)+10)/4=q at*;have s:oP 6 7 (wI 10):=⟨⟩;generalize l.getD 0 aO=S0 at*;obtain⟨⟨a0,a1,a2,a3⟩,a4,a5,a6,a7⟩:=S0;have bH:aQ ((a0,a1,a2,a3),a4,a5,a6,a7)=[uV a0,uV a1,uV a2,uV a3,uV a4,uV a5,uV a6,uV a7]:=rfl;rw[bH]at c4 qM;simp only[]at*;generalize cL ((a0,a1,a2,a3),a4,a5,a6,a7)=gs at*;generalize fA ((a0,a1,a2,a3),a4,a5,a6,a7)=rl at*;subst cW;clear hs
 unfold jK at*;refine bO ?_;exact zE
theorem aE8(l:List aY)(q:Nat)(hs:∀s∈l,eR s)(hl:l.length<=1000000)(b1:l≠[])(b2:cL (l.getD 0 aO)≠0)(b3:fA (l.getD 0 aO)<=4096)(b4:(fA (l.getD 0 aO)+10)/4=q)(b5:q<=l.length)(b6:∃i,i<q/\cL (l.getD i aO)≠cL (l.getD 0 aO)):MD l 10:=by
 refine⟨200+30*q,fun id=> ?_⟩
 refine ME Tryz.func214 Tryz.ntmps214 ?_;intro N G aC iL hG;have h0:0<l.length:=by cases l with|nil=>exact absurd rfl b1|cons a b=>simp
 have lF:=fun k (hk:k<l.length)=>hs _ (dC aO hk)
 have iM:=lF 0 h0;have c1:=vD 10;have c2:=vD 7;have c3:=vD 5;have c4:=IW _ iM.1;have hg:=gS l;have qM:=hg 0 h0;have qL:=G1 iM;have gH:=G0 iM;obtain⟨w5,w6⟩:=MC iM;have cW:fA (l.getD 0 aO)=(l.getD 0 aO).2.2.1+256*(l.getD 0 aO).2.2.2.1:=rfl;have o1:=(DQ w5 w6 w5 w5).1;have o2:=(vC w6).1;have o3:IntKind.i64.wrap (l.getD 0 aO).2.2.1=(l.getD 0 aO).2.2.1:=IntWalk.i64_in _ (by have:=w5.1;have:=w5.2;omega)
 have o4:IntKind.i64.wrap (l.getD 0 aO).2.2.2.1=(l.getD 0 aO).2.2.2.1:=IntWalk.i64_in _ (by have:=w6.1;have:=w6.2;omega)
 have c5:=Q3 (fA (l.getD 0 aO));have e5:sQ (fA (l.getD 0 aO))=(q:Int):=by unfold sQ;rw[if_neg (by omega)];exact b4
 rw[e5]at c5;rw[<-cW]at o1;have t1:(0:Int)<l.length:=by omega
 have t2:0<cL (l.getD 0 aO):=by omega
 have t3:(q:Int)<=l.length:=by omega
 generalize l.getD 0 aO=S0 at*;obtain⟨⟨a0,a1,a2,a3⟩,a4,a5,a6,a7⟩:=S0;have bH:aQ ((a0,a1,a2,a3),a4,a5,a6,a7)=[uV a0,uV a1,uV a2,uV a3,uV a4,uV a5,uV a6,uV a7]:=rfl;rw[bH]at c4 qM;simp only[]at*;generalize cL ((a0,a1,a2,a3),a4,a5,a6,a7)=gs at*;generalize fA ((a0,a1,a2,a3),a4,a5,a6,a7)=rl at*;subst cW;unfold jK at*
 replace hg:=aU.mk hg
 obtain⟨L,hL⟩:∃L,l.take q=L:=⟨_,rfl⟩;have nJ:L.length=q:=by rw[<-hL,eD];omega
 have Dd:∀k,k<q->L.getD k aO=l.getD k aO:=fun k hk=>by rw[<-hL,lC,UB hk,<-lC]
 have AX:∀k,k<q->eR (L.getD k aO):=fun k hk=>by
  rw[Dd k hk];exact lF k (by omega)
 have G3:∃i,i<q/\cL (L.getD i aO)≠gs:=by
  obtain⟨i,i1,i2⟩:=b6;exact⟨i,i1,by rw[Dd i i1];exact i2⟩
 replace G3:=aU.mk G3
 have wJ:=gS L;rw[nJ]at wJ
 replace wJ:=aU.mk wJ
 replace AX:=aU.mk AX
 have hq:2<=q:=by omega
 clear hs lF b6 b4 hg gH Dd;refine bO ?_
 refine LJ (α:=Nat) (G:=G) q (fun k a=> [(59,true,zV k),(58,true,zV q),(57,true,.snap (aA aQ L)),(0,true,.ptr id 0 0)]) (fun k a=>(id,some (.cells 334 3 [[oV k a,zV gs,zV q]] true false))::oT k a (eE (L.take k)))
  (fun k m a=>(N<=m/\m<=N+100+30*k)/\(0<k->N<=a/\a<m)/\∀i,i<k->cL (L.getD i aO)=gs) ⟨N+90,0,⟨by omega,fun h=>by omega,fun i hi=>by omega⟩,?_⟩ (fun k m a hk hR=> ?_) (fun m a hR=> ?_)
 ·simp only[oV,oT]
  exact qX
 ·obtain⟨hm,hR,eT⟩:=hR
  have k1:=AX.out k hk;have cn:=IW _ k1.1;have cV:=wJ.out k hk;have h5:=PS (l:=L) (k:=k) (by omega)
  by_cases g:cL (L.getD k aO)=gs
  ·have CH:aU (∀i,i<k+1->cL (L.getD i aO)=gs):=⟨fun i hi=>by
    by_cases fE:i=k
    ·subst fE;exact g
    ·exact eT i (by omega)⟩
   clear eT;rw[g]at cn;clear g;generalize hS:L.getD k aO=S at*;obtain⟨⟨x0,x1,x2,x3⟩,x4,x5,x6,x7⟩:=S;have wK:aQ ((x0,x1,x2,x3),x4,x5,x6,x7)=[uV x0,uV x1,uV x2,uV x3,uV x4,uV x5,uV x6,uV x7]:=rfl;have G2:aA aH (d4 ((x0,x1,x2,x3),x4,x5,x6,x7))=[[uV x4],[uV x5],[uV x6],[uV x7]]:=rfl;rw[wK]at cn cV;rw[G2]at h5;clear k1 AX wJ G2 wK qM bH o1 o2 o3 o4 c5 c4 hS;cases k with
   |zero=>
    simp only[oV,oT,wY]at h5⊢;have h9:aA aH (eE (List.take (0+1) L))=[[uV x4],[uV x5],[uV x6],[uV x7]]:=h5.symm;clear h5;refine bO ?_;refine⟨m+22,m+17,⟨by omega,fun _=>by omega,CH.out⟩,?_⟩
    simp only[oV,oT];exact qX
   |succ k=>
    simp only[oV,oT]at h5⊢;obtain⟨i1,i2⟩:=hR (by omega)
    have h8:(eE (List.take (k+1) L)).length=4*(k+1):=by rw[xC,eD];omega
    refine bO ?_;refine⟨m+22,m+17,⟨by omega,fun _=>by omega,CH.out⟩,?_⟩
    simp only[oV,oT];exact qX
  ·have g':(cL (L.getD k aO)==gs)=false:=by simpa using g
   have c1x:=IX 10;have s:oP 10 7 (wI 10):=⟨⟩;have s2:oP (10+1000) 7 .nilIface:=⟨⟩
   replace hR:=hR
   clear eT h5 c1;generalize L.getD k aO=S at*;obtain⟨⟨x0,x1,x2,x3⟩,x4,x5,x6,x7⟩:=S;have wK:aQ ((x0,x1,x2,x3),x4,x5,x6,x7)=[uV x0,uV x1,uV x2,uV x3,uV x4,uV x5,uV x6,uV x7]:=rfl;rw[wK]at cn cV;clear k1 AX wJ wK qM bH o1 o2 o3 o4 c5 c4 g;cases k with
   |zero=>
    simp only[oV,oT]at cV⊢;refine bO ?_;refine Al s2 ?_;refine bO ?_;exact zE
   |succ k=>
    obtain⟨i1,i2⟩:=hR (by omega)
    clear hR;simp only[oV,oT]at cV⊢;refine bO ?_;refine Al s2 ?_;refine bO ?_;exact zE
 ·obtain⟨hm,hR,eT⟩:=hR
  obtain⟨i,i1,i2⟩:=G3.out;exact absurd (eT i i1) i2
end Go.Proofs.YtioafciifiggaaaGreatDoor
