/- Staging. No condition. -/
import Derived.Test.YtioafciifiggaaaGreatDoorL0
import Derived.Test.YtioafciifiggaaaGreatDoorAe
import Derived.Test.YtioafciifiggaaaGreatDoorAd
import Derived.Test.YtioafciifiggaaaGreatDoorLe
set_option linter.all false
namespace Go.Proofs.YtioafciifiggaaaGreatDoor
open Go.Proofs Go.AL
set_option maxRecDepth 100000
set_option maxHeartbeats 1000000
attribute [local irreducible] cH AW b9 dR eH hold
theorem UE:∀(ops:List nH) (d:bL) (i:Nat),(oF ops d i).2.2≠0->(oF ops d i).1=nG
 |[],d,i,h=>absurd rfl h
 |o::r,d,i,h=>by
  simp only[oF]at h⊢;split
  ·rename_i h1
   rw[if_pos h1]at h;split
   ·rename_i h2
    rw[if_pos h2]at h;exact UE r _ _ h
   ·rfl
  ·rename_i h1
   rw[if_neg h1]at h;split
   ·rename_i h2
    rw[if_pos h2]at h;exact UE r _ _ h
   ·rfl
theorem aO4(d:bL)(ops:List nH)(aJ:d.ca≠[])(h1:d.st.length<=1000000)(h2:d.ca.length+ops.length*4096<=900000):PC 19 [.agg (bM d),.snap (aA bJ ops)] (.aU [.agg (bM (oN d ops).1),zV (oN d ops).2.1,zV (oN d ops).2.2]):=by
 refine bI Tryz.func19 Tryz.ntmps19 (by simp only[go_sem,bM]) ?_
 have c1:=CZ d h1 (by omega)
 unfold oN;by_cases g1:dM d=0
 ·rw[if_pos g1]
  have c2:=U0 d.st h1;have c3:=aN3 d.ca aJ (by omega)
  rw[g1]at c1;unfold bM at c1⊢;refine aD ?_;refine kA Tryz.func52 Tryz.ntmps52 ?_;refine aD ?_;have hC:bB (rH (fun id=>2<=id/\id≠12) d.ca 60 (.own 9 0 d.ca.length) [(9,some (.cells 176 9 (aA iP d.ca) true true))]):=⟨.inr ⟨9,⟨by omega,by omega⟩,by omega,rfl,rfl⟩⟩
  refine CV (Hg 12 60 d (.own 9 0 d.ca.length) _ ops (by omega) (by omega) hC.out h2 g1) ?_
  rintro r H' ⟨m2,x,KM,T2,rfl,rfl,hx⟩;clear hC;have hR:=UE ops d 0;generalize oF ops d 0=R at*;obtain⟨R1,n,e⟩:=R;simp only[]at hx⊢;by_cases g3:e=0
  ·subst g3
   obtain⟨rfl,sS⟩:=hx rfl;rcases sS with⟨e1,e2,e3⟩|⟨id,⟨i0,i1⟩,i3,e1,e2⟩
   ·subst e1 e2
    rw[e3];clear e3 hx hR;refine aD ?_;exact aC
   ·subst e1 e2
    clear hx hR;refine aD ?_;exact aC
  ·have pY:=hR g3
   simp only[]at pY;rw[pY];clear hx hR pY;unfold nG;refine aD ?_;exact aC
 ·rw[if_neg g1]
  unfold bM nG at*;refine aD ?_;exact aC
theorem aO5(st:List aH)(ops:List nH)(cap:Nat)(h1:st.length<=1000000)(h2:0+ops.length*4096<=900000):PC 19 [.agg [.snap (aA aS st),.c (.slice none 0 cap)],.snap (aA bJ ops)] (.aU [.agg (bM (oN ⟨st,[]⟩ ops).1),zV (oN ⟨st,[]⟩ ops).2.1,zV (oN ⟨st,[]⟩ ops).2.2]):=by
 refine bI Tryz.func19 Tryz.ntmps19 (by simp only[go_sem,bM]) ?_
 have c0:=CZ ⟨st,[]⟩ h1 (iG _);have c1:PC 34 [.agg [.snap (aA aS st),.c (.slice none 0 cap)]] (zV (dM ⟨st,[]⟩)):=c0.less (jH (BJ (jH (.refl _) (jH .nil sD))) sD);clear c0;unfold oN;by_cases g1:dM ⟨st,[]⟩=0
 ·rw[if_pos g1]
  have c2:=U0 st h1;have c3:=aN4 cap;rw[g1]at c1;unfold bM;refine aD ?_;refine kA Tryz.func52 Tryz.ntmps52 ?_;refine aD ?_;have hC:bB (rH (fun id=>2<=id/\id≠12) [] 60 (.c (.slice none 0 0)) []):=⟨.inl ⟨rfl,rfl,rfl⟩⟩
  refine CV (Hg 12 60 ⟨st,[]⟩ (.c (.slice none 0 0)) _ ops (by omega) (by omega) hC.out h2 g1) ?_
  rintro r H' ⟨m2,x,KM,T2,rfl,rfl,hx⟩;clear hC;have hR:=UE ops ⟨st,[]⟩ 0;generalize oF ops ⟨st,[]⟩ 0=R at*;obtain⟨R1,n,e⟩:=R;simp only[]at hx⊢;by_cases g3:e=0
  ·subst g3
   obtain⟨rfl,sS⟩:=hx rfl;rcases sS with⟨e1,e2,e3⟩|⟨id,⟨i0,i1⟩,i3,e1,e2⟩
   ·subst e1 e2
    rw[e3];clear e3 hx hR;refine aD ?_;exact aC
   ·subst e1 e2
    clear hx hR;refine aD ?_;exact aC
  ·have pY:=hR g3
   simp only[]at pY;rw[pY];clear hx hR pY;unfold nG;refine aD ?_;exact aC
 ·rw[if_neg g1]
  unfold bM nG;refine aD ?_;exact aC
theorem aO6(st:List aH)(ops:List nH)(a:Addr)(cap:Nat)(h1:st.length<=1000000)(h2:0+ops.length*4096<=900000):PC 19 [.agg [.snap (aA aS st),.c (.slice (some a) 0 cap)],.snap (aA bJ ops)] (.aU [.agg (bM (oN ⟨st,[]⟩ ops).1),zV (oN ⟨st,[]⟩ ops).2.1,zV (oN ⟨st,[]⟩ ops).2.2]):=by
 refine bI Tryz.func19 Tryz.ntmps19 (by simp only[go_sem,bM]) ?_
 have c0:=CZ ⟨st,[]⟩ h1 (iG _);have c1:PC 34 [.agg [.snap (aA aS st),.c (.slice (some a) 0 cap)]] (zV (dM ⟨st,[]⟩)):=c0.less (jH (BJ (jH (.refl _) (jH .nil sD))) sD);clear c0;unfold oN;by_cases g1:dM ⟨st,[]⟩=0
 ·rw[if_pos g1]
  have c2:=U0 st h1;have c3:=aN5 a cap;rw[g1]at c1;unfold bM;refine aD ?_;refine kA Tryz.func52 Tryz.ntmps52 ?_;refine aD ?_;have hC:bB (rH (fun id=>2<=id/\id≠12) [] 60 (.own 9 0 0) [(9,some (.cells 176 9 [] true true))]):=⟨.inr ⟨9,⟨by omega,by omega⟩,by omega,rfl,rfl⟩⟩
  refine CV (Hg 12 60 ⟨st,[]⟩ (.own 9 0 0) _ ops (by omega) (by omega) hC.out h2 g1) ?_
  rintro r H' ⟨m2,x,KM,T2,rfl,rfl,hx⟩;clear hC;have hR:=UE ops ⟨st,[]⟩ 0;generalize oF ops ⟨st,[]⟩ 0=R at*;obtain⟨R1,n,e⟩:=R;simp only[]at hx⊢;by_cases g3:e=0
  ·subst g3
   obtain⟨rfl,sS⟩:=hx rfl;rcases sS with⟨e1,e2,e3⟩|⟨id,⟨i0,i1⟩,i3,e1,e2⟩
   ·subst e1 e2
    rw[e3];clear e3 hx hR;refine aD ?_;exact aC
   ·subst e1 e2
    clear hx hR;refine aD ?_;exact aC
  ·have pY:=hR g3
   simp only[]at pY;rw[pY];clear hx hR pY;unfold nG;refine aD ?_;exact aC
 ·rw[if_neg g1]
  unfold bM nG;refine aD ?_;exact aC
theorem UF(d:bL)(ops:List nH)(h1:d.st.length<=1000000)(h2:d.ca.length+ops.length*4096<=900000):PC 19 [.agg (bM d),.snap (aA bJ ops)] (.aU [.agg (bM (oN d ops).1),zV (oN d ops).2.1,zV (oN d ops).2.2]):=by
 by_cases h:d.ca=[]
 ·obtain⟨st,ca⟩:=d
  simp only[]at h h1 h2;subst h;refine eU.aO7 (pre:=[.snap (aA aS st)]) (post:=[]) fun a cap=> ?_
  cases a with
  |none=>exact aO5 st ops cap h1 (by simpa using h2)
  |some a=>exact aO6 st ops a cap h1 (by simpa using h2)
 ·exact aO4 d ops h h1 h2
theorem aO8(l:List (Int×Int×List aH)):∀row∈aA bJ l,∀x∈row,bK x:=fun row hr x hx=>by
 simp only[aA,kV]at hr;obtain⟨o,_,rfl⟩:=hr;exact Up o x hx
theorem aO9(n:Nat)(e:Int):KN (.aU [.own 0 0 n,zV e]):= .inr ⟨_,rfl,fun x hx=>by
 simp only[cG,jF,or_false]at hx;rcases hx with rfl|rfl
 ·exact .inl ⟨0,n,rfl⟩
 ·exact .inr (.c _)⟩
theorem aP2(d:bL)(a:Int)(p:List Int)(A B:List aH)(x y:List Int)(gx gy N:Int)(hp:p.length<=31)(hA:A.length=8)(hB:B.length=8)(h3:0<=a)(h4:a<=1000000)(hN:N=0\/N=1)(hk:∀s∈A++B,dC s)(UG:iO (A++B)≠4294967295)(hc:PC 161 [.agg (bM d),zV a] (.aU [.agg [zV gx,.snap (aA aN x),.snap (aA aS A),zV gy,.snap (aA aN y),.snap (aA aS B)],zV N,zV 0])):
  D3 Tryz.prog 88 [.agg (bM d),zV a,.snap (aA aN p)] (.aU [.own 0 0 2,zV 0]) 100 3 (aA bJ [(0,a+8-8*N,lK (iO (A++B)+1) p),(1,0,[])]):=by
 refine aP3 Tryz.func88 Tryz.ntmps88 (by simp only[go_sem,bM]) (aO9 2 0) (aO8 _) ?_
 have hT:=Ur _ hk;have g2:¬(31:Int)<p.length:=by omega
 have Hd:=gS A;have He:=gS B;have e0:A.take 0=[]:=rfl;have e2:iO ([]:List aH)=0:=rfl;unfold bM at hc⊢;refine aG ?_;refine kC 3 ?_;refine kM ?_;refine aG ?_;refine zS 8 40 [] (fun k=> [(37,true,zV k),(36,true,zV 8),(35,true,.snap (aA aS A)),(31,true,zV 0),(30,true,.agg [zV gx,.snap (aA aN x),.snap (aA aS A),zV gy,.snap (aA aN y),.snap (aA aS B)]),(11,true,zV (iO (A.take k))),(9,true,zV N),(1,true,zV a),(2,true,.snap (aA aN p))]) aT (fun k m qA hm=> ?_) (fun m hm=> ?_)
 ·have hs:=(hk (A.getD k aE) (wB _ (cQ aE (by omega)))).1
  have c2:=OK (A.getD k aE) hs;have h7:=Uq (l:=A) (k:=k) (by omega)
  have h8:(if bN (A.getD k aE)>iO (A.take k)then bN (A.getD k aE)else iO (A.take k))=iO (A.take (k+1)):=by
   rw[<-h7];split<;>omega
  clear hk hs h7;refine aG ?_;refine⟨m+9,by omega,?_⟩
  exact aT
 ·have e8:A.take 8=A:=eD (by omega)
  have e9:iO (A++B.take 0)=iO A:=by rw[xE,mD]
  rw[e8];refine aG ?_;refine zS 8 (m+40) [] (fun k=> [(37,true,zV k),(36,true,zV 8),(35,true,.snap (aA aS B)),(31,true,zV 1),(30,true,.agg [zV gx,.snap (aA aN x),.snap (aA aS A),zV gy,.snap (aA aN y),.snap (aA aS B)]),(11,true,zV (iO (A++B.take k))),(9,true,zV N),(1,true,zV a),(2,true,.snap (aA aN p))]) aT (fun k m qA hm=> ?_) (fun m hm=> ?_)
  ·have hs:=(hk (B.getD k aE) (uE _ (cQ aE (by omega)))).1
   have c2:=OK (B.getD k aE) hs;have h7:=Vh (A:=A) (B:=B) (k:=k) (by omega)
   have h8:(if bN (B.getD k aE)>iO (A++B.take k)then bN (B.getD k aE)else iO (A++B.take k))=iO (A++B.take (k+1)):=by
    rw[<-h7];split<;>omega
   clear hk hs h7 e9 e8;refine aG ?_;refine⟨m+9,by omega,?_⟩
   exact aT
  ·have UD:B.take 8=B:=eD (by omega)
   rw[UD];clear hk e9 e8 UD Hd He;generalize iO (A++B)=T at*;have c3:=Gp (T+1) p hp;have w1:IntKind.i64.wrap (T+1)=T+1:=IntWalk.i64_in _ (by omega)
   have w2:IntKind.i64.wrap (1-N)=1-N:=IntWalk.i64_in _ (by omega)
   have w3:IntKind.i64.wrap ((1-N)*8)=(1-N)*8:=IntWalk.i64_in _ (by omega)
   have w4:IntKind.i64.wrap (a+(1-N)*8)=a+8-8*N:=by rw[IntWalk.i64_in _ (by omega)];omega
   refine aG ?_;refine⟨m,rfl,[[zV 0,zV (a+8-8*N),.snap (aA aS (lK (T+1) p))],[zV 1,zV 0,.c (.slice none 0 0)]],?_,yN (TZ _) (yN (jH (.refl _) (jH (.refl _) (jH .nil sD))) CY)⟩;exact lT
theorem aP4{d:bL}{a:Int}{p:List Int}(h:(lU d a p).2=0):(lU d a p).1.length=2:=by
 unfold lU at h⊢;split
 ·rename_i h1
  rw[if_pos h1]at h;split
  ·rename_i h2
   rw[if_pos h2]at h;exact absurd h (by decide)
  ·rename_i h2
   rw[if_neg h2]at h;split
   ·rename_i h3
    rw[if_pos h3]at h;exact absurd h (by decide)
   ·rfl
 ·rename_i h1
  rw[if_neg h1]at h;exact absurd h h1
theorem Vi(A B:List Int×Int):(pF A B).1=0\/(pF A B).1=1:=by
 unfold pF;split
 ·split
  ·exact .inl rfl
  ·exact .inr rfl
 ·split
  ·exact .inl rfl
  ·exact .inl rfl
theorem aP5(d:bL)(a:Int)(p:List Int)(hs:d.st.length<=1000000)(h2:d.ca.length<=1000000)(hk:∀s∈fA d.st d.ca,dC s)(h:(lU d a p).2=0):
  D3 Tryz.prog 88 [.agg (bM d),zV a,.snap (aA aN p)] (.aU [.own 0 0 2,zV 0]) 100 3 (aA bJ (lU d a p).1):=by
 by_cases g0:(oE d a).2.2.2.2=0
 ·have g:(tO d a 16).2=0:=by
   by_cases g:(tO d a 16).2=0
   ·exact g
   ·rw[Gw hs g]at g0;exact absurd g0 g
  obtain⟨h0,h3,h4⟩:=Gv g;have iX:∀s∈cN d a,dC s:=fun s hs=>hk s (lJ (oS hs))
  have gA:=OL (l:=(cN d a).take 8) fun s hs=>iX s (oS hs)
  have gB:=OL (l:=(cN d a).drop 8) fun s hs=>iX s (lJ hs)
  have hf:=Gx h0 h3 h4 gA.1 gB.1;have c:=Gu d a hs h2 hk h0 h3 h4;have e0:=wJ d.ca d.st;have e1:(cN d a).length=16:=by unfold cN;rw[cU,eF];omega
  have e2:(cN d a).take 8++(cN d a).drop 8=cN d a:=yJ 8 _;unfold lU at h⊢;rw[if_pos g0]at h⊢;by_cases g1:31<p.length
  ·rw[if_pos g1]at h;exact absurd h (by decide)
  rw[if_neg g1]at h⊢;by_cases g2:iO (cN d a)=4294967295
  ·rw[if_pos g2]at h;exact absurd h (by decide)
  rw[if_neg g2]
  have hn:(pF (eB ((cN d a).take 8)) (eB ((cN d a).drop 8))).2=0/\(oE d a).2.1=(pF (eB ((cN d a).take 8)) (eB ((cN d a).drop 8))).1/\((pF (eB ((cN d a).take 8)) (eB ((cN d a).drop 8))).1=0\/(pF (eB ((cN d a).take 8)) (eB ((cN d a).drop 8))).1=1):=by
   by_cases g3:(pF (eB ((cN d a).take 8)) (eB ((cN d a).drop 8))).2=0
   ·rw[if_pos g3]at hf
    by_cases g4:(pF (eB ((cN d a).take 8)) (eB ((cN d a).drop 8))).1=1
    ·rw[if_pos g4]at hf
     exact⟨g3,by rw[hf,g4],.inr g4⟩
    ·rw[if_neg g4]at hf
     have g5:(pF (eB ((cN d a).take 8)) (eB ((cN d a).drop 8))).1=0:=by
      have:=Vi (eB ((cN d a).take 8)) (eB ((cN d a).drop 8));rcases this with h|h
      ·exact h
      ·exact absurd h g4
     exact⟨g3,by rw[hf,g5],.inl g5⟩
   ·rw[if_neg g3]at hf
    rw[hf]at g0;exact absurd g0 (by decide)
  obtain⟨n1,n2,n3⟩:=hn;rw[n2];rw[n1]at c;have t:=aP2 d a p ((cN d a).take 8) ((cN d a).drop 8) _ _ _ _ _ (by omega) (by rw[cU];omega) (by rw[eF];omega) h3 (by omega) n3 (by rw[e2];exact iX) (by rw[e2];exact g2) c
  rw[e2]at t;exact t
 ·unfold lU at h
  rw[if_neg g0]at h;exact absurd h g0
theorem Vj(d:bL)(a e:Int)(p:List Int)(A B:List Int×Int)(l m:List aH)(n:Int)(he:e≠0)(hc:PC 161 [.agg (bM d),zV a] (.aU [.agg (BK A B l m),zV n,zV e])):PC 88 [.agg (bM d),zV a,.snap (aA aN p)] (.aU [.snap (aA bJ []),zV e]):=by
 refine bI Tryz.func88 Tryz.ntmps88 (by simp only[go_sem]) ?_
 unfold bM BK at*;refine aG ?_;exact aC
theorem aP6(A B:List Int×Int):(pF A B).2=0\/(pF A B).2=9:=by
 unfold pF;split
 ·split
  ·exact .inr rfl
  ·exact .inl rfl
 ·split
  ·exact .inr rfl
  ·exact .inl rfl
theorem aP7(d:bL)(a:Int)(p:List Int)(hp:p.length<=31)(hs:d.st.length<=1000000)(h2:d.ca.length<=1000000)(hk:∀s∈fA d.st d.ca,dC s)(h:(lU d a p).2≠0):
  PC 88 [.agg (bM d),zV a,.snap (aA aN p)] (.aU [.snap (aA bJ []),zV (lU d a p).2]):=by
 by_cases g:(tO d a 16).2=0
 ·obtain⟨h0,h3,h4⟩:=Gv g
  have iX:∀s∈cN d a,dC s:=fun s hs=>hk s (lJ (oS hs))
  have gA:=OL (l:=(cN d a).take 8) fun s hs=>iX s (oS hs)
  have gB:=OL (l:=(cN d a).drop 8) fun s hs=>iX s (lJ hs)
  have hf:=Gx h0 h3 h4 gA.1 gB.1;have c:=Gu d a hs h2 hk h0 h3 h4;have e0:=wJ d.ca d.st;have e1:(cN d a).length=16:=by unfold cN;rw[cU,eF];omega
  have e2:(cN d a).take 8++(cN d a).drop 8=cN d a:=yJ 8 _;by_cases g3:(pF (eB ((cN d a).take 8)) (eB ((cN d a).drop 8))).2=0
  ·have g0:(oE d a).2.2.2.2=0:=by
    rw[hf,if_pos g3];split<;>rfl
   have g2:iO (cN d a)=4294967295:=by
    by_cases g2:iO (cN d a)=4294967295
    ·exact g2
    ·unfold lU at h
     rw[if_pos g0,if_neg (by omega),if_neg g2]at h
     exact absurd rfl h
   have g4:(lU d a p).2=11:=by
    unfold lU;rw[if_pos g0,if_neg (by omega),if_pos g2]
   rw[g3]at c;have t:=aN8 d a p ((cN d a).take 8) ((cN d a).drop 8) _ _ _ _ _ hp (by rw[cU];omega) (by rw[eF];omega) h3 (by omega) (Vi _ _) (by rw[e2];exact iX) c
   rw[e2,if_pos g2]at t;rw[g4];exact t
  ·have g9:(pF (eB ((cN d a).take 8)) (eB ((cN d a).drop 8))).2=9:=by
    have:=aP6 (eB ((cN d a).take 8)) (eB ((cN d a).drop 8));rcases this with h|h
    ·exact absurd h g3
    ·exact h
   have g4:(lU d a p).2=9:=by
    unfold lU;rw[hf,if_neg g3];rfl
   rw[g9]at c;rw[g4];exact Vj d a 9 p _ _ _ _ _ (by decide) c
 ·have g4:(lU d a p).2=(tO d a 16).2:=by
   unfold lU;rw[Gw hs g,if_neg g]
  rw[g4];exact Vj d a _ p _ _ _ _ _ g (Uv d a hs h2 g)
@[go_sem] theorem cz7(G:Nat->Option aI)(k:Nat)(l:List Int):((aA aN l).all fun row=>row.all (fresh G k))=true:=by
  rw[gK];intro row hr;simp only[aA,kV]at hr;obtain⟨x,_,rfl⟩:=hr;cases k<;>rfl
theorem aP8{d:bL}{a:Int}{p:List Int}(h:(lU d a p).2≠0):(lU d a p).1=[]:=by
 unfold lU at h⊢;split
 ·rename_i h1
  rw[if_pos h1]at h;split
  ·rfl
  ·rename_i h2
   rw[if_neg h2]at h;split
   ·rfl
   ·rename_i h3
    rw[if_neg h3]at h;exact absurd rfl h
 ·rfl
theorem aP9(d:bL)(a:Int)(p:List Int)(hp:p.length<=31)(hs:d.st.length<=1000000)(h2:d.ca.length<=1000000)(hk:∀s∈fA d.st d.ca,dC s):
  PC 88 [.agg (bM d),zV a,.snap (aA aN p)] (.aU [.snap (aA bJ (lU d a p).1),zV (lU d a p).2]):=by
 by_cases h:(lU d a p).2=0
 ·have t:=aP5 d a p hs h2 hk h
  have hl:=aP4 h;rw[h];refine t.Vk (by simp only[go_sem]) ?_
  generalize (lU d a p).1=F at*;have e:List.take 2 F=F:=eD (by omega)
  simp only[go_sem,qS,zU,aX,hl,e];exact .refl _
 ·rw[aP8 h]
  exact aP7 d a p hp hs h2 hk h
def OP(n lo hi:Int):Bool:=decide (lo<=n)&&decide (n<=hi)
theorem Hh(n lo hi:Int):PC 187 [zV n,zV lo,zV hi] (bV (OP n lo hi)):=by
 refine bI Tryz.func187 Tryz.ntmps187 (.c _) ?_;unfold OP;by_cases g1:lo<=n
 ·refine aG ?_
  exact aC
 ·refine aG ?_
  exact aC
def zW(n:Int):Bool:= !(OP n 0 1073741824)
theorem aQ2(n:Int):PC 232 [zV n] (bV (zW n)):=by
 refine bI Tryz.func232 Tryz.ntmps232 (.c _) ?_;have c1:=Hh n 0 1073741824;unfold zW;refine aG ?_;exact aC
theorem aQ3(l:List Int)(hl:l.length<=1000000):PC 274 [.snap (aA bD l),.fn (.func 232) [] []] (zV (sB (l.findIdx? zW))):=by
 refine bI Tryz.func274 Tryz.ntmps274 (.c _) ?_;unfold sB;refine aG ?_;have hg:=gI l;have c1:=aQ2;refine fK (α:=Unit) l.length (fun k _=> [(8,true,zV k),(7,true,zV l.length),(0,true,.snap (aA bD l)),(1,true,.fn (.func 232) [] [])]) (fun _ _=> []) (fun k m _=>∀i,i<k->zW (l.getD i 0)=false) ⟨0,(),fun i hi=>by omega,aT⟩ (fun k m _ hk hR=> ?_) (fun m _ hR=> ?_)
 ·refine aG ?_
  refine Uf (fun h=> ?_) (fun h=> ?_)
  ·have hf:l.findIdx? zW=some k:=by
    rw[K8];exact⟨hk,by simpa[hk]using h,fun j hj=>by have:=hR j hj;simp[show j<l.length by omega]at this;simpa using this⟩
   refine aG ?_;exact aC
  ·refine aG ?_
   refine⟨m,(),fun i hi=> ?_,aT⟩
   by_cases iH:i=k
   ·subst iH;exact h
   ·exact hR i (by omega)
 ·have hf:l.findIdx? zW=none:=by
   rw[K9];intro x hx;obtain⟨i,hi⟩:=FY.1 hx;obtain⟨h1,h2⟩:=dV.1 hi;have:=hR i h1;simp[h1,h2]at this;exact this
  refine aG ?_;exact aC
theorem Hi{α:Type}(q:α->Bool)(l:List α):decide (0<=sB (l.findIdx? q))=l.any q:=by
 cases h:l.findIdx? q with
 |none=>
  rw[K9]at h;simp only[sB];symm;simpa using h
 |some i=>
  rw[K8]at h;obtain⟨h1,h2,_⟩:=h;simp only[sB];have:l.any q=true:=vX.2 ⟨_,FZ h1,h2⟩;rw[this];simp
theorem aQ4(l:List Int)(hl:l.length<=1000000):PC 231 [.snap (aA bD l),.fn (.func 232) [] []] (bV (l.any zW)):=by
 refine bI Tryz.func231 Tryz.ntmps231 (.c _) ?_;have c1:=aQ3 l hl;have h1:=Hi zW l;refine aG ?_;exact aC
def OQ(l:List Int):Int:=if 8<l.length then 6 else if l.any zW=true then 2 else 0
theorem aQ5(l:List Int)(hl:l.length<=1000000):PC 188 [.snap (aA bD l),zV 0] (zV (OQ l)):=by
 refine bI Tryz.func188 Tryz.ntmps188 (.c _) ?_;have c1:=Hh (l.length:Int) 0 8;have c2:=aQ4 l hl;unfold OQ;unfold OP at c1;by_cases g1:8<l.length
 ·rw[if_pos g1]
  rw[xG (by omega),CT (by omega)]at c1
  refine aG ?_;exact aC
 ·rw[if_neg g1]
  rw[xG (by omega),xG (by omega)]at c1
  cases h:l.any zW with
  |true=>
   rw[h]at c2;refine aG ?_;exact aC
  |false=>
   rw[h]at c2;refine aG ?_;exact aC
def oG(im:List (List aH)):List Int:=im.map fun v=>(v.length:Int)
theorem gV(l:List (List aH))(k:Nat)(h:k<l.length):(aA tM l)[k]? =some (tM (l.getD k [])):=pD [] h
theorem aQ6(v:List aH):PC 303 [.snap (aA aS v)] (zV v.length):=by
 refine bI Tryz.func303 Tryz.ntmps303 (.c _) ?_;refine aG ?_;exact aC
theorem aQ7(im:List (List aH))(hl:im.length<=1000):PC 302 [.snap (aA tM im),.fn (.func 303) [] []] (.snap (aA bD (oG im))):=by
 refine bI Tryz.func302 Tryz.ntmps302 (kL _) ?_;have hg:=gV im;have c1:=aQ6;unfold oG;refine aG ?_;refine fK (α:=Nat) im.length (fun k id=> [(13,true,zV k),(12,true,zV im.length),(11,true,.snap (aA tM im)),(1,true,.fn (.func 303) [] []),(5,true,.own id 0 k)]) (fun k id=> [(id,some (.cells 3 1 (aA bD ((im.map fun v=>(v.length:Int)).take k)) true true))]) (fun k m id=>id<m) ⟨9,0,by omega,aT⟩ (fun k m id hk hR=> ?_) (fun m id hR=> ?_)
 ·have h5:=Uh (fun v:List aH=>(v.length:Int)) [] hk
  have h6:((im.map fun v=>(v.length:Int)).take k).length=k:=by simp;omega
  refine aG ?_;exact⟨m+2,m+1,by omega,aT⟩
 ·have h6:(im.map fun v=>(v.length:Int)).take im.length=im.map fun v=>(v.length:Int):=eD (by simp)
  refine aG ?_;exact aC
theorem aQ8(im:List (List aH))(hl:im.length<=1000):PC 294 [.snap (aA tM im)] (.snap (aA bD (oG im))):=by
 refine bI Tryz.func294 Tryz.ntmps294 (kL _) ?_;have c1:=aQ7 im hl;refine aG ?_;exact aC
theorem Hj(im:List (List aH)):(oG im).length=im.length:=by simp[oG]
theorem aQ9(im:List (List aH))(hl:im.length<=1000):PC 275 [.snap (aA tM im)] (zV (pX (oG im))):=by
 refine bI Tryz.func275 Tryz.ntmps275 (.c _) ?_;have c1:=aQ8 im hl;have c2:=Ug (oG im) (by rw[Hj];omega)
 refine aG ?_;exact aC
def xK(sz:List Int)(w:Int×Int×List aH):Int:=
 if w.1<0\/(sz.length:Int)<=w.1 then 7
 else if w.2.2.length=0 then 1
 else if w.2.1<0\/sz.getD w.1.toNat 0-w.2.2.length<w.2.1 then 2
 else 0
theorem aR1(im:List (List aH))(w:Int×Int×List aH)(hl:im.length<=1000)(hv:∀v∈im,v.length<=1000000)(hw:w.2.2.length<=1000000):PC 276 [.snap (aA tM im),.agg (bJ w)] (zV (xK (oG im) w)):=by
 refine bI Tryz.func276 Tryz.ntmps276 (.c _) ?_;have hg:=gV im;obtain⟨v,s,l⟩:=w;unfold bJ;simp only[]at*;unfold xK;by_cases g1:v<0
 ·rw[if_pos (.inl g1)]
  refine aG ?_;exact aC
 by_cases g2:(im.length:Int)<=v
 ·rw[if_pos (by rw[Hj];exact .inr g2)]
  refine aG ?_;exact aC
 rw[if_neg (by rw[Hj];omega)]
 by_cases g3:l.length=0
 ·rw[if_pos g3]
  have g4:(l.length:Int)=0:=by omega
  refine aG ?_;exact aC
 rw[if_neg g3];have g4:¬(l.length:Int)=0:=by omega
 obtain⟨n,rfl⟩:=BA (by omega:0<=v)
 have g5:n<im.length:=by omega
 have e1:(oG im).getD ((n:Int)).toNat 0=((im.getD n []).length:Int):=by
  rw[mE];unfold oG;rw[eP,eP,gE,eQ g5];rfl
 rw[e1];have Hk:=hv _ (cQ [] g5);have hgn:=hg n g5;clear hg hv e1;generalize im.getD n []=V at*;have w1:IntKind.i64.wrap ((V.length:Int)-l.length)=(V.length:Int)-l.length:=IntWalk.i64_in _ (by omega)
 by_cases g6:s<0
 ·rw[if_pos (.inl g6)]
  refine aG ?_;exact aC
 by_cases g7:(V.length:Int)-l.length<s
 ·rw[if_pos (.inr g7)]
  refine aG ?_;exact aC
 rw[if_neg (fun h=>by simp only[]at h;omega)]
 refine aG ?_;exact aC
theorem aR2(im:List (List aH))(w:Int×Int×List aH)(hl:im.length<=1000)(hv:∀v∈im,v.length<=1000000)(hw:w.2.2.length<=1000000):PC 235 [.snap (aA tM im),.agg (bJ w)] (zV (if pX (oG im)=0 then xK (oG im) w else pX (oG im))):=by
 refine bI Tryz.func235 Tryz.ntmps235 (.c _) ?_;have c1:=aQ9 im hl;have c2:=aR1 im w hl hv hw;unfold bJ at*;by_cases g:pX (oG im)=0
 ·rw[if_pos g]
  rw[g]at c1;refine aG ?_;exact aC
 ·rw[if_neg g]
  refine aG ?_;exact aC
end Go.Proofs.YtioafciifiggaaaGreatDoor
