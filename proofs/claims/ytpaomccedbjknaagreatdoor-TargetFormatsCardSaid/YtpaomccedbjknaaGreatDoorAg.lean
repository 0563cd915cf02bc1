/- Target: contracts of its functions (Ag). No condition but those named. -/
import Derived.Test.YtpaomccedbjknaaGreatDoorAf
set_option linter.all false
namespace Go.Proofs.YtpaomccedbjknaaGreatDoor
open Go.Proofs Go.AL Tryz
set_option maxRecDepth 100000
set_option maxHeartbeats 8000000
attribute [local irreducible] bT AW b8 cF dB hold
theorem PD:∀(ops:List nL) (d:bQ) (i:Nat),(mT ops d i).2.2≠0->(mT ops d i).1=oP
 |[],d,i,h=>absurd rfl h
 |o::r,d,i,h=>by
  simp only[mT]at h⊢;split
  ·rename_i h1
   rw[if_pos h1]at h;split
   ·rename_i h2
    rw[if_pos h2]at h;exact PD r _ _ h
   ·rfl
  ·rename_i h1
   rw[if_neg h1]at h;split
   ·rename_i h2
    rw[if_pos h2]at h;exact PD r _ _ h
   ·rfl
theorem ah5(d:bQ)(ops:List nL)(aT:d.ca≠[])(h1:d.st.length<=1000000)(h2:d.ca.length+ops.length*4096<=900000):PC 48 [.agg (bD d),.snap (aB aH ops)] (.aK [.agg (bD (fQ d ops).1),zV (fQ d ops).2.1,zV (fQ d ops).2.2]):=by
 refine aZ func48 ntmps48 (by simp only[go_sem,bD]) ?_
 have c1:=EW d h1 oM
 unfold fQ;by_cases g1:gE d=0
 ·rw[if_pos g1]
  have c2:=yM d.st h1;have c3:=ag6 d.ca aT oM
  rw[g1]at c1;unfold bD at c1⊢;refine aE ?_;refine eO func103 ntmps103 ?_;refine aE ?_;have hC:bC (pQ (fun id=>2<=id/\id≠12) d.ca 60 (.own 9 0 d.ca.length) [(9,some (.cells 232 9 (aB kD d.ca) true true))]):=⟨.inr ⟨9,⟨oM,oM⟩,oM,rfl,rfl⟩⟩
  refine tC (YV 12 60 d (.own 9 0 d.ca.length) _ ops oM oM hC.out h2 g1) ?_
  rintro r H' ⟨m2,x,HF,T2,rfl,rfl,hx⟩;clear hC;have hR:=PD ops d 0;generalize mT ops d 0=R at*;obtain⟨R1,n,e⟩:=R;simp only[]at hx⊢;by_cases g3:e=0
  ·subst g3
   obtain⟨rfl,pR⟩:=hx rfl;rcases pR with⟨e1,e2,e3⟩|⟨id,⟨i0,i1⟩,i3,e1,e2⟩
   ·subst e1 e2
    rw[e3];clear e3 hx hR;exact zE
   ·subst e1 e2
    clear hx hR;exact zE
  ·have pP:=hR g3
   simp only[]at pP;rw[pP];clear hx hR pP;unfold oP;exact zE
 ·rw[if_neg g1]
  unfold bD oP at*;exact zE
theorem ah6(st:List aQ)(ops:List nL)(cap:Nat)(h1:st.length<=1000000)(h2:0+ops.length*4096<=900000):PC 48 [.agg [.snap (aB aP st),.c (.slice none 0 cap)],.snap (aB aH ops)] (.aK [.agg (bD (fQ ⟨st,[]⟩ ops).1),zV (fQ ⟨st,[]⟩ ops).2.1,zV (fQ ⟨st,[]⟩ ops).2.2]):=by
 refine aZ func48 ntmps48 (by simp only[go_sem,bD]) ?_
 have c0:=EW ⟨st,[]⟩ h1 (qV _);have c1:PC 63 [.agg [.snap (aB aP st),.c (.slice none 0 cap)]] (zV (gE ⟨st,[]⟩)):=c0.less (eE (vD (eE (.refl _) (eE .nil mS))) mS);clear c0;unfold fQ;by_cases g1:gE ⟨st,[]⟩=0
 ·rw[if_pos g1]
  have c2:=yM st h1;have c3:=ag7 cap;rw[g1]at c1;unfold bD;refine aE ?_;refine eO func103 ntmps103 ?_;refine aE ?_;have hC:bC (pQ (fun id=>2<=id/\id≠12) [] 60 (.c (.slice none 0 0)) []):=⟨.inl ⟨rfl,rfl,rfl⟩⟩
  refine tC (YV 12 60 ⟨st,[]⟩ (.c (.slice none 0 0)) _ ops oM oM hC.out h2 g1) ?_
  rintro r H' ⟨m2,x,HF,T2,rfl,rfl,hx⟩;clear hC;have hR:=PD ops ⟨st,[]⟩ 0;generalize mT ops ⟨st,[]⟩ 0=R at*;obtain⟨R1,n,e⟩:=R;simp only[]at hx⊢;by_cases g3:e=0
  ·subst g3
   obtain⟨rfl,pR⟩:=hx rfl;rcases pR with⟨e1,e2,e3⟩|⟨id,⟨i0,i1⟩,i3,e1,e2⟩
   ·subst e1 e2
    rw[e3];clear e3 hx hR;exact zE
   ·subst e1 e2
    clear hx hR;exact zE
  ·have pP:=hR g3
   simp only[]at pP;rw[pP];clear hx hR pP;unfold oP;exact zE
 ·rw[if_neg g1]
  unfold bD oP;exact zE
theorem ah7(st:List aQ)(ops:List nL)(a:Addr)(cap:Nat)(h1:st.length<=1000000)(h2:0+ops.length*4096<=900000):PC 48 [.agg [.snap (aB aP st),.c (.slice (some a) 0 cap)],.snap (aB aH ops)] (.aK [.agg (bD (fQ ⟨st,[]⟩ ops).1),zV (fQ ⟨st,[]⟩ ops).2.1,zV (fQ ⟨st,[]⟩ ops).2.2]):=by
 refine aZ func48 ntmps48 (by simp only[go_sem,bD]) ?_
 have c0:=EW ⟨st,[]⟩ h1 (qV _);have c1:PC 63 [.agg [.snap (aB aP st),.c (.slice (some a) 0 cap)]] (zV (gE ⟨st,[]⟩)):=c0.less (eE (vD (eE (.refl _) (eE .nil mS))) mS);clear c0;unfold fQ;by_cases g1:gE ⟨st,[]⟩=0
 ·rw[if_pos g1]
  have c2:=yM st h1;have c3:=ag8 a cap;rw[g1]at c1;unfold bD;refine aE ?_;refine eO func103 ntmps103 ?_;refine aE ?_;have hC:bC (pQ (fun id=>2<=id/\id≠12) [] 60 (.own 9 0 0) [(9,some (.cells 232 9 [] true true))]):=⟨.inr ⟨9,⟨oM,oM⟩,oM,rfl,rfl⟩⟩
  refine tC (YV 12 60 ⟨st,[]⟩ (.own 9 0 0) _ ops oM oM hC.out h2 g1) ?_
  rintro r H' ⟨m2,x,HF,T2,rfl,rfl,hx⟩;clear hC;have hR:=PD ops ⟨st,[]⟩ 0;generalize mT ops ⟨st,[]⟩ 0=R at*;obtain⟨R1,n,e⟩:=R;simp only[]at hx⊢;by_cases g3:e=0
  ·subst g3
   obtain⟨rfl,pR⟩:=hx rfl;rcases pR with⟨e1,e2,e3⟩|⟨id,⟨i0,i1⟩,i3,e1,e2⟩
   ·subst e1 e2
    rw[e3];clear e3 hx hR;exact zE
   ·subst e1 e2
    clear hx hR;exact zE
  ·have pP:=hR g3
   simp only[]at pP;rw[pP];clear hx hR pP;unfold oP;exact zE
 ·rw[if_neg g1]
  unfold bD oP;exact zE
theorem Kr(d:bQ)(ops:List nL)(h1:d.st.length<=1000000)(h2:d.ca.length+ops.length*4096<=900000):PC 48 [.agg (bD d),.snap (aB aH ops)] (.aK [.agg (bD (fQ d ops).1),zV (fQ d ops).2.1,zV (fQ d ops).2.2]):=by
 by_cases h:d.ca=[]
 ·obtain⟨st,ca⟩:=d
  simp only[]at h h1 h2;subst h;refine eA.ah8 (pre:=[.snap (aB aP st)]) (post:=[]) fun a cap=> ?_
  cases a with
  |none=>exact ah6 st ops cap h1 (by simpa using h2)
  |some a=>exact ah7 st ops a cap h1 (by simpa using h2)
 ·exact ah5 d ops h h1 h2
theorem PE(l:List (Int×Int×List aQ)):∀row∈aB aH l,∀x∈row,bF x:=fun row hr x hx=>by
 simp only[aB,mF]at hr;obtain⟨o,_,rfl⟩:=hr;exact Jq o x hx
theorem ah9(n:Nat)(e:Int):EZ (.aK [.own 0 0 n,zV e]):= .inr ⟨_,rfl,fun x hx=>by
 simp only[dJ,iI,or_false]at hx;rcases hx with rfl|rfl
 ·exact .inl ⟨0,n,rfl⟩
 ·exact .inr (.c _)⟩
theorem YW(r:List AV)(h:bF (.agg r))(n:Nat)(e:Int):EZ (.aK [.agg r,.own 0 0 n,zV e]):= .inr ⟨_,rfl,fun x hx=>by
 simp only[dJ,iI,or_false]at hx;rcases hx with rfl|rfl|rfl
 ·exact .inr h
 ·exact .inl ⟨0,n,rfl⟩
 ·exact .inr (.c _)⟩
theorem ai0(d:bQ)(a:Int)(p:List Int)(A B:List aQ)(x y:List Int)(gx gy N:Int)(hp:p.length<=31)(hA:A.length=8)(hB:B.length=8)(h3:0<=a)(h4:a<=1000000)(hN:N=0\/N=1)(hk:∀s∈A++B,kL s)(hTn:j9 (A++B)≠4294967295)(hc:PC 253 [.agg (bD d),zV a] (.aK [.agg [zV gx,.snap (aB aO x),.snap (aB aP A),zV gy,.snap (aB aO y),.snap (aB aP B)],zV N,zV 0])):
  wJ prog 219 [.agg (bD d),zV a,.snap (aB aO p)] (.aK [.own 0 0 2,zV 0]) 105 3 (aB aH [(0,a+8-8*N,tD (j9 (A++B)+1) p),(1,0,[])]):=by
 refine TV func219 ntmps219 (by simp only[go_sem,bD]) (ah9 2 0) (PE _) ?_
 have hT:=Jx _ hk;have g2:¬(31:Int)<p.length:=oM
 have YT:=gS A;have YU:=gS B;have e0:A.take 0=[]:=rfl;have e2:j9 ([]:List aQ)=0:=rfl;unfold bD at hc⊢;refine aM ?_;refine fZ 3 ?_;refine gD ?_;refine aM ?_;refine nS 8 40 [] (fun k=> [(37,true,zV k),(36,true,zV 8),(35,true,.snap (aB aP A)),(31,true,zV 0),(30,true,.agg [zV gx,.snap (aB aO x),.snap (aB aP A),zV gy,.snap (aB aO y),.snap (aB aP B)]),(11,true,zV (j9 (A.take k))),(9,true,zV N),(1,true,zV a),(2,true,.snap (aB aO p))]) aG (fun k m r8 hm=> ?_) (fun m hm=> ?_)
 ·have hs:=(hk (A.getD k bS) (GQ _ (eB bS oM))).1
  have c2:=KV (A.getD k bS) hs;have h7:=Jw (l:=A) (k:=k) oM
  have h8:(if kV (A.getD k bS)>j9 (A.take k)then kV (A.getD k bS)else j9 (A.take k))=j9 (A.take (k+1)):=by
   rw[<-h7];split<;>omega
  clear hk hs h7;refine aM ?_;refine⟨m+9,oM,?_⟩
  exact aG
 ·have e8:A.take 8=A:=cN oM
  have e9:j9 (A++B.take 0)=j9 A:=by rw[ER,v7]
  rw[e8];refine aM ?_;refine nS 8 (m+40) [] (fun k=> [(37,true,zV k),(36,true,zV 8),(35,true,.snap (aB aP B)),(31,true,zV 1),(30,true,.agg [zV gx,.snap (aB aO x),.snap (aB aP A),zV gy,.snap (aB aO y),.snap (aB aP B)]),(11,true,zV (j9 (A++B.take k))),(9,true,zV N),(1,true,zV a),(2,true,.snap (aB aO p))]) aG (fun k m r8 hm=> ?_) (fun m hm=> ?_)
  ·have hs:=(hk (B.getD k bS) (OQ _ (eB bS oM))).1
   have c2:=KV (B.getD k bS) hs;have h7:=Kq (A:=A) (B:=B) (k:=k) oM
   have h8:(if kV (B.getD k bS)>j9 (A++B.take k)then kV (B.getD k bS)else j9 (A++B.take k))=j9 (A++B.take (k+1)):=by
    rw[<-h7];split<;>omega
   clear hk hs h7 e9 e8;refine aM ?_;refine⟨m+9,oM,?_⟩
   exact aG
  ·have PA:B.take 8=B:=cN oM
   rw[PA];clear hk e9 e8 PA YT YU;generalize j9 (A++B)=T at*;have c3:=YO (T+1) p hp;have w1:IntKind.i64.wrap (T+1)=T+1:=IntWalk.i64_in _ oM
   have w2:IntKind.i64.wrap (1-N)=1-N:=IntWalk.i64_in _ oM
   have w3:IntKind.i64.wrap ((1-N)*8)=(1-N)*8:=IntWalk.i64_in _ oM
   have w4:IntKind.i64.wrap (a+(1-N)*8)=a+8-8*N:=by rw[IntWalk.i64_in _ oM];omega
   refine aM ?_;refine⟨m,rfl,[[zV 0,zV (a+8-8*N),.snap (aB aP (tD (T+1) p))],[zV 1,zV 0,.c (.slice none 0 0)]],?_,u3 (tY _) (u3 (eE (.refl _) (eE (.refl _) (eE .nil mS))) BH)⟩;exact eN
def xF(d:bQ)(r:eD):eD×List (Int×Int×List aQ)×Int:=
 if(iN d r.gQ (gR r)).2=0 then(r,(iN d r.gQ (gR r)).1,0)else(iK,[],(iN d r.gQ (gR r)).2)
theorem YX{d:bQ}{a:Int}{p:List Int}(h:(iN d a p).2=0):(iN d a p).1.length=2:=by
 unfold iN at h⊢;split
 ·rename_i h1
  rw[if_pos h1]at h;split
  ·rename_i h2
   rw[if_pos h2]at h;exact absurd h dE
  ·rename_i h2
   rw[if_neg h2]at h;split
   ·rename_i h3
    rw[if_pos h3]at h;exact absurd h dE
   ·rfl
 ·rename_i h1
  rw[if_neg h1]at h;exact absurd h h1
theorem Ks(A B:List Int×Int):(qG A B).1=0\/(qG A B).1=1:=by
 unfold qG;split
 ·split
  ·exact .inl rfl
  ·exact .inr rfl
 ·split
  ·exact .inl rfl
  ·exact .inl rfl
theorem Kt(d:bQ)(a:Int)(p:List Int)(hs:d.st.length<=1000000)(h2:d.ca.length<=1000000)(hk:∀s∈k9 d.st d.ca,kL s)(h:(iN d a p).2=0):
  wJ prog 219 [.agg (bD d),zV a,.snap (aB aO p)] (.aK [.own 0 0 2,zV 0]) 105 3 (aB aH (iN d a p).1):=by
 by_cases g0:(BJ d a).2.2.2.2=0
 ·have g:(u4 d a 16).2=0:=by
   by_cases g:(u4 d a 16).2=0
   ·exact g
   ·rw[Kf hs g]at g0;exact absurd g0 g
  obtain⟨h0,h3,h4⟩:=Ke g;have nT:∀s∈cO d a,kL s:=fun s hs=>hk s (BA (GO hs))
  have gA:=TR (l:=(cO d a).take 8) fun s hs=>nT s (GO hs)
  have gB:=TR (l:=(cO d a).drop 8) fun s hs=>nT s (BA hs)
  have hf:=Kg h0 h3 h4 gA.1 gB.1;have c:=Kc d a hs h2 hk h0 h3 h4;have e0:=BI d.ca d.st;have e1:(cO d a).length=16:=by unfold cO;rw[dX,kR];omega
  have e2:(cO d a).take 8++(cO d a).drop 8=cO d a:=Y4 8 _;unfold iN at h⊢;rw[if_pos g0]at h⊢;by_cases g1:31<p.length
  ·rw[if_pos g1]at h;exact absurd h dE
  rw[if_neg g1]at h⊢;by_cases g2:j9 (cO d a)=4294967295
  ·rw[if_pos g2]at h;exact absurd h dE
  rw[if_neg g2]
  have hn:(qG (fF ((cO d a).take 8)) (fF ((cO d a).drop 8))).2=0/\(BJ d a).2.1=(qG (fF ((cO d a).take 8)) (fF ((cO d a).drop 8))).1/\((qG (fF ((cO d a).take 8)) (fF ((cO d a).drop 8))).1=0\/(qG (fF ((cO d a).take 8)) (fF ((cO d a).drop 8))).1=1):=by
   by_cases g3:(qG (fF ((cO d a).take 8)) (fF ((cO d a).drop 8))).2=0
   ·rw[if_pos g3]at hf
    by_cases g4:(qG (fF ((cO d a).take 8)) (fF ((cO d a).drop 8))).1=1
    ·rw[if_pos g4]at hf
     exact⟨g3,by rw[hf,g4],.inr g4⟩
    ·rw[if_neg g4]at hf
     have g5:(qG (fF ((cO d a).take 8)) (fF ((cO d a).drop 8))).1=0:=by
      have:=Ks (fF ((cO d a).take 8)) (fF ((cO d a).drop 8));rcases this with h|h
      ·exact h
      ·exact absurd h g4
     exact⟨g3,by rw[hf,g5],.inl g5⟩
   ·rw[if_neg g3]at hf
    rw[hf]at g0;exact absurd g0 dE
  obtain⟨n1,n2,n3⟩:=hn;rw[n2];rw[n1]at c;have t:=ai0 d a p ((cO d a).take 8) ((cO d a).drop 8) _ _ _ _ _ oM (by rw[dX];omega) (by rw[kR];omega) h3 oM n3 (by rw[e2];exact nT) (by rw[e2];exact g2) c
  rw[e2]at t;exact t
 ·unfold iN at h
  rw[if_neg g0]at h;exact absurd h g0
theorem Ku(d:bQ)(a e:Int)(p:List Int)(A B:List Int×Int)(l m:List aQ)(n:Int)(he:e≠0)(hc:PC 253 [.agg (bD d),zV a] (.aK [.agg (EX A B l m),zV n,zV e])):PC 219 [.agg (bD d),zV a,.snap (aB aO p)] (.aK [.snap (aB aH []),zV e]):=by
 refine aZ func219 ntmps219 (by simp only[go_sem]) ?_
 unfold bD EX at*;exact zEa
theorem ai1(A B:List Int×Int):(qG A B).2=0\/(qG A B).2=9:=by
 unfold qG;split
 ·split
  ·exact .inr rfl
  ·exact .inl rfl
 ·split
  ·exact .inr rfl
  ·exact .inl rfl
theorem ai2(d:bQ)(a:Int)(p:List Int)(hp:p.length<=31)(hs:d.st.length<=1000000)(h2:d.ca.length<=1000000)(hk:∀s∈k9 d.st d.ca,kL s)(h:(iN d a p).2≠0):
  PC 219 [.agg (bD d),zV a,.snap (aB aO p)] (.aK [.snap (aB aH []),zV (iN d a p).2]):=by
 by_cases g:(u4 d a 16).2=0
 ·obtain⟨h0,h3,h4⟩:=Ke g
  have nT:∀s∈cO d a,kL s:=fun s hs=>hk s (BA (GO hs))
  have gA:=TR (l:=(cO d a).take 8) fun s hs=>nT s (GO hs)
  have gB:=TR (l:=(cO d a).drop 8) fun s hs=>nT s (BA hs)
  have hf:=Kg h0 h3 h4 gA.1 gB.1;have c:=Kc d a hs h2 hk h0 h3 h4;have e0:=BI d.ca d.st;have e1:(cO d a).length=16:=by unfold cO;rw[dX,kR];omega
  have e2:(cO d a).take 8++(cO d a).drop 8=cO d a:=Y4 8 _;by_cases g3:(qG (fF ((cO d a).take 8)) (fF ((cO d a).drop 8))).2=0
  ·have g0:(BJ d a).2.2.2.2=0:=by
    rw[hf,if_pos g3];split<;>rfl
   have g2:j9 (cO d a)=4294967295:=by
    by_cases g2:j9 (cO d a)=4294967295
    ·exact g2
    ·unfold iN at h
     rw[if_pos g0,if_neg oM,if_neg g2]at h
     exact absurd rfl h
   have g4:(iN d a p).2=11:=by
    unfold iN;rw[if_pos g0,if_neg oM,if_pos g2]
   rw[g3]at c;have t:=ah1 d a p ((cO d a).take 8) ((cO d a).drop 8) _ _ _ _ _ hp (by rw[dX];omega) (by rw[kR];omega) h3 oM (Ks _ _) (by rw[e2];exact nT) c
   rw[e2,if_pos g2]at t;rw[g4];exact t
  ·have g9:(qG (fF ((cO d a).take 8)) (fF ((cO d a).drop 8))).2=9:=by
    have:=ai1 (fF ((cO d a).take 8)) (fF ((cO d a).drop 8));rcases this with h|h
    ·exact absurd h g3
    ·exact h
   have g4:(iN d a p).2=9:=by
    unfold iN;rw[hf,if_neg g3];rfl
   rw[g9]at c;rw[g4];exact Ku d a 9 p _ _ _ _ _ dE c
 ·have g4:(iN d a p).2=(u4 d a 16).2:=by
   unfold iN;rw[Kf hs g,if_neg g]
  rw[g4];exact Ku d a _ p _ _ _ _ _ g (ag2 d a hs h2 g)
theorem PF(r:eD):(gR r).length<=31:=by
 have h1:=lR r.dY;have h2:=lR r.dK;have h3:=lR r.jM;unfold gR;simp only[cU];omega
@[go_sem] theorem ai3(G:Nat->Option aI)(k:Nat)(l:List Int):((aB aO l).all fun row=>row.all (fresh G k))=true:=by
  rw[iM];intro row hr;simp only[aB,mF]at hr;obtain⟨x,_,rfl⟩:=hr;cases k<;>rfl
theorem Kv(G:Nat->Option aI)(k:Nat)(l:List Int):(aB aO l).map (fun row=>row.map (bJ G k))=aB aO l:=KQ (fun a x hx=>by simp[aO]at hx;exact⟨_,hx⟩) G k l
theorem TW(r:eD):FC 85 [.cH [cC r] 0 0] (.snap (aB aO (gR r))):=by
 refine ai4 func85 ntmps85 ?_;unfold cC gR;have h1:=lR r.dY;have h2:=lR r.dK;have h3:=lR r.jM;have c0:=H6 r.dY;have c1:=BE (aV r.dY) r.dK oM
 have c2:=BE (aV r.dY++aV r.dK) r.jM (by simp;omega)
 simp only[sF]at c0;refine aM ?_;refine fZ 4 ?_;refine gD ?_;refine aM ?_;refine⟨?_,?_,?_⟩
 ·simp only[go_sem,Kv]
 ·simp only[go_sem,fresh,rowsOf,ai3]
 ·simp only[go_sem,Kv]
  rw[cN (by simp only[cU];omega)]
end Go.Proofs.YtpaomccedbjknaaGreatDoor
