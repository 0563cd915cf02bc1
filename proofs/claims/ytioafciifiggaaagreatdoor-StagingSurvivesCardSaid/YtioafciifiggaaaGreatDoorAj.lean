/- Staging. No condition. -/
import Derived.Test.YtioafciifiggaaaGreatDoorL0
import Derived.Test.YtioafciifiggaaaGreatDoorAi
import Derived.Test.YtioafciifiggaaaGreatDoorAg
import Derived.Test.YtioafciifiggaaaGreatDoorLe
set_option linter.all false
namespace Go.Proofs.YtioafciifiggaaaGreatDoor
open Go.Proofs Go.AL
set_option maxRecDepth 100000
theorem Wv{α:Type}(z:α){l:List α}{i:Nat}(x:α)(h:i<l.length):(l.set i x).getD i z=x:=by
 simp[h]
theorem Ww{α:Type}(z:α){l:List α}{i j:Nat}(x:α)(h:i≠j):(l.set i x).getD j z=l.getD j z:=by
 simp[O6 h]
theorem aX3(st:List aH)(a b:List (Int×aH)):fA st (a++b)=fA (fA st a) b:=by unfold fA;rw[TG]
theorem OX:∀(l l' P Q:List aH),l'.length=l.length->fA (P++(l'++Q)) (fE (P.length:Int) l)=P++(l++Q)
 |[],[],P,Q,_=>rfl
 |[],_::_,P,Q,h=>by simp at h
 |_::_,[],P,Q,h=>by simp at h
 |s::l,s'::l',P,Q,h=>by
  have ih:=OX l l' (P++[s]) Q (by simpa using h)
  have e:(P++(s'::l'++Q)).set P.length s=(P++[s])++(l'++Q):=by
   rw[List.set_append_right _ _ (cE _),CM];simp
  show fA ((P++(s'::l'++Q)).set (P.length:Int).toNat s) (fE ((P.length:Int)+1) l)=_
  rw[mE,e];have e2:((P.length:Int)+1)=(((P++[s]).length:Nat):Int):=by simp
  rw[e2,ih];simp
theorem Wx{α:Type}(l:List α)(i j:Nat)(x z:α):(l.set i x).getD j z=if i=j/\j<l.length then x else l.getD j z:=by
 by_cases h:i=j
 ·subst h
  by_cases h2:i<l.length
  ·rw[if_pos ⟨rfl,h2⟩];exact Wv z x h2
  ·rw[if_neg (fun q=>h2 q.2),eP,zL (by rw[BD];omega),eP,zL (by omega)]
 ·rw[if_neg (fun q=>h q.1)];exact Ww z x h
theorem UW:∀(l:List aH) (a:Int) (c:Int×aH),c∈fE a l->∃j,j<l.length/\c.1=a+j/\c.2=l.getD j aE
 |[],a,c,h=>by simp[fE]at h
 |s::l,a,c,h=>by
  simp only[fE,cG]at h;rcases h with rfl|h
  ·exact⟨0,by simp,by simp,rfl⟩
  ·obtain⟨j,h1,h2,h3⟩:=UW l (a+1) c h
   exact⟨j+1,by simp;exact h1,by rw[h2];omega,by rw[h3];simp⟩
def ru:List nH->bL->Option bL
 |[],d=>some d
 |o::r,d=>if o.1=0 then(if l5 d o.2.1 o.2.2.length=true then ru r ⟨d.st,d.ca++fE o.2.1 o.2.2⟩else none)else if o.1=1 then ru r ⟨fA d.st d.ca,[]⟩else none
theorem OY:∀(ops:List nH) (d d':bL) (i:Nat),dM d=0->ru ops d=some d'->oF ops d i=(d',((i+ops.length:Nat):Int),0)/\dM d'=0/\d'.st.length=d.st.length
 |[],d,d',i,h,h2=>by
  simp only[ru,bC]at h2;subst h2;exact⟨rfl,h,rfl⟩
 |o::r,d,d',i,h,h2=>by
  simp only[ru]at h2;simp only[oF];split at h2
  ·rename_i h3
   split at h2
   ·rename_i h4
    have hw:GD d o.2.1 o.2.2=(⟨d.st,d.ca++fE o.2.1 o.2.2⟩,0):=by unfold GD;rw[if_pos h,if_pos h4]
    obtain⟨q1,q2,q3⟩:=OY r _ d' (i+1) (ZJ h h4) h2;rw[if_pos h3,hw];simp only[if_true];exact⟨by rw[q1];simp only[dK,cD,and_true,true_and];omega,q2,q3⟩
   ·cases h2
  ·rename_i h3
   split at h2
   ·rename_i h4
    obtain⟨q1,q2,q3⟩:=OY r _ d' (i+1) (IE (EI h).1 (wJ _ _)) h2;rw[if_neg h3,if_pos h4];exact⟨by rw[q1];simp only[dK,cD,and_true,true_and];omega,q2,by rw[q3];exact wJ _ _⟩
   ·cases h2
theorem UX{ops:List nH}{d d':bL}(h:dM d=0)(h2:ru ops d=some d'):oN d ops=(d',(ops.length:Int),0):=by
 unfold oN;rw[if_pos h,(OY ops d d' 0 h h2).1,pJ]
theorem Ie:∀(a b:List nH) (d d':bL),ru a d=some d'->ru (a++b) d=ru b d'
 |[],b,d,d',h=>by
  simp only[ru,bC]at h;subst h;rfl
 |o::r,b,d,d',h=>by
  simp only[ru,yI]at h⊢;split at h
  ·rename_i h3
   split at h
   ·rename_i h4
    rw[if_pos h3,if_pos h4];exact Ie r b _ d' h
   ·cases h
  ·rename_i h3
   split at h
   ·rename_i h4
    rw[if_neg h3,if_pos h4];exact Ie r b _ d' h
   ·cases h
def Aft(Gd:bL->Prop)(d:bL):Prop:=∀c,Gd (oO d c).1
def Path(Gd:bL->Prop)(ops:List nH)(d:bL):Prop:=∀k,k<=ops.length->∃d',ru (ops.take k) d=some d'/\Aft Gd d'
theorem Path.mono{G1 G2:bL->Prop}{a:List nH}{d:bL}(h:∀e,G1 e->G2 e)(ha:Path G1 a d):Path G2 a d:=fun k hk=>by
 obtain⟨d',h1,h2⟩:=ha k hk;exact⟨d',h1,fun c=>h _ (h2 c)⟩
theorem Wy(ca:List (Int×aH))(st:List aH)(c:List Int):∀k,∀i,(vI ca st c k).1.getD i aE=st.getD i aE\/((i:Int),(vI ca st c k).1.getD i aE)∈ca
 |0,i=> .inl rfl
 |k+1,i=>by
  have ih:=Wy ca st c k i;rw[Vr];unfold D4;by_cases h0:(iY ca (k:Int)).length=0
  ·rw[if_pos h0];exact ih
  ·rw[if_neg h0]
   obtain⟨r1,r2⟩:=Vv (vI ca st c k).2 (show(0:Int)<((iY ca (k:Int)).length:Int)+1 by omega)
   by_cases h1:0<(xL (vI ca st c k).2 ((iY ca (k:Int)).length+1)).1
   ·simp only[if_pos h1]
    rw[Wx];by_cases h2:k=i/\i<(vI ca st c k).1.length
    ·rw[if_pos h2]
     obtain⟨rfl,_⟩:=h2;refine .inr ?_;have hm:(iY ca (k:Int)).getD ((xL (vI ca st c k).2 ((iY ca (k:Int)).length+1)).1-1).toNat aE∈iY ca (k:Int):=cQ aE (by omega)
     generalize (iY ca (k:Int)).getD ((xL (vI ca st c k).2 ((iY ca (k:Int)).length+1)).1-1).toNat aE=x at hm⊢;unfold iY at hm;obtain⟨y,hy,rfl⟩:=kV.1 hm;obtain⟨nJ,ZL⟩:=pC.1 hy;obtain⟨y1,y2⟩:=y;simp only[beq_iff_eq]at ZL;rw[<-ZL];exact nJ
    ·rw[if_neg h2];exact ih
   ·simp only[if_neg h1];exact ih
theorem ZY{d:bL}(h:dM d=0)(c:List Int):∃st',(oO d c).1=⟨st',[]⟩/\st'.length=d.st.length/\∀i:Nat,st'.getD i aE=d.st.getD i aE\/((i:Int),st'.getD i aE)∈d.ca:=by
 unfold oO;rw[if_pos h];exact⟨_,rfl,Vt _ _ _ _,Wy _ _ _ _⟩
theorem UY{st:List aH}(h:dM ⟨st,[]⟩=0)(c:List Int):(oO ⟨st,[]⟩ c).1=⟨st,[]⟩:=by
 obtain⟨st',h1,h2,h3⟩:=ZY h c;rw[h1];congr 1;refine I3 h2 fun i a b=> ?_
 rcases h3 i with e|e
 ·simpa[a,b]using e
 ·simp at e
theorem Wz{P O Q st':List aH}{ca:List (Int×aH)}(hl:st'.length=(P++(O++Q)).length)(hc:∀c∈ca,(P.length:Int)<=c.1/\c.1<P.length+O.length)
  (h:∀i:Nat,st'.getD i aE=(P++(O++Q)).getD i aE\/((i:Int),st'.getD i aE)∈ca):
  ∃H,st'=P++(H++Q)/\H.length=O.length/\∀j,j<O.length->H.getD j aE=O.getD j aE\/(((P.length+j:Nat):Int),H.getD j aE)∈ca:=by
 have cW:st'.length=P.length+(O.length+Q.length):=by rw[hl];simp
 have e1:st'.take P.length=P:=by
  refine I3 (by rw[cU];omega) fun i a b=> ?_
  rcases h i with e|e
  ·rw[eP,eP,kG b]at e
   rw[Tl];simpa[show i<st'.length by omega,b]using e
  ·have:=(hc _ e).1;simp only[]at this;omega
 have e2:st'.drop (P.length+O.length)=Q:=by
  refine I3 (by rw[eF];omega) fun i a b=> ?_
  rcases h (P.length+O.length+i)with e|e
  ·rw[eP,eP,k7 (by omega),k7 (by omega)]at e
   rw[List.getElem_drop];rw[show P.length+O.length+i-P.length-O.length=i by omega]at e
   simpa[show P.length+O.length+i<st'.length by omega,b]using e
  ·have:=(hc _ e).2;simp only[]at this;omega
 refine⟨(st'.drop P.length).take O.length,?_,by rw[cU,eF];omega,fun j hj=> ?_⟩
 ·have h1:=(yJ P.length st').symm
  have h2:=(yJ O.length (st'.drop P.length)).symm;rw[O7,e2]at h2;rw[e1,h2]at h1;exact h1.trans (by rw[<-h2])
 ·have e3:((st'.drop P.length).take O.length).getD j aE=st'.getD (P.length+j) aE:=by
   rw[eP,G0 hj,mF,<-eP]
  rw[e3];rcases h (P.length+j)with e|e
  ·refine .inl ?_
   rw[e,eP,k7 (by omega),kG (by omega),<-eP]
   congr 1;omega
  ·exact .inr e
theorem Xa:∀(l:List aH) (m:Int),m<=l.foldl (fun m s=>max m (bN s)) m/\∀s∈l,bN s<=l.foldl (fun m s=>max m (bN s)) m
 |[],m=>⟨by simp,fun s hs=>by simp at hs⟩
 |x::l,m=>by
  obtain⟨h1,h2⟩:=Xa l (max m (bN x));refine⟨by simp only[CL];omega,fun s hs=> ?_⟩
  simp only[CL];rcases cG.1 hs with rfl|hs
  ·omega
  ·exact h2 s hs
theorem Xb:∀(l:List aH) (m K:Int),m<=K->(∀s∈l,bN s<=K)->l.foldl (fun m s=>max m (bN s)) m<=K
 |[],m,K,h,_=>h
 |x::l,m,K,h,h2=>Xb l (max m (bN x)) K (by have:=h2 x (by simp);omega) fun s hs=>h2 s (by simp[hs])
theorem zZ.pos{X Y:List aH}{p:List Int}{K:Int}(h:zZ X Y p K):1<=K:=by
 obtain⟨g,g1,g2,g3⟩:=h.cur;rcases Ib X with e|⟨e,_⟩
 ·rw[g2]at e;simp only[]at e;omega
 ·rw[g2]at e
  simp only[]at e;have:=h.gX _ (cQ aE (show 0<X.length by rw[h.lX];decide))
  omega
theorem Xc{A B R:List aH}(hA:A.length=8)(hB:B.length=8):cN ⟨A++(B++R),[]⟩ 0=A++B:=by
 have e:(A++B).length=16:=by simp[hA,hB]
 show((A++(B++R)).drop 0).take 16=A++B
 rw[CO,<-fF,<-e,aF4]
theorem ZZ{A B R:List aH}(hA:A.length=8)(hB:B.length=8)(hR:16+R.length<=4096):dM ⟨A++(B++R),[]⟩=0:=IE (st:=List.replicate 16 aE++R) (by simp;omega) (by simp[hA,hB];omega)
theorem Xd{A B R:List aH}{p:List Int}{K:Int}(h:sV A B p K)(hR:16+R.length<=4096):
  ∃i g,oE ⟨A++(B++R),[]⟩ 0=(A++B,i,p,g,0)/\((i=0/\zZ A B p K)\/(i=1/\zZ B A p K)):=by
 have lA:A.length=8:=h.elim (·.lX) (·.lY)
 have lB:B.length=8:=h.elim (·.lY) (·.lX)
 have e1:(A++B).take 8=A:=by rw[<-lA,aF4]
 have e2:(A++B).drop 8=B:=by rw[<-lA,aF3]
 unfold oE;rw[if_pos (ZZ lA lB hR),if_neg (by simp only[bP];omega),Xc lA lB,e1,e2]
 rcases h with h|h
 ·obtain⟨g,g1,g2,g3⟩:=h.cur
  rw[g2];rw[if_neg (by simp only[];omega),if_neg (by simp only[];omega)]
  exact⟨0,g,rfl,.inl ⟨rfl,h⟩⟩
 ·obtain⟨g,g1,g2,g3⟩:=h.cur
  rw[g2];rw[if_neg (by simp only[];omega),if_pos (by simp only[];omega)]
  exact⟨1,g,rfl,.inr ⟨rfl,h⟩⟩
theorem aX5{α:Type}(a b:α)(k:Nat):k<=2->([a,b].take k=[]/\k=0)\/([a,b].take k=[a]/\k=1)\/([a,b].take k=[a,b]/\k=2):=by
 intro h
 match k,h with
 |0,_=>exact .inl ⟨rfl,rfl⟩
 |1,_=>exact .inr (.inl ⟨rfl,rfl⟩)
 |2,_=>exact .inr (.inr ⟨rfl,rfl⟩)
theorem Xe{P O Q N:List aH}{Gd:bL->Prop}{a:Int}(ha:a=(P.length:Int))(hO:O.length=N.length)(hl:(P++(O++Q)).length<=4096)
  (hg:∀H,H.length=O.length->(∀j,j<O.length->H.getD j aE=N.getD j aE\/H.getD j aE=O.getD j aE)->Gd ⟨P++(H++Q),[]⟩):
  ru [(0,a,N),(1,0,[])] ⟨P++(O++Q),[]⟩=some ⟨P++(N++Q),[]⟩/\Path Gd [(0,a,N),(1,0,[])] ⟨P++(O++Q),[]⟩:=by
 subst ha;have h0:dM ⟨P++(O++Q),[]⟩=0:=IE hl rfl
 have hi:l5 ⟨P++(O++Q),[]⟩ (P.length:Int) N.length=true:=by
  unfold l5;simp only[k6,decide_eq_true_eq,bP];omega
 have h1:ru [(0,(P.length:Int),N)] ⟨P++(O++Q),[]⟩=some ⟨P++(O++Q),fE (P.length:Int) N⟩:=by
  simp only[ru,if_true,hi,pW]
 have h2:ru [(0,(P.length:Int),N),(1,0,[])] ⟨P++(O++Q),[]⟩=some ⟨P++(N++Q),[]⟩:=by
  simp only[ru,if_true,hi,pW,OX N O P Q hO];rfl
 refine⟨h2,fun k hk=> ?_⟩
 rcases aX5 ((0,(P.length:Int),N):nH) ((1,0,[]):nH) k hk with⟨e,_⟩|⟨e,_⟩|⟨e,_⟩
 ·refine⟨_,by rw[e];rfl,fun c=> ?_⟩
  rw[UY h0];exact hg O rfl fun j _=> .inr rfl
 ·refine⟨_,by rw[e];exact h1,fun c=> ?_⟩
  have h3:dM ⟨P++(O++Q),fE (P.length:Int) N⟩=0:=by
   have:=ZJ h0 hi;exact this
  obtain⟨st',q1,q2,q3⟩:=ZY h3 c;rw[q1]
  obtain⟨H,r1,r2,r3⟩:=Wz (ca:=fE (P.length:Int) N) q2 (fun c hc=>by
   obtain⟨j,j1,j2,_⟩:=UW _ _ _ hc
   omega) q3
  rw[r1];refine hg H r2 fun j hj=> ?_
  rcases r3 j hj with e|e
  ·exact .inr e
  ·obtain⟨i,i1,i2,i3⟩:=UW _ _ _ e
   simp only[]at i2 i3;obtain rfl:j=i:=by omega
   exact .inl i3
 ·refine⟨_,by rw[e];exact h2,fun c=> ?_⟩
  have h4:dM ⟨P++(N++Q),[]⟩=0:=IE hl (by simp[hO])
  rw[UY h4];exact hg N hO.symm fun j _=> .inl rfl
theorem aX6{A B R:List aH}{p q:List Int}{K:Int}(h:sV A B p K)(hR:16+R.length<=4096)(hK:K+1<4294967296)(hq:q.length<=31)(rJ:∀x∈q,aV x):
  ∃ops A2 B2,lU ⟨A++(B++R),[]⟩ 0 q=(ops,0)/\ops.length=2/\ru ops ⟨A++(B++R),[]⟩=some ⟨A2++(B2++R),[]⟩/\sV A2 B2 q (K+1)/\
   Path (fun e=>∃A' B',e=⟨A'++(B'++R),[]⟩/\(sV A' B' p (K+1)\/sV A' B' q (K+1))) ops ⟨A++(B++R),[]⟩:=by
 have lA:A.length=8:=h.elim (·.lX) (·.lY)
 have lB:B.length=8:=h.elim (·.lY) (·.lX)
 have gAB:∀s∈A++B,bN s<=K:=fun s hs=>by
  rcases h with h|h<;>rcases lS.1 hs with e|e
  ·exact h.gX s e
  ·exact h.gY s e
  ·exact h.gY s e
  ·exact h.gX s e
 have hp:1<=K:=h.elim (·.pos) (·.pos)
 have t1:iO (A++B)<=K:=Xb _ 0 K (by omega) gAB
 have t2:∀s∈A++B,bN s<iO (A++B)+1:=fun s hs=>by
  have:=(Xa (A++B) 0).2 s hs;have e:iO (A++B)=(A++B).foldl (fun m s=>max m (bN s)) 0:=rfl
  omega
 obtain⟨i,g,hf,hc⟩:=Xd h hR
 have eG:lU ⟨A++(B++R),[]⟩ 0 q=([(0,0+8-8*i,lK (iO (A++B)+1) q),(1,0,[])],0):=by
  unfold lU;rw[hf];simp only[if_true];rw[if_neg (by omega),Xc lA lB,if_neg (by omega)]
 rw[eG];have t4:iO (A++B)+1<=K+1:=by omega
 generalize iO (A++B)+1=t at*;have lN:(lK t q).length=8:=OW t q;have ll:(A++(B++R)).length<=4096:=by simp only[bP];omega
 rcases hc with⟨rfl,hc⟩|⟨rfl,hc⟩
 ·have hm:=fun H lH hm=>hc.mix (H:=H) t2 (by omega) (by omega) hq rJ lH hm
  obtain⟨r1,r2⟩:=Xe (P:=A) (O:=B) (Q:=R) (N:=lK t q) (a:=0+8-8*0) (Gd:=fun e=>∃A' B',e=⟨A'++(B'++R),[]⟩/\(sV A' B' p (K+1)\/sV A' B' q (K+1))) (by rw[lA];decide) (by rw[lB,lN]) ll (fun H lH hH=>⟨A,H,rfl,by
   rcases hm H (by omega) (by rw[lB]at hH;exact hH)with⟨_,e⟩|⟨_,e⟩
   ·exact .inl (.inl e)
   ·exact .inr (.inr e)⟩)
  refine⟨_,_,_,rfl,rfl,r1,?_,r2⟩;rcases hm (lK t q) lN (fun j _=> .inl rfl)with⟨e,_⟩|⟨_,e⟩
  ·exact absurd rfl e
  ·exact .inr e
 ·have t3:∀s∈B++A,bN s<t:=fun s hs=>t2 s (by rcases lS.1 hs with e|e<;>simp[e])
  have hm:=fun H lH hm=>hc.mix (H:=H) t3 (by omega) (by omega) hq rJ lH hm
  obtain⟨r1,r2⟩:=Xe (P:=[]) (O:=A) (Q:=B++R) (N:=lK t q) (a:=0+8-8*1) (Gd:=fun e=>∃A' B',e=⟨A'++(B'++R),[]⟩/\(sV A' B' p (K+1)\/sV A' B' q (K+1))) (by decide) (by rw[lA,lN]) ll (fun H lH hH=>⟨H,B,rfl,by
   rcases hm H (by omega) (by rw[lA]at hH;exact hH)with⟨_,e⟩|⟨_,e⟩
   ·exact .inl (.inr e)
   ·exact .inr (.inl e)⟩)
  refine⟨_,_,_,rfl,rfl,r1,?_,r2⟩;rcases hm (lK t q) lN (fun j _=> .inl rfl)with⟨e,_⟩|⟨_,e⟩
  ·exact absurd rfl e
  ·exact .inl e
end Go.Proofs.YtioafciifiggaaaGreatDoor
namespace Go.Proofs.YtioafciifiggaaaGreatDoor
open Go.Proofs Go.AL
set_option maxRecDepth 100000
set_option maxHeartbeats 1000000
attribute [local irreducible] cH AW b9 dR eH hold
abbrev xS(e:Int):Value:= .iface 362 (.agg #[.int .i64 e])
abbrev XC(n:FuncId)(args:List AV)(x:Value):Prop:=IK Tryz.prog n args x
theorem Ig(e:Int):PC 205 [bV true,zV e] (.aU []):=by
 refine bI Tryz.func205 Tryz.ntmps205 (.aU _ (by simp)) ?_
 refine aG ?_;exact aC
theorem Ih(e:Int):XC 205 [bV false,zV e] (xS e):=by
 refine Ii Tryz.func205 Tryz.ntmps205 ?_;have s1:qX 1 3 (xS e):=⟨⟩;refine sH ?_;rfl
theorem aX8:PC 206 [zV 0] (.aU []):=by
 refine bI Tryz.func206 Tryz.ntmps206 (.aU _ (by simp)) ?_
 have c1:=Ig 0;refine aG ?_;exact aC
theorem OZ(e:Int)(he:¬e=0):XC 206 [zV e] (xS e):=by
 refine Ii Tryz.func206 Tryz.ntmps206 ?_;have g:(e==0)=false:=by simp[he]
 have c1:=Ih e;have s1:qX 0 3 (xS e):=⟨⟩;clear he;refine sH ?_;rfl
theorem aX9(e:Int):PC 204 [.c (xS e)] (zV e):=by
 refine bI Tryz.func204 Tryz.ntmps204 (.c _) ?_;refine aG ?_;exact aC
theorem aY0(i j N:Nat)(G:Nat->Option aI):qD Tryz.prog 203 [.ptr i 0 0,.ptr j 0 0] ⟨N,G⟩ none (fun H'=>H'=⟨N,G⟩):=by
 refine Aa Tryz.func203 Tryz.ntmps203 ?_;refine aG ?_;exact⟨.inl rfl,⟨_,rfl⟩,rfl⟩
theorem aY1(e:Int)(N:Nat)(G:Nat->Option aI)(x0 x1 x2 x3 x4 a:AV):
  qD Tryz.prog 203 [.ptr 0 0 0,.ptr 1 0 0] ⟨N,fR G [(0,some (.cells 79 5 [[x0,x1,x2,x3,x4]] true false)),(1,some (.cells 38 1 [[a]] true false))]⟩ (some (xS e))
   (fun H'=>H'=⟨N+1+1,fR G [(0,some (.cells 79 5 [[zV 0,zV 0,zV 0,.c (.slice none 0 0),.c (.slice none 0 0)]] true false)),(1,some (.cells 38 1 [[zV e]] true false))]⟩):=by
 refine Aa Tryz.func203 Tryz.ntmps203 ?_;have c1:=aX9 e;refine aG ?_;exact⟨.inl rfl,⟨_,rfl⟩,rfl⟩
def D5(n:Int):Int:=if n<0\/4096<n then 0 else(n+10)/4
theorem UZ(n:Int):PC 112 [zV n] (zV (D5 n)):=by
 refine bI Tryz.func112 Tryz.ntmps112 (.c _) ?_;unfold D5;by_cases g1:n<0
 ·rw[if_pos (.inl g1)]
  refine aG ?_;exact aC
 ·by_cases g2:4096<n
  ·rw[if_pos (.inr g2)]
   refine aG ?_;exact aC
  ·rw[if_neg (by omega)]
   have h1:(3+n+4+4-1).tdiv 4=(n+10)/4:=by rw[cq0 (by omega)];congr 1;omega
   refine aG ?_;exact aC
def qY(a b:Int):Bool:=decide (0<=a)&&decide (20<=b)&&decide (a<=4096)&&decide (b<=4096-a)
theorem Ij(a b:Int):PC 102 [.agg [zV a,zV b]] (bV (qY a b)):=by
 refine bI Tryz.func102 Tryz.ntmps102 (.c _) ?_;unfold qY;by_cases g1:0<=a
 ·by_cases g2:20<=b
  ·by_cases g3:a<=4096
   ·by_cases g4:b<=4096-a
    ·refine aG ?_
     exact aC
    ·refine aG ?_
     exact aC
   ·refine aG ?_
    exact aC
  ·refine aG ?_
   exact aC
 ·refine aG ?_
  exact aC
theorem aY2(a b:Int)(h1:20<=b)(h2:b<=4096):PC 87 [.agg [zV a,zV b]] (zV (b-16)):=by
 refine bI Tryz.func87 Tryz.ntmps87 (.c _) ?_;refine aG ?_;exact aC
theorem aY3:Tryz.prog.eqGuardType Tryz.prog.depth 124=false:=by kernel_rfl
theorem aY4(d:Nat)(s t:aH):sW Tryz.prog (d+2) 124 (.agg (aS s)) (.agg (aS t))=some (decide (s=t)):=by
 have h5:Tryz.prog.underlying 5=some (.int .u8):=Tryz.underlying5;simp only[sW,Tryz.underlying124,aH7,P0,tT,aH8,aS,yK,List.range_zero,pW,yI,CN,Nat.mul_one,nE,vE,h5,if_true];obtain⟨⟨a,b,c,e⟩,⟨f,g,h,i⟩⟩:=s;obtain⟨⟨a',b',c',e'⟩,⟨f',g',h',i'⟩⟩:=t;simp only[bC,cD];rw[Bool.eq_iff_iff]
 simp only[k6,beq_iff_eq,decide_eq_true_eq,Tj,and_assoc]
@[go_sem] theorem cB0(s:aH):EL Tryz.prog 124 (.agg (aS s)) (.agg (aS s))=some true:=by
  unfold EL;rw[aY3,if_neg (by simp)]
  exact(aY4 9998 s s).trans (by simp)
theorem aY5(l:List Int)(hl:l.length<=1000000):PC 81 [.snap (aA bD l),.snap (aA bD l)] (bV true):=by
 refine bI Tryz.func81 Tryz.ntmps81 (.c _) ?_;have hg:=gI l;refine aD ?_;refine zS l.length 0 [] (fun k=> [(5,true,zV k),(0,true,.snap (aA bD l)),(1,true,.snap (aA bD l))]) aT (fun k m bG hm=> ?_) (fun m hm=> ?_)
 ·have fD:=hg k bG
  clear hg;refine aD ?_;refine⟨m+200,by omega,aT⟩
 ·clear hg
  refine aD ?_;exact aC
theorem aY6(l:List aH)(hl:l.length<=1000000):PC 45 [.snap (aA aS l),.snap (aA aS l)] (bV true):=by
 refine bI Tryz.func45 Tryz.ntmps45 (.c _) ?_;have hg:=gS l;refine aD ?_;refine zS l.length 0 [] (fun k=> [(5,true,zV k),(0,true,.snap (aA aS l)),(1,true,.snap (aA aS l))]) aT (fun k m bG hm=> ?_) (fun m hm=> ?_)
 ·have fD:=hg k bG
  clear hg;refine aD ?_;refine⟨m+200,by omega,aT⟩
 ·clear hg
  refine aD ?_;exact aC
def Ik(w:eW):Bool:=decide (24<w.2.2.length)
def Il(l:List eW):Bool:= !((l.take 60).any Ik)&&decide (l.length<=40)
abbrev mR:=BitVec 32
def nV(v:mR):Int:=(v.toNat:Int)
theorem V0(v:mR):0<=nV v/\nV v<4294967296:=by
 have:=v.isLt;unfold nV;omega
theorem Xf(v:mR):BitVec.ofInt 32 (nV v)=v:=by
 unfold nV;rw[Tm];simp
theorem Ab(a b:mR):bits .xor .u32 (nV a) (nV b)=nV (a ^^^ b):=by
 have h:bits .xor .u32 (nV a) (nV b)=IntKind.u32.wrap ((BitVec.ofInt 32 (nV a) ^^^ BitVec.ofInt 32 (nV b)).toNat:Int):=rfl;rw[h,Xf,Xf,IntKind.wrap_u32];have:=V0 (a ^^^ b);unfold nV at*;omega
theorem Xg(a:mR)(k:Nat):(nV a).fdiv ((2:Int) ^ k)=nV (a>>>k):=by
 unfold nV;rw[BitVec.toNat_ushiftRight,Nat.shiftRight_eq_div_pow,Tk _ (Int.le_of_lt (Int.pow_pos (by decide)))]
 push_cast
 rfl
def Xh:mR:=0x82F63B78#32
def D6(r:mR):mR:=(r>>>1) ^^^ (if r.getLsbD 0 then Xh else 0#32)
theorem aY7(a b p:mR):(a ^^^ p) ^^^ (b ^^^ p)=a ^^^ b:=by
 apply Tn;intro i hi;simp only[aF5];cases a.getLsbD i<;>cases b.getLsbD i<;>cases p.getLsbD i<;>rfl
theorem aY8(a b:mR):D6 (a ^^^ b)=D6 a ^^^ D6 b:=by
 unfold D6;rw[BitVec.ushiftRight_xor_distrib,aF5];cases a.getLsbD 0<;>cases b.getLsbD 0
 ·simp
 ·simp[To]
 ·simp only[Bool.true_xor,Fw,if_true,mG,if_false]
  rw[BitVec.xor_zero,To,To,BitVec.xor_comm (b>>>1)]
 ·simp only[Bool.true_xor,TI,if_true,mG,if_false]
  rw[aY7,BitVec.xor_zero]
def nK:Nat->mR->mR
 |0,r=>r
 |k+1,r=>nK k (D6 r)
theorem Xi:∀(k:Nat) (a b:mR),nK k (a ^^^ b)=nK k a ^^^ nK k b
 |0,a,b=>rfl
 |k+1,a,b=>by simp only[nK];rw[aY8,Xi k]
theorem Xj:∀(k:Nat) (r:mR),nK (k+1) r=D6 (nK k r)
 |0,r=>rfl
 |k+1,r=>by
  have:=Xj k (D6 r);simp only[nK]at this⊢;exact this
theorem Xk:∀(k:Nat) (r:mR),(∀i,i<k->r.getLsbD i=false)->nK k r=r>>>k
 |0,r,_=>by simp[nK]
 |k+1,r,h=>by
  have h0:D6 r=r>>>1:=by unfold D6;rw[h 0 (by omega)];simp
  simp only[nK];rw[h0,Xk k _ fun i hi=>by rw[aF6];exact h (1+i) (by omega)]
  apply Tn;intro i hi;simp only[aF6];congr 1;omega
theorem aY9(r:mR):r=(r&&&0xFFFFFF00#32) ^^^ (r&&&0xFF#32):=by
 apply Tn;intro i hi;simp only[aF5,aF7];have h:∀j:Fin 32,(0xFFFFFF00#32).getLsbD j.val= !((0xFF#32).getLsbD j.val):=by decide
 rw[h ⟨i,hi⟩];cases r.getLsbD i<;>cases(0xFF#32).getLsbD i<;>rfl
theorem hi8(r:mR):(r&&&0xFFFFFF00#32)>>>8=r>>>8:=by
 apply Tn;intro i hi;simp only[aF6,aF7];by_cases h:8+i<32
 ·have h2:∀j:Fin 32,8<=j.val->(0xFFFFFF00#32).getLsbD j.val=true:=by decide
  rw[h2 ⟨8+i,h⟩ (by simp)]
  simp
 ·rw[BitVec.getLsbD_of_ge r (8+i) (by omega)]
  rfl
theorem aZ1(r b:mR):nK 8 (r ^^^ b)=(r>>>8) ^^^ nK 8 ((r&&&0xFF#32) ^^^ b):=by
 have h1:nK 8 (r&&&0xFFFFFF00#32)=(r&&&0xFFFFFF00#32)>>>8:=Xk 8 _ fun i hi=>by
  have h2:∀j:Fin 8,(0xFFFFFF00#32).getLsbD j.val=false:=by decide
  rw[aF7,h2 ⟨i,hi⟩,Ti]
 have h3:r ^^^ b=(r&&&0xFFFFFF00#32) ^^^ ((r&&&0xFF#32) ^^^ b):=by
  rw[<-To,<-aY9]
 rw[h3,Xi,h1,hi8]
def BP(r:mR)(l:List Int):mR:=l.foldl (fun r x=>nK 8 (r ^^^ BitVec.ofInt 32 x)) r
def fV(l:List Int):Int:=nV (~~~ (BP (~~~ 0#32) l))
theorem KV(l:List Int):0<=fV l/\fV l<4294967296:=V0 _
theorem aZ2{r:mR}{l:List Int}{k:Nat}(h:k<l.length):BP r (l.take (k+1))=nK 8 (BP r (l.take k) ^^^ BitVec.ofInt 32 (l.getD k 0)):=by
 unfold BP;rw[I0 h,TG];simp[h]
end Go.Proofs.YtioafciifiggaaaGreatDoor
