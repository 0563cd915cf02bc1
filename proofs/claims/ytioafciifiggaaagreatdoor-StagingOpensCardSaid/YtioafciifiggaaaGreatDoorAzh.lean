/- Staging. No condition. -/
import Derived.Test.YtioafciifiggaaaGreatDoorL0
import Derived.Test.YtioafciifiggaaaGreatDoorAzg
import Derived.Test.YtioafciifiggaaaGreatDoorLg
import Derived.Test.YtioafciifiggaaaGreatDoorAzf
import Derived.Test.YtioafciifiggaaaGreatDoorAze
set_option linter.all false
namespace Go.Proofs.YtioafciifiggaaaGreatDoor
open Go.Proofs Go.AL
set_option maxRecDepth 100000
set_option maxHeartbeats 8000000
attribute [local irreducible] cB AW aX cZ dK hold
theorem Qo(k l0 l1 s0 s1 s2 s3:Int)(P Z:List Int)(sq q e:Int)(hk:aV k)(h0:aV l0)(h1:aV l1)(g0:aV s0)(g1:aV s1)(g2:aV s2)(g3:aV s3)(hP:∀x∈P,aV x)(hl:P.length<=4096)(hz:Z.length<=1000)
  (hn:l0+256*l1=(P.length:Int)) (hc:(s0+256*s1+65536*s2+16777216*s3≠eO (k::l0::l1::P)/\e=9)\/(s0+256*s1+65536*s2+16777216*s3=eO (k::l0::l1::P)/\(k=0\/Z.any nA=true)/\e=3)):
  ∃d,∀id,IY Tryz.prog 215 [.ptr id 0 0] id (jK (.snap (aA aH (k::l0::l1::(P++s0::s1::s2::s3::Z)))) sq q) (wI e) d:=by
 refine⟨1000,fun id=> ?_⟩
 refine ME Tryz.func215 Tryz.ntmps215 ?_;intro N G aC iL hG;have c1:=Qg k (l0::l1::(P++s0::s1::s2::s3::Z)) sq q hk (by simp;omega) id
 have c2:=Qh l0 l1 (P++s0::s1::s2::s3::Z) sq q h0 h1 (by simp;omega) id
 rw[hn]at c2;have c3:=R7 (P++s0::s1::s2::s3::Z) sq q P.length (by simp) (by simp;omega) id
 rw[EV,U0]at c3
 rotate_left
 ·rfl
 ·rfl
 have c5:=Qi s0 s1 s2 s3 Z sq q g0 g1 g2 g3 (by simp;omega) id
 have c6:=Q9 (k::l0::l1::P) (fun x hx=>by
  simp only[fB]at hx;rcases hx with rfl|rfl|rfl|hx
  ·exact hk
  ·exact h0
  ·exact h1
  ·exact hP x hx) (by simp;omega)
 have c7:=Qj Z (by omega)
 have ht:(k::l0::l1::(P++s0::s1::s2::s3::Z)).take (3+P.length)=k::l0::l1::P:=by
  rw[show 3+P.length=P.length+1+1+1 by omega]
  simp only[D5];rw[EV];rfl
 have w1:IntKind.i64.wrap (3+(P.length:Int))=((3+P.length:Nat):Int):=by rw[IntWalk.i64_in _ (by omega)];omega
 have qG:=HR (k::l0::l1::P);have w2:IntKind.i64.wrap (eO (k::l0::l1::P))=eO (k::l0::l1::P):=IntWalk.i64_in _ (by omega)
 have vE:=hk.1;generalize eO (k::l0::l1::P)=C at*;generalize s0+256*s1+65536*s2+16777216*s3=T at*;clear hP hk h0 h1 g0 g1 g2 g3 hn;unfold jK at*;have d1:=vD 9;have cl:P=[]\/P≠[]:=by by_cases h:P=[];exact .inl h;exact .inr h
 rcases hc with⟨hc,rfl⟩|⟨rfl,hc,rfl⟩
 ·have aM:(T==C)=false:=by simpa using hc
  have r8:=IX 9;have s:oP 6 8 (wI 9):=⟨⟩;clear d1 hc c7;rcases cl with wL|wL
  ·subst wL
   have c4:=yT [] (by simp)
   refine bO ?_;exact zE
  ·have c4:=HL P wL (by omega)
   refine bO ?_;exact zE
 ·have bJ0:(T==T)=true:=by simp
  have wG:=IX 3;have s:oP 7 11 (wI 3):=⟨⟩;by_cases xQ:k=0
  ·have kP:¬0<k:=by omega
   clear hc xQ;rcases cl with wL|wL
   ·subst wL
    have c4:=yT [] (by simp)
    refine bO ?_;exact zE
   ·have c4:=HL P wL (by omega)
    refine bO ?_;exact zE
  ·have kP:0<k:=by omega
   have hZ:Z.any nA=true:=hc.resolve_left xQ;rw[hZ]at c7;clear hc xQ;rcases cl with wL|wL
   ·subst wL
    have c4:=yT [] (by simp)
    refine bO ?_;exact zE
   ·have c4:=HL P wL (by omega)
    refine bO ?_;exact zE
def pZ:List Int->Int
 |[]=>0
 |x::l=>x+256*pZ l
theorem Qp:∀(l:List Int),(∀x∈l,aV x)->l.length<=4->0<=pZ l/\pZ l<256 ^ l.length
 |[],_,_=>by simp[pZ]
 |x::l,h,hl=>by
  have ih:=Qp l (fun y hy=>h y (by simp[hy])) (by simp at hl;omega)
  have hx:=h x (by simp)
  unfold aV at hx;simp only[pZ,eI];rw[Int.pow_succ];omega
theorem aE9:∀{n:Nat},n<=3->(256:Int) ^ n<=16777216
 |0,_=>by decide
 |1,_=>by decide
 |2,_=>by decide
 |3,_=>by decide
 |n+4,h=>by omega
theorem aF0{l:List Int}{k:Nat}(hk:k<l.length):pZ (l.drop k)=l.getD k 0+256*pZ (l.drop (k+1)):=by
 rw[tL 0 hk];rfl
theorem De(b:List Int)(hb:∀x∈b,aV x)(hl:b.length<=4):PC 219 [.snap (aA aH b)] (zV (pZ b)):=by
 refine aT Tryz.func219 Tryz.ntmps219 (.c _) ?_;have hg:=gB b;have w0:IntKind.i64.wrap ((b.length:Int)-1)=(b.length:Int)-1:=IntWalk.i64_in _ (by omega)
 refine aE ?_;refine dP (α:=Unit) b.length (fun k _=> [(4,true,zV ((b.length:Int)-1-k)),(3,true,zV (pZ (b.drop (b.length-k)))),(0,true,.snap (aA aH b))]) (fun _ _=> []) (fun _ _ _=>True) ⟨0,(),trivial,?_⟩ (fun k m _ hk hR=> ?_) (fun m _ hR=> ?_)
 ·have e0:(b.length:Int)-1-((0:Nat):Int)=(b.length:Int)-1:=by omega
  have e1:pZ (b.drop (b.length-0))=0:=by rw[Jc,wZ];rfl
  rw[e0,e1];exact aN
 ·obtain⟨j,hj⟩:∃j:Nat,b.length-k=j+1:=⟨b.length-k-1,by omega⟩
  have e0:(b.length:Int)-1-(k:Int)=(j:Int):=by omega
  have e1:(b.length:Int)-1-((k+1:Nat):Int)=(j:Int)-1:=by omega
  have e2:b.length-(k+1)=j:=by omega
  have oS:j<b.length:=by omega
  have hv:=aF0 oS;have C6:=hg j oS;have hx:=hb _ (dC 0 oS);have hr:=Qp (b.drop (j+1)) (fun x hx=>hb x (l5 hx)) (by rw[fX];omega)
  have lP:pZ (b.drop (j+1))<16777216:=by
   have h1:(b.drop (j+1)).length<=3:=by rw[fX];omega
   have h2:=aE9 h1;omega
  rw[e0,e1,hj,e2];generalize pZ (b.drop (j+1))=T at*;generalize pZ (b.drop j)=T2 at*;generalize b.getD j 0=x at*;unfold aV at hx;have w1:IntKind.i64.wrap (256*T)=256*T:=IntWalk.i64_in _ (by omega)
  have w2:IntKind.i64.wrap x=x:=IntWalk.i64_in _ (by omega)
  have w3:IntKind.i64.wrap (256*T+x)=T2:=by rw[IntWalk.i64_in _ (by omega)];omega
  have w4:IntKind.i64.wrap ((j:Int)-1)=(j:Int)-1:=IntWalk.i64_in _ (by omega)
  have g1:(0:Int)<=(j:Int):=by omega
  clear hg hb hv e0 e1 e2 hj hr;refine aE ?_;exact⟨m+20,(),trivial,aN⟩
 ·have e0:(b.length:Int)-1-(b.length:Int)= -1:=by omega
  have e1:pZ (b.drop (b.length-b.length))=pZ b:=by rw[tG,tH]
  rw[e0,e1];clear hg hb;refine aE ?_;exact aB
theorem Qq(s:aY)(h:LA s):PC 218 [.agg (aQ s)] (zV (cL s)):=by
 refine aT Tryz.func218 Tryz.ntmps218 (.c _) ?_;obtain⟨⟨a,b,c,d⟩,x1,x2,x3,x4⟩:=s;have hs:aQ ((a,b,c,d),x1,x2,x3,x4)=[uV a,uV b,uV c,uV d,uV x1,uV x2,uV x3,uV x4]:=rfl;obtain⟨ha,hb,hc,hd⟩:=h;simp only[]at ha hb hc hd;have c1:=De [a,b,c,d] (fun x hx=>by simp at hx;rcases hx with rfl|rfl|rfl|rfl<;>assumption) (by simp)
 have e1:pZ [a,b,c,d]=cL ((a,b,c,d),x1,x2,x3,x4):=by unfold cL;simp only[pZ];omega
 have e2:aA aH [a,b,c,d]=[[uV a],[uV b],[uV c],[uV d]]:=rfl;rw[e1,e2]at c1;rw[hs];generalize cL ((a,b,c,d),x1,x2,x3,x4)=G at*;clear e1 e2 hs ha hb hc hd;refine aE ?_;exact aB
theorem aF1(l:List aY)(hs:∀s∈l,eR s)(hl:l.length<=1000000):PC 179 [.snap (aA aQ l)] (.aR [.agg (dN (fK l).1),zV (fK l).2.1,zV (fK l).2.2]):=by
 refine aT Tryz.func179 Tryz.ntmps179 (by simp only[go_sem,dN]) ?_
 obtain⟨M,hM⟩:∃M,fK l=M:=⟨_,rfl⟩;rw[hM];unfold fK at hM;by_cases b0:l=[]
 ·rw[if_pos b0]at hM
  subst hM;subst b0;unfold dN cQ;refine aE ?_;exact aB
 rw[if_neg b0]at hM;have h0:0<l.length:=by cases l with|nil=>exact absurd rfl b0|cons a b=>simp
 have lF:=fun k (hk:k<l.length)=>hs _ (dC aO hk)
 have iM:=lF 0 h0;have cn:=Qq _ iM.1;have hg:=gS l;have qM:=hg 0 h0;have qL:=G1 iM;have gH:=G0 iM;obtain⟨w5,w6⟩:=MC iM;have cW:fA (l.getD 0 aO)=(l.getD 0 aO).2.2.1+256*(l.getD 0 aO).2.2.2.1:=rfl;have cr:=De [(l.getD 0 aO).2.2.1,(l.getD 0 aO).2.2.2.1] (fun x hx=>by simp at hx;rcases hx with rfl|rfl<;>assumption) (by simp)
 have er:pZ [(l.getD 0 aO).2.2.1,(l.getD 0 aO).2.2.2.1]=fA (l.getD 0 aO):=by rw[cW];simp only[pZ];omega
 rw[er]at cr;have Qr:aA aH [(l.getD 0 aO).2.2.1,(l.getD 0 aO).2.2.2.1]=[[uV (l.getD 0 aO).2.2.1],[uV (l.getD 0 aO).2.2.2.1]]:=rfl;rw[Qr]at cr;have t0:((l.length:Int)==0)=false:=by simp;omega
 have G4:=Kv (fA (l.getD 0 aO));have Qs:sQ (fA (l.getD 0 aO))=if fA (l.getD 0 aO)<=4096 then(fA (l.getD 0 aO)+10)/4 else 0:=by unfold sQ;split<;>split<;>omega
 rw[Qs]at G4;clear Qs er Qr;have hm:∀k,k<l.length->PC 218 [.agg (aQ (l.getD k aO))] (zV (cL (l.getD k aO))):=fun k hk=>Qq _ (lF k hk).1
 have r6:∀q:Nat,q<=l.length->∀x∈eE (l.take q),aV x:=fun q hq x hx=>by
  unfold eE at hx;obtain⟨s,nH,hx⟩:=sJ.1 hx;exact(hs s (qB nH)).2 x hx
 replace hm:=aU.mk hm
 replace r6:=aU.mk r6
 generalize wM:l.getD 0 aO=S0 at*;obtain⟨⟨a0,a1,a2,a3⟩,a4,a5,a6,a7⟩:=S0;have bH:aQ ((a0,a1,a2,a3),a4,a5,a6,a7)=[uV a0,uV a1,uV a2,uV a3,uV a4,uV a5,uV a6,uV a7]:=rfl;rw[bH]at cn qM;simp only[]at*;generalize cL ((a0,a1,a2,a3),a4,a5,a6,a7)=gs at*;generalize fA ((a0,a1,a2,a3),a4,a5,a6,a7)=rl at*;clear hs lF iM cW b0 bH w5 w6;by_cases b1:gs=0
 ·rw[if_pos b1]at hM
  subst hM;have WQ:(gs==0)=true:=by simpa using b1
  unfold dN cQ;clear b1 hg G4 cr;refine aE ?_;exact aB
 rw[if_neg b1]at hM;have WQ:(gs==0)=false:=by simpa using b1
 by_cases b2:4096<rl
 ·rw[if_pos b2]at hM
  subst hM;unfold dN cQ;clear b1 hg G4;refine aE ?_;exact aB
 rw[if_neg b2]at hM;rw[if_pos (by omega)]at G4
 obtain⟨q,hq⟩:∃q:Nat,(rl+10)/4=q:=⟨((rl+10)/4).toNat,by omega⟩
 obtain⟨n,hn⟩:∃n:Nat,rl=n:=⟨rl.toNat,by omega⟩
 subst hn;rw[hq]at hM G4;by_cases b3:(l.length:Int)<(q:Int)
 ·rw[if_pos b3]at hM
  subst hM;unfold dN cQ;clear b1 hg;refine aE ?_;exact aB
 rw[if_neg b3]at hM;simp only[nC]at hM;have WS:q<=l.length:=by omega
 have oC:2<=q:=by omega
 obtain⟨D,hD⟩:∃D,eE (l.take q)=D:=⟨_,rfl⟩;have Df:D.length=4*q:=by rw[<-hD,xC,eD];omega
 have tA:=r6.out q WS;rw[hD]at hM tA;obtain⟨k,l0,l1,s0,s1,s2,s3,P,Z,rfl,hP⟩:=Qn (D:=D) (n:=n) (by omega)
 have G3:aU ((∃i,i<q/\cL (l.getD i aO)≠gs)->(cQ,(0:Int),(10:Int))=M):=⟨fun⟨i,i1,i2⟩=>by
  rw[if_pos]at hM
  ·exact hM
  ·refine pO.2 ⟨l.getD i aO,?_,by simpa using i2⟩
   refine eY (i:=i) ?_;rw[UB i1,lC,fU (by omega)]
   rfl⟩
 have WT:aU ((∀i,i<q->cL (l.getD i aO)=gs)->(if s0+256*s1+65536*s2+16777216*s3≠eO (k::l0::l1::P)then(cQ,0,9)else if k=0\/Z.any nA=true then(cQ,0,3)else(⟨k,gs,P⟩,(q:Int),0))=M):=⟨fun h=>by
  rw[if_neg]at hM
  ·have f1:(k::l0::l1::(P++s0::s1::s2::s3::Z)).drop (3+n)=s0::s1::s2::s3::Z:=by
    rw[show 3+n=n+1+1+1 by omega]
    simp only[KR];rw[<-hP,U0];rfl
   have f2:(k::l0::l1::(P++s0::s1::s2::s3::Z)).take (3+n)=k::l0::l1::P:=by
    rw[show 3+n=n+1+1+1 by omega]
    simp only[D5];rw[<-hP,EV];rfl
   have f3:(k::l0::l1::(P++s0::s1::s2::s3::Z)).drop (7+n)=Z:=by
    rw[show 7+n=3+n+4 by omega,<-KZ,f1]
    rfl
   have f4:(((k::l0::l1::(P++s0::s1::s2::s3::Z)).drop 3).take n)=P:=by
    simp only[KR,tH];rw[<-hP,EV];rfl
   rw[f1,f2,f3,f4]at hM;exact hM
  ·intro aF2
   obtain⟨x,hx,aM⟩:=pO.1 aF2;obtain⟨i,hi⟩:=wX.1 hx;rw[gF]at hi;split at hi
   ·rename_i bG
    have:=h i bG;rw[lC,hi]at this;simp only[qR]at this;rw[this]at aM;simp at aM
   ·cases hi⟩
 replace hg:=aU.mk hg
 replace tA:=aU.mk tA
 replace hD:=aU.mk hD
 clear hM r6 b1 hq wM qL gH;refine aE ?_
 refine dP (α:=Nat) q (fun k a=> [(9,true,zV k),(8,true,oV k a),(7,true,zV q),(5,true,zV gs),(6,true,zV n),(0,true,.snap (aA aQ l)),(2,true,.ptr 0 0 0)])
  (fun k a=>(0,some (.cells 111 3 [[zV 0,zV 0,.c (.slice none 0 0)]] true false))::oT k a (eE (l.take k)))
  (fun k m a=>(1<=m)/\(0<k->1<=a/\a<m)/\∀i,i<k->cL (l.getD i aO)=gs) ⟨100,0,⟨by omega,fun h=>by omega,fun i hi=>by omega⟩,?_⟩ (fun k' m a hk hR=> ?_) (fun m a hR=> ?_)
 ·simp only[oV,oT]
  exact aN
 ·obtain⟨nZ,hR,eT⟩:=hR
  have k1:k'<l.length:=by omega
  have ck:=hm.out k' k1;have cV:=hg.out k' k1;have h5:=PS (l:=l) (k:=k') k1;by_cases g:cL (l.getD k' aO)=gs
  ·have CH:aU (∀i,i<k'+1->cL (l.getD i aO)=gs):=⟨fun i hi=>by
    by_cases fE:i=k'
    ·subst fE;exact g
    ·exact eT i (by omega)⟩
   clear eT;rw[g]at ck;clear g;generalize l.getD k' aO=S at*;obtain⟨⟨x0,x1,x2,x3⟩,x4,x5,x6,x7⟩:=S;have wK:aQ ((x0,x1,x2,x3),x4,x5,x6,x7)=[uV x0,uV x1,uV x2,uV x3,uV x4,uV x5,uV x6,uV x7]:=rfl;have G2:aA aH (d4 ((x0,x1,x2,x3),x4,x5,x6,x7))=[[uV x4],[uV x5],[uV x6],[uV x7]]:=rfl;rw[wK]at ck cV;rw[G2]at h5;have Qt:(gs !=gs)=false:=by simp
   clear wK G2 qM cn cr G4 hm hg G3 WT tA hD;cases k' with
   |zero=>
    simp only[oV,oT,wY]at h5⊢;have h9:aA aH (eE (List.take (0+1) l))=[[uV x4],[uV x5],[uV x6],[uV x7]]:=h5.symm;clear h5 hR;refine aE ?_;refine⟨m+40,m,⟨by omega,fun _=>by omega,CH.out⟩,?_⟩
    simp only[oV,oT];exact aN
   |succ k'=>
    simp only[oV,oT]at h5⊢;obtain⟨i1,i2⟩:=hR (by omega)
    have h8:(eE (List.take (k'+1) l)).length=4*(k'+1):=by rw[xC,eD];omega
    clear hR;refine aE ?_;refine⟨m+40,m,⟨by omega,fun _=>by omega,CH.out⟩,?_⟩
    simp only[oV,oT];exact aN
  ·have g':(cL (l.getD k' aO) !=gs)=true:=by simpa using g
   have hM:=G3.out ⟨k',hk,g⟩;subst hM;clear eT h5 hm hg G3 WT tA hD g qM cn cr G4;generalize l.getD k' aO=S at*;obtain⟨⟨x0,x1,x2,x3⟩,x4,x5,x6,x7⟩:=S;have wK:aQ ((x0,x1,x2,x3),x4,x5,x6,x7)=[uV x0,uV x1,uV x2,uV x3,uV x4,uV x5,uV x6,uV x7]:=rfl;rw[wK]at ck cV;clear wK;unfold dN cQ;cases k' with
   |zero=>
    simp only[oV,oT]at cV⊢;clear hR;refine aE ?_;exact aB
   |succ k'=>
    obtain⟨i1,i2⟩:=hR (by omega)
    clear hR;simp only[oV,oT]at cV⊢;refine aE ?_;exact aB
 ·obtain⟨nZ,hR,eT⟩:=hR
  have hM:=WT.out eT;have tB:=hD.out;have WU:=tA.out;clear WT G3 eT hg hm qM cn cr G4 hD tA;obtain⟨p,rfl⟩:∃p,q=p+1:=⟨q-1,by omega⟩
  obtain⟨i1,i2⟩:=hR (by omega)
  clear hR;simp only[oV,oT,tB];clear tB
  have G5:∀x∈k::l0::l1::P,aV x:=fun x hx=>WU x (by
   simp only[fB,BR]at hx⊢;rcases hx with h|h|h|h
   ·exact .inl h
   ·exact .inr (.inl h)
   ·exact .inr (.inr (.inl h))
   ·exact .inr (.inr (.inr (.inl h))))
  have c3:=De [s0,s1,s2,s3] (fun x hx=>WU x (by
   simp only[fB,BR,mR,or_false]at hx⊢
   rcases hx with h|h|h|h<;>simp[h])) (by simp)
  have e3:pZ [s0,s1,s2,s3]=s0+256*s1+65536*s2+16777216*s3:=by simp only[pZ];omega
  rw[e3]at c3;have c4:=Lq (k::l0::l1::P) G5 (by simp;omega)
  have qG:=HR (k::l0::l1::P);have w4:IntKind.i64.wrap (eO (k::l0::l1::P))=eO (k::l0::l1::P):=IntWalk.i64_in _ (by omega)
  have w1:IntKind.i64.wrap (3+(n:Int))=((3+n:Nat):Int):=by rw[IntWalk.i64_in _ (by omega)];omega
  have w2:IntKind.i64.wrap (7+(n:Int))=((7+n:Nat):Int):=by rw[IntWalk.i64_in _ (by omega)];omega
  have f1:List.take 4 (List.drop (3+n) (k::l0::l1::(P++s0::s1::s2::s3::Z)))=[s0,s1,s2,s3]:=by
   rw[show 3+n=n+1+1+1 by omega]
   simp only[KR];rw[<-hP,U0]
   ·rfl
   ·rfl
  have f2:List.take (3+n) (k::l0::l1::(P++s0::s1::s2::s3::Z))=k::l0::l1::P:=by
   rw[show 3+n=n+1+1+1 by omega]
   simp only[D5];rw[<-hP,EV];rfl
  have f4:List.take n (List.drop 3 (k::l0::l1::(P++s0::s1::s2::s3::Z)))=P:=by
   simp only[KR,tH];rw[<-hP,EV];rfl
  have f5:∀j,j<Z.length->(aA aH (k::l0::l1::(P++s0::s1::s2::s3::Z)))[7+n+j]? =some [uV (Z.getD j 0)]:=fun j hj=>by
   have h1:=gB (k::l0::l1::(P++s0::s1::s2::s3::Z)) (7+n+j) (by simp;omega)
   rw[h1]
   have h2:(k::l0::l1::(P++s0::s1::s2::s3::Z)).getD (7+n+j) 0=Z.getD j 0:=by
    rw[show 7+n+j=(P.length+(j+4))+1+1+1 by omega]
    simp only[List.getD_cons_succ];rw[lC,lD (by omega),show P.length+(j+4)-P.length=j+1+1+1+1 by omega]
    simp only[qS];rw[lC]
   rw[h2];rfl
  have bJ1:4*(p+1)=7+n+Z.length:=by
   rw[<-Df];simp only[eI,cP];omega
  have LY:aV k:=G5 k (by simp)
  have f6:(aA aH (k::l0::l1::(P++s0::s1::s2::s3::Z)))[0]? =some [uV k]:=rfl;generalize k::l0::l1::(P++s0::s1::s2::s3::Z)=D at*;generalize eO (k::l0::l1::P)=C at*;generalize s0+256*s1+65536*s2+16777216*s3=T at*;have w5:(((7+n:Nat):Int)-((3+n:Nat):Int)).toNat=4:=by omega
  by_cases g1:T=C
  case neg=>
   rw[if_pos g1]at hM;subst hM;have xY:(T !=C)=true:=by simpa using g1
   clear g1 f5 f6 WU G5 e3;unfold dN cQ;refine aE ?_;refine Qu (off:=0) (len:=7+n+Z.length) 8 a (rows:=aA aH D) (aA aH D) (by rw[fZ];omega) (by rw[tH,cR (by rw[fZ];omega)]) ?_
   refine aE ?_;exact aB
  rw[if_neg (fun h=>h g1)]at hM
  have xY:(T !=C)=false:=by simpa using g1
  clear g1
  replace f5:=aU.mk f5
  replace f6:=aU.mk f6
  replace hM:=aU.mk hM
  clear WU G5 e3;refine aE ?_;refine Qu (off:=0) (len:=7+n+Z.length) 8 a (rows:=aA aH D) (aA aH D) (by rw[fZ];omega) (by rw[tH,cR (by rw[fZ];omega)]) ?_
  refine aE ?_;clear c3 c4 xY
  refine dP (α:=Unit) Z.length (fun j _=> [(10,true,zV ((7+n+j:Nat):Int)),(8,true,.snap (aA aH D)),(7,true,zV ↑(p+1)),(5,true,zV gs),(6,true,zV ↑n),(2,true,.ptr 0 0 0)])
   (fun _ _=> [(0,some (.cells 111 3 [[zV 0,zV 0,.c (.slice none 0 0)]] true false))])
   (fun j m' _=>m<=m'/\∀i,i<j->nA (Z.getD i 0)=false) ⟨m+100,(),⟨by omega,fun i hi=>by omega⟩,?_⟩ (fun j m' _ hj hR=> ?_) (fun m' _ hR=> ?_)
  ·exact aN
  ·obtain⟨nD,eT⟩:=hR
   have fj:=f5.out j hj;by_cases g2:nA (Z.getD j 0)=true
   ·have hZ:Z.any nA=true:=pO.2 ⟨Z.getD j 0,dC 0 hj,g2⟩
    have fS:=hM.out;rw[if_pos (.inr hZ)]at fS;subst fS;have CG:(Z.getD j 0 !=0)=true:=g2;clear g2 hZ hM eT f5 f6;unfold dN cQ;refine aE ?_;exact aB
   ·have CG:(Z.getD j 0 !=0)=false:=by
     have:nA (Z.getD j 0)=false:=by simpa using g2
     exact this
    have CH:aU (∀i,i<j+1->nA (Z.getD i 0)=false):=⟨fun i hi=>by
     by_cases jY:i=j
     ·subst jY;exact CG
     ·exact eT i (by omega)⟩
    clear g2 eT hM f5 f6;refine aE ?_;exact⟨m'+20,(),⟨by omega,CH.out⟩,aN⟩
  ·obtain⟨nD,eT⟩:=hR
   have hZ:Z.any nA=false:=by
    cases hz:Z.any nA with
    |false=>rfl
    |true=>
     obtain⟨x,hx,h1⟩:=pO.1 hz;obtain⟨i,hi⟩:=wX.1 hx;obtain⟨h2,h3⟩:=dS.1 hi;have h4:=eT i h2;rw[lC,hi]at h4;simp only[qR]at h4;rw[h4]at h1;exact absurd h1 (by decide)
   have fS:=hM.out;have f6':=f6.out;clear eT hM f5 f6;rw[hZ]at fS;by_cases g3:k=0
   ·rw[if_pos (.inl g3)]at fS
    subst fS;have AO:(k==0)=true:=by simpa using g3
    clear g3;unfold dN cQ;refine aE ?_;exact aB
   ·rw[if_neg (by simp[g3])]at fS
    subst fS;have AO:(k==0)=false:=by simpa using g3
    have w6:IntKind.i64.wrap k=k:=by
     have:=LY.1;have:=LY.2;exact IntWalk.i64_in _ (by omega)
    unfold dN;simp only[];clear g3 hZ;by_cases WV:P=[]
    ·have LN:n=0:=by rw[<-hP,WV];rfl
     subst WV;subst LN;refine aE ?_;exact aB
    ·obtain⟨n',rfl⟩:∃n',n=n'+1:=⟨n-1,by have:P.length≠0:=fun e=>WV (fI e);omega⟩
     have f7:List.take (3+(n'+1)-3) (List.drop 3 D)=P:=by rw[show 3+(n'+1)-3=n'+1 by omega];exact f4
     have aM:=rS WV;have iD:List.take (n'+1) P=P:=cR (by omega)
     refine aE ?_;exact aB
end Go.Proofs.YtioafciifiggaaaGreatDoor
