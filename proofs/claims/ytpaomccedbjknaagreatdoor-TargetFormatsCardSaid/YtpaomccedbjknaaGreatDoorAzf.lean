/- Target: contracts of its functions (Azf). No condition but those named. -/
import Derived.Test.YtpaomccedbjknaaGreatDoorAze
set_option linter.all false
namespace Go.Proofs.YtpaomccedbjknaaGreatDoor
open Go.Proofs Go.AL Tryz
set_option maxRecDepth 100000
set_option maxHeartbeats 8000000
attribute [local irreducible] bT AW b8 cF dB hold
def FX(l:List bR):List AV:=[.snap (aB aH l)]
instance :rN FX 1:=⟨fun _=>rfl,fun _=>rfl,fun l x hx=>by
 simp only[FX,dJ,iI,or_false]at hx;subst hx
 exact gJ l⟩
def qS(h:List (List bR)):Nat:=(h.map List.length).sum
theorem Sb(h:List (List bR))(x:List bR):qS (h++[x])=qS h+x.length:=by simp[qS]
theorem Cu(h:List (List bR)):h.flatten.length=qS h:=by simp[qS,List.length_flatten]
theorem Cv(h:List (List bR))(k:Nat):qS (h.take k)<=qS h:=by
 have e:qS (h.take k++h.drop k)=qS (h.take k)+qS (h.drop k):=by unfold qS;rw[CV,Y8]
 rw[Y4]at e;omega
theorem gHo(h:List (List bR))(k:Nat)(hk:k<h.length):(aB FX h)[k]? =some [.snap (aB aH (h.getD k []))]:=tB [] hk
theorem aQ6(h:List (List bR)){k:Nat}(hk:k<h.length):(h.take (k+1)).flatten=(h.take k).flatten++h.getD k []:=by
 rw[kF [] hk];simp
theorem aQ7(h:List (List bR))(hl:h.length<=100000)(hs:qS h<=1000000):PC 35 [.snap (aB FX h)] (.snap (aB aH h.flatten)):=by
 refine aZ func35 ntmps35 (gJ _) ?_;have hg:=gHo h;refine aM ?_;refine nS h.length 0 [] (fun k=> [(11,true,zV k),(10,true,zV h.length),(9,true,.snap (aB FX h)),(3,true,zV (qS (h.take k))),(0,true,.snap (aB FX h))]) aG (fun k m hk hm=> ?_) (fun m hm=> ?_)
 ·have k1:=hg k hk
  have k2:=Cv h (k+1);have k3:((qS (h.take k):Nat):Int)+((h.getD k []).length:Int)=((qS (h.take (k+1)):Nat):Int):=by rw[kF [] hk,Sb];push_cast;rfl
  have k4:¬((qS (h.take (k+1)):Nat):Int)<0:=oM
  have k5:IntKind.i64.wrap ((qS (h.take k):Nat)+((h.getD k []).length:Int))=(qS (h.take (k+1)):Nat):=by rw[k3];exact IntWalk.i64_in _ oM
  clear hg k3;refine aM ?_;exact⟨m,hm,aG⟩
 rw[gP];by_cases h0:qS h=0
 ·have hz:h.flatten=[]:=eL (by rw[Cu];exact h0)
  rw[h0,hz];refine aM ?_;refine eO func90 ntmps90 ?_;refine aM ?_;refine nS h.length m [] (fun k=> [(27,true,zV k),(26,true,zV h.length),(25,true,.snap (aB FX h)),(6,true,.c (.slice none 0 0))]) aG (fun k m' hk tI=> ?_) (fun m' tI=> ?_)
  ·have k1:=hg k hk
   have k2:h.getD k []=[]:=by
    have k3:=Cv h (k+1);rw[kF [] hk,Sb]at k3;exact eL oM
   rw[k2]at k1;clear hg hz k2;refine aM ?_;exact⟨m',tI,aG⟩
  ·refine aM ?_
   exact cR
 ·obtain⟨n,hn⟩:∃n,qS h=n:=⟨_,rfl⟩
  have Q1:(0:Int)<n:=oM
  have uF:¬(n:Int)<0:=oM
  have lK:=Cu h;have iR:=fun k=>Cv h k
  rw[hn]at lK iR hs⊢;have hz9:IntKind.i64.wrap ((n:Int)-(((0:Nat):Int)-((0:Nat):Int)))=n:=by rw[IntWalk.i64_in _ oM];omega
  have BG:((0:Nat):Int)=0:=rfl;have ZW:IntKind.i64.wrap ((n:Int)-(0-0))=n:=by rw[IntWalk.i64_in _ oM];omega
  have DH:(n:Int)<=9223372036854775807:=oM
  have pT:(n:Int)*((3:Nat):Int)<=281474976710656:=oM
  refine aM ?_;refine eO func90 ntmps90 ?_;refine aM ?_;refine Na m 0 (e:=105) (s:=3) (rows:=List.replicate n [zV 0,zV 0,.c (.slice none 0 0)]) (a:=true) (by simp(disch:=omega) only[go_sem]) ?_
  have qJ:∀k,(h.take k).flatten.length<=n:=fun k=>by rw[Cu];exact iR k
  refine dC (α:=Nat) h.length (fun k id=> [(27,true,zV k),(26,true,zV h.length),(25,true,.snap (aB FX h)),(6,true,.own id 0 (h.take k).flatten.length)]) (fun k id=> [(id,some (.cells 105 3 (aB aH (h.take k).flatten) true true))]) (fun k m' id=>id<m') ⟨m+100,m,oM,aG⟩ (fun k m' id hk hR=> ?_) (fun m' id hR=> ?_)
  ·have k1:=hg k hk
   have k2:=aQ6 h hk;have k3:=qJ (k+1);rw[k2]at k3⊢;rw[cU]at k3;clear hg iR qJ k2 lK;generalize (h.take k).flatten=F at*;generalize h.getD k []=x at*;refine aM ?_;exact⟨m'+2,m',oM,aG⟩
  ·rw[gP]
   clear hg iR qJ lK;exact zEa
end Go.Proofs.YtpaomccedbjknaaGreatDoor
namespace Go.Proofs.YtpaomccedbjknaaGreatDoor
open Go.Proofs Go.AL Tryz
set_option maxRecDepth 100000
set_option maxHeartbeats 8000000
attribute [local irreducible] bT tN wU tS AW b8 cF dB hold
theorem Sc:(nK 16 (aV 0++aV 1)).2=0:=by
 have h:(aV 0++aV 1).length=2:=by simp[aV,iY,vg]
 unfold nK;rw[if_neg dE,if_neg oM]
theorem Sd(r:eD):(nK 0 (gR r)).2=0:=by
 have:=PF r;unfold nK;rw[if_neg dE,if_neg oM]
theorem aQ8(l:List Int)(s d n:Int)(hl:l.length<=1000000):PC 32 [.snap (aB aW l),zV s,zV d,zV n] (.aK [.agg (cC (kW l s d n).1),.snap (aB aH (kW l s d n).2.1),zV (kW l s d n).2.2]):=by
 by_cases h:l=[]
 ·subst h
  exact eA.nil (pre:=[]) (post:=[zV s,zV d,zV n]) (af2 s d n)
 ·exact af1 l s d n h hl
theorem Cw(a c:Int):(lZ a c).2.1.length<=10:=by
 have h:=KY a (aV 0++aV 1);unfold lZ;split
 ·unfold nM
  split
  ·split
   ·simp only[cU,iQ,kT];omega
   ·simp
  ·simp
 ·simp
theorem Cx(l:List Int)(s d n:Int):(kW l s d n).2.1.length<=10:=by
 have h:=KY s (gR ⟨l,s,d,n,0,0⟩);unfold kW;split
 ·split
  ·split
   ·simp only[cU,iQ,kT];omega
   ·simp
  ·simp
 ·simp
theorem Cy{sz:List Int}{n:Int}(h:(oH sz n).2=0):20<=n/\n<=4096:=by
 unfold oH at h;by_cases h1:cZ sz=0
 ·rw[if_pos h1]at h
  have h3:=BD h1;split at h
  ·exact absurd h dE
  ·omega
 ·rw[if_neg h1]at h
  exact absurd h h1
theorem Cz{sz:List Int}(h:cZ sz=0):(mG sz).length<=1000/\∀v∈mG sz,v.length<=1000000:=by
 have h8:sz.length<=8:=by
  unfold cZ at h;split at h
  ·cases h
  ·omega
 have hs:=BD h;have e:=U0 h;have e2:=congrArg List.length e;simp only[bH,zP]at e2;refine⟨oM,fun v hv=> ?_⟩
 have h3:(v.length:Int)∈bH (mG sz):=mF.2 ⟨v,hv,rfl⟩;rw[e]at h3;obtain⟨i,hi,hiv⟩:=CW.1 h3;have:=YZ h (v:=i) oM
 rw[rL,gY hi]at this;simp only[yH,hiv]at this;omega
theorem aR0(pl ep:Int)(sz:List Int)(n:Int)(p:qQ)(hz:sz.length<=1000)(hp:p.rules.length<=1000000):qA prog 24 [.ptr 4 0 0,.ptr 2 0 0,.ptr 3 0 0,.ptr 0 0 0,.ptr 1 0 0,.ptr 6 0 0,.ptr 7 0 0] ⟨9,bN [(0,some (.cells 3 1 [[zV pl]] true false)),(1,some (.cells 3 1 [[zV ep]] true false)),(2,some (.cells 22 1 [[.snap (aB aW sz)]] true false)),(3,some (.cells 3 1 [[zV n]] true false)),(4,some (.cells 25 2 [kO p] true false)),(5,gU l6),(6,gU l6),(7,sA (.c (.slice none 0 0))),(8,some (tO 0))]⟩ (fun _ H'=>Ct 8 (CD 5 6 7 (pZ pl ep sz n p)) 0 H') (fun x H'=>∃e,x=uO e/\Ct 8 (CD 5 6 7 (pZ pl ep sz n p)) e H'):=by
 refine LW func24 ntmps24 ?_;have c1:=Cl p hp;have c2:=VW sz n hz;have c3:=Rm pl;have c4:=Rn ep;obtain⟨M,hM⟩:∃M,pZ pl ep sz n p=M:=⟨_,rfl⟩;rw[hM];have hE:=Cr (M:=M) (N:=8) (a:=5) (b:=6) (c:=7) dE dE
 replace hE:=bC.mk hE
 unfold pZ at hM
 replace hM:=bC.mk hM
 unfold kO at*;refine dI (s6 2 ?_);refine aE ?_;refine s8 (l2:=[]) (sR (rH p)) (fun g=> ?_) (fun g=> ?_)
 ·have hN:=hM.out
  rw[if_neg g]at hN;exact pG (iT (s9 ⟨_,rfl,hE.out _ g hN.symm _ aG⟩))
 replace hM:=bC.mk (by have hN:=hM.out;rw[if_pos g]at hN;exact hN)
 clear g;refine lP (oI (dI (gM ?_)));refine aE ?_;refine gH.mk (dI (s6 1 ?_));refine aE ?_;refine s8 (l2:=[]) (sR ((oH sz n).2)) (fun g=> ?_) (fun g=> ?_)
 ·have hN:=hM.out
  rw[if_neg g]at hN;exact pG (iT (s9 ⟨_,rfl,hE.out _ g hN.symm _ aG⟩))
 replace hM:=bC.mk (by have hN:=hM.out;rw[if_pos g]at hN;exact hN)
 have DK:=g;clear g;refine lP (oI (dI (s6 6 ?_)));refine aE ?_;refine s8 (l2:=[]) (zB (C8 pl&&fY ep) 2 dE) (fun g=> ?_) (fun g=> ?_)
 ·have hN:=hM.out
  rw[if_neg (by simpa using g)]at hN
  exact pG (iT (s9 ⟨_,rfl,hE.out _ dE hN.symm _ aG⟩))
 replace hM:=bC.mk (by have hN:=hM.out;rw[if_pos (by simpa using g)]at hN;exact hN)
 have W5:fY ep=true:=by simp at g;exact g.2
 clear g;obtain⟨q1,q2,q3⟩:=Ri DK W5 Sc (Sd _);have m0:=(sR 0).1 rfl;have q4:=Cy DK;have c5:=aN7 n;have c6:=aF6 16 n;have c7:=aQ8 sz 0 (16+n) ep oM
 have c8:=OX sz oM
 obtain⟨n1,n2⟩:=Cz q1;have c9:=aQ4 (mG sz) n1 n2;have q5:zD (mG sz)=(⟨mG sz,[]⟩,0):=by unfold zD;rw[U0 q1,if_pos q1]
 rw[q5]at c9;have C5:=Cn p hp;have l1:=Cw 16 n;have l2:=Cx sz 0 (16+n) ep
 have xZ:PC 35 [.snap [[.snap (aB aH (lZ 16 n).2.1)],[.snap (aB aH (kW sz 0 (16+n) ep).2.1)]]] (.snap (aB aH ((lZ 16 n).2.1++(kW sz 0 (16+n) ep).2.1))):=by
  have h:=aQ7 [(lZ 16 n).2.1,(kW sz 0 (16+n) ep).2.1] (by simp) (by simp[qS];omega)
  simp only[YB,List.flatten_nil,v7]at h;exact h
 have w1:IntKind.i64.wrap (16+n)=16+n:=IntWalk.i64_in _ oM
 rw[q2]at c6;rw[q3]at c7;rw[q1]at c8;clear q1 q2 q3 q4 q5 n1 n2 l1 l2 DK W5 c1 c2 c3 c4 hz hp;generalize (kW sz 0 (16+n) ep).1=R1 at*;generalize (kW sz 0 (16+n) ep).2.1=R2 at*;generalize (lZ 16 n).1=S1 at*;generalize (lZ 16 n).2.1=S2 at*;unfold dH cC kN kO at*;simp only[]at*;refine lP (oI (dI (gM ?_)));refine aE ?_;refine gH.mk (dI (gM ?_));refine aE ?_
 refine gH.mk (dI (gM ?_));refine aE ?_;refine gH.mk (dI (gM ?_));refine aE ?_;refine gH.mk (dI (gM ?_));refine aE ?_;refine gH.mk (dI (gM ?_));refine aE ?_;refine gH.mk (dI (gM ?_));refine aE ?_;refine gH.mk (dI (gM ?_));refine aE ?_;refine gH.mk (?_);refine kU (env:=[(0,true,.ptr 4 0 0),(3,true,.ptr 0 0 0),(5,true,.ptr 6 0 0),(6,true,.ptr 7 0 0),(9,true,.ptr 9 0 0),(10,true,.snap (aB aH S2)),(11,true,.ptr 11 0 0),(12,true,.snap (aB aH R2)),(14,true,.ptr 13 0 0)]) (H:=⟨100,bN [(0,some (.cells 3 1 [[zV pl]] true false)),(4,some (.cells 25 2 [[zV p.C7,.snap (aB jY p.rules)]] true false)),(5,gU l6),(6,gU l6),(7,sA (.c (.slice none 0 0))),(8,some (tO 0)),(9,some (.cells 42 7 [[zV S1.j.start,zV S1.j.count,zV S1.j.head,zV S1.j.tail,zV S1.j.first,.snap (aB aW S1.j.aR),.snap (aB bX S1.bI)]] true false)),(11,some (.cells 35 6 [[.snap (aB aW R1.aR),zV R1.gQ,zV R1.data,zV R1.dY,zV R1.dK,zV R1.jM]] true false)),(13,some (.cells 47 2 [[.snap (aB bA (mG sz)),.snap (aB cX [])]] true false))]⟩) aG ?_
 refine VL ?_;have hN:=hM.out;subst hN;exact iT (LX (zC (a:= .aK []) (VZ dE dE rfl _ (by rw[iF];exact aG))))
theorem Se(pl ep:Int)(sz:List Int)(n:Int)(p:qQ)(hz:sz.length<=1000)(hp:p.rules.length<=1000000):PC 7 [zV pl,zV ep,.snap (aB aW sz),zV n,.agg (kO p)] (.aK [.agg (cP (pZ pl ep sz n p).1),.snap (aB aH (pZ pl ep sz n p).2.1),zV (pZ pl ep sz n p).2.2]):=by
 have c1:=LQ (L:=[(0,some (.cells 3 1 [[zV pl]] true false)),(1,some (.cells 3 1 [[zV ep]] true false)),(2,some (.cells 22 1 [[.snap (aB aW sz)]] true false)),(3,some (.cells 3 1 [[zV n]] true false)),(4,some (.cells 25 2 [kO p] true false)),(5,gU l6),(6,gU l6),(7,sA (.c (.slice none 0 0)))]) (N:=8) (aR0 pl ep sz n p hz hp);generalize pZ pl ep sz n p=M at*;refine iZ func7 ntmps7 (by rw[iF];simp only[go_sem]) ?_
 unfold kO at*;refine aE ?_;refine tC c1 (fun r H' hr=> ?_)
 obtain⟨rfl,m,⟨h1,rfl⟩|⟨h1,h2,rfl⟩⟩:=hr
 ·rw[iF]
  refine aE ?_;exact dS
 ·obtain⟨e,he⟩:∃e,M.2.2=e:=⟨_,rfl⟩
  rw[he]at h1 h2;subst h2;rw[LZ];refine aE ?_;exact dS
end Go.Proofs.YtpaomccedbjknaaGreatDoor
namespace Go.Proofs.YtpaomccedbjknaaGreatDoor
open Go.Proofs Go.AL Tryz
set_option maxRecDepth 100000
set_option maxHeartbeats 8000000
attribute [local irreducible] iX
theorem aR1{j:Jr}{k:Int}{p:List Int}(hj:jE j=0)(h:(rF j k p).2.2=0):jE (rF j k p).1=0/\(rF j k p).1.first=j.first/\jN (rF j k p).1=jN j+1:=by
 have hn:=Bw hj;obtain⟨j1,j2,j3,j4,j5,j6,j7,j8⟩:=DM hj
 have key:jE (rF j k p).1=0/\(rF j k p).1.first=j.first/\(rF j k p).1.aR.length=j.aR.length+1:=by
  unfold rF at h⊢;rw[if_pos hj]at h⊢;by_cases g1:(rE k (jN j) p).2=0
  case neg=>rw[if_neg g1]at h;exact absurd h g1
  rw[if_pos g1]at h⊢;by_cases g2:1073741824<=jN j
  ·rw[if_pos g2]at h;exact absurd h dE
  rw[if_neg g2]at h⊢;by_cases g3:j.count-16-j.aR.sum<(rE k (jN j) p).1.length
  ·rw[if_pos g3]at h;exact absurd h dE
  rw[if_neg g3]
  have hr:2<=(rE k (jN j) p).1.length/\(rE k (jN j) p).1.length<=1026:=by
   unfold rE at g1⊢;split at g1
   ·exact absurd g1 dE
   ·rename_i a1
    rw[if_neg a1];split at g1
    ·exact absurd g1 dE
    ·rename_i a2
     rw[if_neg a2];simp only[zP,List.length_range,aG5];unfold xI;omega
  generalize (rE k (jN j) p).1=L at*;refine⟨aG6 j1 j2 j3 j4 ?_ ?_ ?_ ?_,rfl,by simp⟩
  ·simp only[cU,iQ,kT]
   omega
  ·simp only[Y8,Is,List.sum_nil]
   rw[j6,Int.add_zero,<-Zk,Int.emod_add_emod]
  ·simp only[Y8,Is,List.sum_nil]
   omega
  ·rw[List.any_append,j8]
   simp only[Zj,List.any_nil,DL,Zq,Bool.or_false,Bool.or_eq_false_iff,decide_eq_false_iff_not];omega
 obtain⟨k1,k2,k3⟩:=key;refine⟨k1,k2,?_⟩;rw[Bw k1,k2,k3,hn]
 push_cast
 omega
theorem aR2{j:Jr}(hj:jE j=0):j.aR.length<=4096:=by
 obtain⟨j1,j2,j3,j4,j5,j6,j7,j8⟩:=DM hj;have:=(L7 _ (L6 j8)).1;unfold mH at j1;simp only[jF,decide_eq_true_eq]at j1;omega
theorem aR3{s:jB}{n:Int}(hs:yV s)(hc:s.bI.length<=1000)(h:(rG s n).2.2=0):l5 (rG s n).1=0/\yV (rG s n).1/\(pX (rG s n).1 n).2=0:=by
 unfold rG at h⊢;by_cases g1:l5 s=0
 case neg=>rw[if_neg g1]at h;exact absurd h g1
 rw[if_pos g1]at h⊢;by_cases g2:pE s.bI n=true
 case neg=>rw[if_neg g2]at h;exact absurd h dE
 rw[if_pos g2]at h⊢;obtain⟨hj,-,iR⟩:=FA g1;have oC:=HZ s.j _ _ _ iR;have yQ:PW s.bI:=(Q9 s.j _ _ _ iR).1;obtain⟨hi,aR4⟩:=FB g2;have VE:=aI2 g2;have hm:=eB bU hi;generalize hy:s.bI.getD (fE s.bI n) bU=y at*;obtain⟨c1,c2,c3,c4,c5⟩:=Qp (oC _ hm);by_cases g3:y.closed=true
 ·rw[if_pos g3]
  refine⟨g1,hs,?_⟩;unfold pX;simp only[];rw[if_pos g1,if_pos g2,hy,if_pos g3];exact c3 g3
 rw[if_neg g3]at h⊢;by_cases g4:(uE (cD y)).2=0
 case neg=>rw[if_neg g4]at h;exact absurd h g4
 rw[if_pos g4]at h⊢;unfold DP at h⊢;by_cases g5:(rF s.j 2 (aV n)).2.2=0
 case neg=>rw[if_neg g5]at h;exact absurd h g5
 rw[if_pos g5];obtain⟨a1,a2,a3⟩:=aR1 hj g5;have hyr:=aF0 (oC _ hm);obtain⟨x,hx⟩:∃x,z7 (cD y) (y.records++[jN s.j]) true=x:=⟨_,rfl⟩;have x1:cD x=cD y:=by rw[<-hx];rfl
 have x2:x.closed=true:=by rw[<-hx];rfl
 have x3:x.records=y.records++[jN s.j]:=by rw[<-hx];rfl
 have x4:x.number=n:=by rw[<-hx];exact aR4
 have x5:DN x=DN y:=by rw[<-hx];rfl
 have eC:l5 ⟨(rF s.j 2 (aV n)).1,rZ s.bI x⟩=0:=by
  refine aM6 g1 a1 a2 a3 ⟨by rw[x1];exact c1,by rw[x5];exact c2,fun _=>by rw[x1];exact g4,⟨y.records,x3,.inr ⟨y,by rw[x4];exact VE,rfl⟩⟩,?_⟩ hc
  unfold BS at c5⊢;rw[if_pos x2,x3,cU,x5];rw[if_neg g3]at c5;simp only[iQ,kT];omega
 rw[hx];simp only[]
 have W6:AJ (rZ s.bI x) n=some x:=by
  have:=aG3 yQ x
  rwa[x4]at this
 obtain⟨b1,b2⟩:=Qm W6;refine⟨eC,⟨by have:=aR2 a1;simp only[];omega,?_,fun z hz=> ?_⟩,?_⟩
 ·have:=Py s.bI x
  simp only[];omega
 ·rcases Pz hz with e|e
  ·rw[e]
   exact⟨by rw[x1];exact(hs.one y hm).cD,by rw[x3,cU];simp only[iQ,kT];omega⟩
  ·exact hs.one z e
 ·unfold pX
  simp only[];rw[if_pos eC,if_pos b1,b2,if_pos x2,x1];exact g4
theorem CE:yP mV:=⟨by simp[mV],by simp[mV],fun w hw=>by simp[mV]at hw⟩
theorem aR5(b:List Int):yP (A5 b).1:=by
 unfold A5;split
 ·exact CE
 ·unfold ZM
  split
  ·split
   ·split
    ·split
     ·split
      ·split
       ·split
        ·exact Ms _ _ _ _ _
        ·exact CE
       ·exact CE
      ·exact CE
     ·exact CE
    ·exact CE
   ·exact CE
  ·exact CE
theorem aR6(a:oX):yP (uE a).1:=by
 unfold uE
 repeat' split
 all_goals first|exact aR5 _|exact CE
theorem aR7(s:jB)(n:Int):yP (pX s n).1:=by
 unfold pX
 repeat' split
 all_goals first|exact aR6 _|exact CE
end Go.Proofs.YtpaomccedbjknaaGreatDoor
namespace Go.Proofs.YtpaomccedbjknaaGreatDoor
open Go.Proofs Go.AL Tryz
set_option maxRecDepth 100000
set_option maxHeartbeats 8000000
attribute [local irreducible] bT tN wU tS AW b8 cF dB hold
theorem aR8(t:fR)(ht:tT t)(hc:t.s.bI.length<=1000)(n k:Int):qA prog 58 [.ptr 0 0 0,.ptr 1 0 0,.ptr 2 0 0,.ptr 4 0 0,.ptr 5 0 0] ⟨7,bN [(0,gU (cP t)),(1,some (.cells 3 1 [[zV n]] true false)),(2,some (.cells 3 1 [[zV k]] true false)),(3,gU l6),(4,gU l6),(5,sA (.c (.slice none 0 0))),(6,some (tO 0))]⟩ (fun _ H'=>Ct 6 (CD 3 4 5 (DU t n k)) 0 H') (fun x H'=>∃e,x=uO e/\Ct 6 (CD 3 4 5 (DU t n k)) e H'):=by
 refine LW func58 ntmps58 ?_;have c1:=Sa t n ht;have c2:=aE8 t.s k ht.s;have c4:=Co t ht;have hz:=ht.aR;obtain⟨M,hM⟩:∃M,DU t n k=M:=⟨_,rfl⟩;rw[hM];have hE:=Cr (M:=M) (N:=6) (a:=3) (b:=4) (c:=5) dE dE
 replace hE:=bC.mk hE
 have hS:=bC.mk (aR3 (n:=k) ht.s hc);unfold DU at hM
 replace hM:=bC.mk hM
 clear ht hc;rw[iF]at*;unfold dH at c2;refine dI (s6 2 ?_);refine aE ?_;refine s8 (l2:=[]) (c1) (fun g=> ?_) (fun g=> ?_)
 ·have hN:=hM.out
  rw[if_neg g]at hN;exact pG (iT (s9 ⟨_,rfl,hE.out _ g hN.symm _ aG⟩))
 replace hM:=bC.mk (by have hN:=hM.out;rw[if_pos g]at hN;exact hN)
 clear c1;clear g;refine lP (oI (dI (s6 5 ?_)));refine aE ?_;refine s8 (l2:=[]) (zB (decide (t.r.dK<k)) 8 dE) (fun g=> ?_) (fun g=> ?_)
 ·have hN:=hM.out
  rw[if_pos (by simpa using g)]at hN
  exact pG (iT (s9 ⟨_,rfl,hE.out _ dE hN.symm _ aG⟩))
 replace hM:=bC.mk (by have hN:=hM.out;rw[if_neg (by simpa using g)]at hN;exact hN)
 clear g;refine lP (oI (dI (gM ?_)));refine aE ?_;refine gH.mk (dI (s6 1 ?_));refine aE ?_;refine s8 (l2:=[]) (sR ((rG t.s k).2.2)) (fun g=> ?_) (fun g=> ?_)
 ·have hN:=hM.out
  rw[if_neg g]at hN;exact pG (iT (s9 ⟨_,rfl,hE.out _ g hN.symm _ aG⟩))
 replace hM:=bC.mk (by have hN:=hM.out;rw[if_pos g]at hN;exact hN)
 obtain⟨-,q1,q2⟩:=hS.out g;have c5:=No (rG t.s k).1 k q1;rw[q2]at c5;have c6:=U1 (pX (rG t.s k).1 k).1 t.r.aR oM (aR7 _ _)
 have m0:=(sR 0).1 rfl;clear hS q1 q2;generalize pX (rG t.s k).1 k=C at*;unfold dH at c5;unfold iO at c5 c6;clear g;refine lP (oI (dI (gM ?_)));refine aE ?_;refine gH.mk (dI (gM ?_));refine aE ?_;refine gH.mk (dI (s6 5 ?_));refine aE ?_;refine s8 (l2:=[]) (sR (rT C.1 t.r.aR)) (fun g=> ?_) (fun g=> ?_)
 ·have hN:=hM.out
  rw[if_neg g]at hN;exact pG (iT (s9 ⟨_,rfl,hE.out _ g hN.symm _ aG⟩))
 replace hM:=bC.mk (by have hN:=hM.out;rw[if_pos g]at hN;exact hN)
 clear g;refine lP (oI (dI (gM ?_)));refine aE ?_;refine gH.mk (?_);refine xL ?_;refine xL ?_;have hN:=hM.out;subst hN;exact iT (LX (zC (a:= .aK []) (VZ dE dE rfl _ (by rw[iF];exact aG))))
theorem aR9(t:fR)(ht:tT t)(hc:t.s.bI.length<=1000)(n k:Int):PC 15 [.agg (cP t),zV n,zV k] (.aK [.agg (cP (DU t n k).1),.snap (aB aH (DU t n k).2.1),zV (DU t n k).2.2]):=by
 have c1:=LQ (L:=[(0,gU (cP t)),(1,some (.cells 3 1 [[zV n]] true false)),(2,some (.cells 3 1 [[zV k]] true false)),(3,gU l6),(4,gU l6),(5,sA (.c (.slice none 0 0)))]) (N:=6) (aR8 t ht hc n k);generalize DU t n k=M at*;refine iZ func15 ntmps15 (by rw[iF];simp only[go_sem]) ?_
 rw[iF]at c1⊢;refine aE ?_;refine tC c1 (fun r H' hr=> ?_)
 obtain⟨rfl,m,⟨h1,rfl⟩|⟨h1,h2,rfl⟩⟩:=hr
 ·rw[iF]
  refine aE ?_;exact dS
 ·obtain⟨e,he⟩:∃e,M.2.2=e:=⟨_,rfl⟩
  rw[he]at h1 h2;subst h2;rw[LZ];refine aE ?_;exact dS
end Go.Proofs.YtpaomccedbjknaaGreatDoor
