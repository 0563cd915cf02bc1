/- Staging. No condition. -/
import Derived.Test.YtioafciifiggaaaGreatDoorL0
import Derived.Test.YtioafciifiggaaaGreatDoorAv
import Derived.Test.YtioafciifiggaaaGreatDoorAr
import Derived.Test.YtioafciifiggaaaGreatDoorAu
import Derived.Test.YtioafciifiggaaaGreatDoorAt
import Derived.Test.YtioafciifiggaaaGreatDoorLg
set_option linter.all false
namespace Go.Proofs.YtioafciifiggaaaGreatDoor
open Go.Proofs Go.AL
set_option maxRecDepth 100000
set_option maxHeartbeats 4000000
attribute [local irreducible] cH AW b9 dR eH hold
attribute [local irreducible] jI
def VR(F:Nat->List Int):Nat->Nat->Nat->List (Nat×Option aI)
 |0,_,_=> []
 |j+1,id,dd=> [(id,some (.cells 74 1 (aA dF ((List.range j).map F)++[[.own dd 0 (F j).length]]) true true)),(dd,some (.cells 5 1 (aA aN (F j)) true true))]
@[go_sem] theorem cE6(F:Nat->List Int)(id dd:Nat):VR F 0 id dd=[]:=rfl
theorem Bj(F:Nat->List Int)(j id dd:Nat):VR F (j+1) id dd=[(id,some (.cells 74 1 (aA dF ((List.range j).map F)++[[.own dd 0 (F j).length]]) true true)),(dd,some (.cells 5 1 (aA aN (F j)) true true))]:=rfl
theorem ac1(c:jJ)(most:Int)(hc:OR c)(hp:c.pos.length<=100000)(hn:c.writes.length<=100000)(hw:∀x∈c.writes,x.2.2.length<=100000)(hl:(qE c).length<=100000)(hb:∀x∈qE c,aV x):PC 27 [.agg (mI c),zV most] (.aU [.snap (aA dF (kP c most).1),zV (kP c most).2]):=by
 refine bI Tryz.func27 Tryz.ntmps27 (by simp only[go_sem]) ?_
 have c1:=bg7 c hc hp hn hw hl
 have hle:(nB c).1.length<=65536/\∀x∈(nB c).1,aV x:=by
  unfold nB;split
  ·split
   ·exact⟨by simp,fun x hx=>absurd hx (by simp)⟩
   ·exact⟨by simp only[];omega,hb⟩
  ·exact⟨by simp,fun x hx=>absurd hx (by simp)⟩
 have c2:=V4 (nB c).1 hle.2 (by omega)
 obtain⟨M,hM⟩:∃M,kP c most=M:=⟨_,rfl⟩;rw[hM];unfold kP at hM;have Bk:=hle.1;clear hc hp hn hw hl hb hle;generalize nB c=X at*;obtain⟨b,e⟩:=X;obtain⟨cb,cn,ct,cp,cw⟩:=c;unfold mI at*;simp only[]at*;by_cases g1:e=0
 case neg=>
  rw[if_neg g1]at hM;subst hM;clear c2;refine aD ?_;exact aC
 rw[if_pos g1]at hM;subst g1;by_cases g2:most<1
 ·rw[if_pos (.inl g2)]at hM
  subst hM;clear c2;refine aD ?_;exact aC
 by_cases g3:4096<most
 ·rw[if_pos (.inr g3)]at hM
  subst hM;clear c2;refine aD ?_;exact aC
 rw[if_neg (by omega)]at hM
 obtain⟨q,rfl⟩:∃q:Nat,most=q:=⟨most.toNat,by omega⟩
 rw[mE]at hM;obtain⟨n,hn⟩:∃n,sY b.length q=n:=⟨_,rfl⟩;rw[hn]at hM;have w1:IntKind.i64.wrap ((b.length:Int)+q)=(b.length:Int)+q:=IntWalk.i64_in _ (by omega)
 have w2:IntKind.i64.wrap ((b.length:Int)+q-1)=(b.length:Int)+q-1:=IntWalk.i64_in _ (by omega)
 have zY:1<=q:=by omega
 have w3:((b.length:Int)+q-1).tdiv q=n:=by
  rw[show(b.length:Int)+q-1=((b.length+q-1:Nat):Int)by omega,<-hn]
  rfl
 have A7:n<=100000:=by
  rw[<-hn];unfold sY;have:=Nat.div_le_self (b.length+q-1) q;omega
 have w5:IntKind.i64.wrap (n:Int)=n:=IntWalk.i64_in _ (by omega)
 have wN:=KV b;have w4:IntKind.i64.wrap (fV b)=fV b:=IntWalk.i64_in _ (by omega)
 have g4:¬(q:Int)=0:=by omega
 refine aD ?_;refine kA Tryz.func67 Tryz.ntmps67 ?_;refine aD ?_;refine BG (env:=[(41,true,.fn (.func 142) [] [.ptr 17 0 0,.ptr 18 0 0]),(9,true,.ptr 16 0 0),(8,true,.ptr 14 0 0)]) (H:=⟨19,cV [(14,some (.cells 149 3 [[zV cn,zV n,zV (fV b)]] true false)),(16,some (.cells 61 1 [[.c (.slice none 0 0)]] true false)),(17,some (.cells 74 1 [[.snap (aA aN b)]] true false)),(18,some (.cells 3 1 [[zV q]] true false))]⟩) (by(repeat (refine uG (by rfl) ?_));refine holds_nil (cE 19) ?_;(repeat (refine sQ (by rfl) ?_));exact BH) ?_
 refine OI Tryz.func142 Tryz.ntmps142 (fun R A B m6 hA hB=> ?_)
 refine aD ?_;refine kA Tryz.func143 Tryz.ntmps143 ?_;refine aD ?_;refine BG (env:=[(8,true,.fn (.func 195) [] [.ptr 23 0 0,.ptr 24 0 0]),(4,true,.ptr 21 0 0),(3,true,.ptr 20 0 0)]) (H:=⟨25,cV [(14,some (.cells 149 3 [[zV cn,zV n,zV (fV b)]] true false)),(16,some (.cells 61 1 [[.c (.slice none 0 0)]] true false)),(19,some (.cO R 54 [42,43] A B .ready none)),(20,some (.cells 238 1 [[.kH 19]] true false)),(21,some (.cells 3 1 [[zV 0]] true false)),(23,some (.cells 74 1 [[.snap (aA aN b)]] true false)),(24,some (.cells 3 1 [[zV q]] true false))]⟩) (by(repeat (refine uG (by rfl) ?_));refine holds_nil (cE 25) ?_;(repeat (refine sQ (by rfl) ?_));exact BH) ?_
 refine OI Tryz.func195 Tryz.ntmps195 (fun R2 A2 B2 cP Bl PL=> ?_)
 refine aD ?_;obtain⟨F,hF⟩:∃F:Nat->List Int,F=fun(i:Nat)=>V2 cn (i:Int) (n:Int) (fV b) (iJ b q i):=⟨_,rfl⟩
 refine fK (α:=Nat×Nat×List (Nat×Option aI)) n (fun k x=> [(4,true,zV (k*q:Nat)),(2,true,.ptr 24 0 0),(1,true,.ptr 23 0 0),(0,true,.kH 25)]) (fun k x=>(14,some (.cells 149 3 [[zV cn,zV n,zV (fV b)]] true false))::(16,some (.cells 61 1 [[uO k x.1]] true false))::(19,some (.cO R 54 [42,43] A B .ready none))::(20,some (.cells 238 1 [[.kH 19]] true false))::(21,some (.cells 3 1 [[zV k]] true false))::(23,some (.cells 74 1 [[.snap (aA aN b)]] true false))::(24,some (.cells 3 1 [[zV q]] true false))::(25,some (.cO R2 17 [9] A2 B2 .ready none))::x.2.2) (fun k m x=>26<=m/\x.2.2=VR F k x.1 x.2.1/\(0<k->26<=x.1/\x.1<m/\26<=x.2.1/\x.2.1<m/\x.1≠x.2.1)) ⟨100,(0,0,[]),⟨by omega,rfl,fun h=>absurd h (by omega)⟩,by rw[CN];exact aT⟩ (fun k m x hk hR=> ?_) (fun m x hR=> ?_)
 ·obtain⟨id,dd,TT⟩:=x
  obtain⟨hm,PM,aB⟩:=hR;simp only[]at aB PM⊢;subst PM
  have qU:k*q<b.length:=by
   have h1:n*q<=b.length+q-1:=by rw[<-hn];exact Nat.div_mul_le_self _ _
   have h2:(k+1)*q<=n*q:=nN q hk;rw[vG]at h2;omega
  have GX:(k+1)*q=k*q+q:=vG k q;have AJ:iJ b q k=(b.drop (k*q)).take q:=rfl;have VP:F k=yS cn k n (fV b)++iJ b q k:=by rw[hF];rfl
  have lQ:(iJ b q k).length<=4096:=by rw[AJ,cU];omega
  have Bn:(yS cn k n (fV b)).length<=32:=by
   have:=yL cn;have:=yL k;have:=yL n;have:=yL (fV b);unfold yS;simp only[bP];omega
  have c5:=bg9 cn k n (fV b);rw[GX];have EX:((b.drop (k*q)).take (b.length-k*q)).length=b.length-k*q:=by rw[cU,eF,YW]
  have LF:(yS cn k n (fV b)++iJ b q k).length=(yS cn k n (fV b)).length+(iJ b q k).length:=bP;have jS:aA aN (yS cn k n (fV b))++aA aN (iJ b q k)=aA aN (yS cn k n (fV b)++iJ b q k):=LH _ _;have hS:=Bj F k;rw[VP,LF]at hS
  replace hS:=bB.mk hS
  clear hF VP;by_cases g5:k*q+q<=b.length
  ·have g6:¬((b.length-k*q:Nat):Int)<q:=by omega
   have hT:(((k*q:Nat):Int)+q-(k*q:Nat)).toNat=q:=by omega
   have LJ:=AJ.symm;cases k with
   |zero=>
    clear aB hM AJ c1 c2 hn w3 w5;generalize yS cn ((0:Nat):Int) n (fV b)=hd at*;generalize iJ b q 0=pc at*;generalize 0*q=K at*;refine aD ?_;clear m6 hA hB cP Bl PL c5 w1 w2 w4 wN A7 Bk g2 g3 g4 g6 hT qU EX lQ Bn;exact⟨m+100,(m+7+8,m+7+6,[(m+7+8,some (.cells 74 1 [[.own (m+7+6) 0 (hd.length+pc.length)]] true true)),(m+7+6,some (.cells 5 1 (aA aN (hd++pc)) true true))]),⟨by omega,(hS.out (m+7+8) (m+7+6)).symm,fun _=>(by omega:26<=m+7+8/\m+7+8<m+100/\26<=m+7+6/\m+7+6<m+100/\m+7+8≠m+7+6)⟩,(by((repeat (refine uG (by first|rfl|exact nY|(simp(maxSteps:=2000000) (disch:=omega) only[go_sem, *];rfl)) ?_));(refine holds_nil (by simp only[];omega) ?_);((repeat (first|refine sQ (by first|rfl|exact nY|(simp(maxSteps:=2000000) (disch:=omega) only[go_sem, *];rfl)) ?_|refine PN ?_));exact BH)))⟩
   |succ j=>
    obtain⟨i1,i2,i3,i4,i5⟩:=aB (by omega)
    have h7:aA dF ((List.range j).map F)++[[.snap (aA aN (F j))]]=aA dF ((List.range (j+1)).map F):=by
     rw[yK,vY];exact sP _ (F j)
    rw[Bj F j];refine C4 dd id (aA dF ((List.range (j+1)).map F)) lT lT i5 (Kl h7 (by rw[mH])) ?_
    refine BG (env:=[(4,true,zV ((j+1)*q:Nat)),(2,true,.ptr 24 0 0),(1,true,.ptr 23 0 0),(0,true,.kH 25)]) (H:=⟨m,cV [(14,some (.cells 149 3 [[zV cn,zV n,zV (fV b)]] true false)),(16,some (.cells 61 1 [[.own id 0 (j+1)]] true false)),(19,some (.cO R 54 [42,43] A B .ready none)),(20,some (.cells 238 1 [[.kH 19]] true false)),(21,some (.cells 3 1 [[zV (j+1:Nat)]] true false)),(23,some (.cells 74 1 [[.snap (aA aN b)]] true false)),(24,some (.cells 3 1 [[zV q]] true false)),(25,some (.cO R2 17 [9] A2 B2 .ready none)),(id,some (.cells 74 1 (aA dF ((List.range (j+1)).map F)) true true))]⟩) aT ?_
    have pO:((List.range (j+1)).map F).length=j+1:=by simp
    clear h7 aB hM AJ c1 c2 hn w3 w5 i3 i4 i5;generalize (List.range (j+1)).map F=L at*;generalize yS cn ((j+1:Nat):Int) n (fV b)=hd at*;generalize iJ b q (j+1)=pc at*;generalize (j+1)*q=K at*;refine aD ?_;clear m6 hA hB cP Bl PL c5 w1 w2 w4 wN A7 Bk g2 g3 g4 g6 hT qU EX lQ Bn;exact⟨m+100,(m+7+8,m+7+6,[(m+7+8,some (.cells 74 1 (aA dF L++[[.own (m+7+6) 0 (hd.length+pc.length)]]) true true)),(m+7+6,some (.cells 5 1 (aA aN (hd++pc)) true true))]),⟨by omega,(hS.out (m+7+8) (m+7+6)).symm,fun _=>(by omega:26<=m+7+8/\m+7+8<m+100/\26<=m+7+6/\m+7+6<m+100/\m+7+8≠m+7+6)⟩,(by((repeat (refine uG (by first|rfl|exact nY|(simp(maxSteps:=2000000) (disch:=omega) only[go_sem, *];rfl)) ?_));(refine holds_nil (by simp only[];omega) ?_);((repeat (first|refine sQ (by first|rfl|exact nY|(simp(maxSteps:=2000000) (disch:=omega) only[go_sem, *];rfl)) ?_|refine PN ?_));exact BH)))⟩
  ·have LJ:(b.drop (k*q)).take (b.length-k*q)=iJ b q k:=by
    rw[AJ,eD (by rw[eF];exact cE _),eD (by rw[eF];omega)]
   have VQ:(iJ b q k).length=b.length-k*q:=by rw[<-LJ,EX]
   have LK:k*q+(iJ b q k).length=b.length:=by omega
   have g6:((iJ b q k).length:Int)<q:=by omega
   have hT:(((k*q:Nat):Int)+(iJ b q k).length-(k*q:Nat)).toNat=(iJ b q k).length:=by omega
   have LM:(b.drop (k*q)).take (iJ b q k).length=iJ b q k:=by rw[VQ];exact LJ
   clear VQ;cases k with
   |zero=>
    clear aB hM AJ c1 c2 hn w3 w5;generalize yS cn ((0:Nat):Int) n (fV b)=hd at*;generalize iJ b q 0=pc at*;generalize 0*q=K at*;refine aD ?_;clear m6 hA hB cP Bl PL c5 w1 w2 w4 wN A7 Bk g2 g3 g4 g6 hT qU EX lQ Bn;exact⟨m+100,(m+7+8,m+7+6,[(m+7+8,some (.cells 74 1 [[.own (m+7+6) 0 (hd.length+pc.length)]] true true)),(m+7+6,some (.cells 5 1 (aA aN (hd++pc)) true true))]),⟨by omega,(hS.out (m+7+8) (m+7+6)).symm,fun _=>(by omega:26<=m+7+8/\m+7+8<m+100/\26<=m+7+6/\m+7+6<m+100/\m+7+8≠m+7+6)⟩,(by((repeat (refine uG (by first|rfl|exact nY|(simp(maxSteps:=2000000) (disch:=omega) only[go_sem, *];rfl)) ?_));(refine holds_nil (by simp only[];omega) ?_);((repeat (first|refine sQ (by first|rfl|exact nY|(simp(maxSteps:=2000000) (disch:=omega) only[go_sem, *];rfl)) ?_|refine PN ?_));exact BH)))⟩
   |succ j=>
    obtain⟨i1,i2,i3,i4,i5⟩:=aB (by omega)
    have h7:aA dF ((List.range j).map F)++[[.snap (aA aN (F j))]]=aA dF ((List.range (j+1)).map F):=by
     rw[yK,vY];exact sP _ (F j)
    rw[Bj F j];refine C4 dd id (aA dF ((List.range (j+1)).map F)) lT lT i5 (Kl h7 (by rw[mH])) ?_
    refine BG (env:=[(4,true,zV ((j+1)*q:Nat)),(2,true,.ptr 24 0 0),(1,true,.ptr 23 0 0),(0,true,.kH 25)]) (H:=⟨m,cV [(14,some (.cells 149 3 [[zV cn,zV n,zV (fV b)]] true false)),(16,some (.cells 61 1 [[.own id 0 (j+1)]] true false)),(19,some (.cO R 54 [42,43] A B .ready none)),(20,some (.cells 238 1 [[.kH 19]] true false)),(21,some (.cells 3 1 [[zV (j+1:Nat)]] true false)),(23,some (.cells 74 1 [[.snap (aA aN b)]] true false)),(24,some (.cells 3 1 [[zV q]] true false)),(25,some (.cO R2 17 [9] A2 B2 .ready none)),(id,some (.cells 74 1 (aA dF ((List.range (j+1)).map F)) true true))]⟩) aT ?_
    have pO:((List.range (j+1)).map F).length=j+1:=by simp
    clear h7 aB hM AJ c1 c2 hn w3 w5 i3 i4 i5;generalize (List.range (j+1)).map F=L at*;generalize yS cn ((j+1:Nat):Int) n (fV b)=hd at*;generalize iJ b q (j+1)=pc at*;generalize (j+1)*q=K at*;refine aD ?_;clear m6 hA hB cP Bl PL c5 w1 w2 w4 wN A7 Bk g2 g3 g4 g6 hT qU EX lQ Bn;exact⟨m+100,(m+7+8,m+7+6,[(m+7+8,some (.cells 74 1 (aA dF L++[[.own (m+7+6) 0 (hd.length+pc.length)]]) true true)),(m+7+6,some (.cells 5 1 (aA aN (hd++pc)) true true))]),⟨by omega,(hS.out (m+7+8) (m+7+6)).symm,fun _=>(by omega:26<=m+7+8/\m+7+8<m+100/\26<=m+7+6/\m+7+6<m+100/\m+7+8≠m+7+6)⟩,(by((repeat (refine uG (by first|rfl|exact nY|(simp(maxSteps:=2000000) (disch:=omega) only[go_sem, *];rfl)) ?_));(refine holds_nil (by simp only[];omega) ?_);((repeat (first|refine sQ (by first|rfl|exact nY|(simp(maxSteps:=2000000) (disch:=omega) only[go_sem, *];rfl)) ?_|refine PN ?_));exact BH)))⟩
 ·obtain⟨id,dd,TT⟩:=x
  obtain⟨hm,PM,aB⟩:=hR;simp only[]at aB PM⊢;subst PM
  have hnq:¬n*q<b.length:=by
   have h1:b.length+q-1<(n+1)*q:=by
    rw[<-hn];unfold sY;exact Nat.lt_mul_of_div_lt (G3 _) zY
   rw[vG]at h1;omega
  have wL:((List.range n).map F,(0:Int))=M:=by rw[<-hM,hF]
  clear hM;subst wL;simp only[];clear hF;rcases Tx n with h0|h0
  ·subst h0
   generalize 0*q=K at*;clear aB hn w3 w5 A7;refine aD ?_;refine IY (by(first|rfl|exact nY|(simp(maxSteps:=2000000) (disch:=omega) only[go_sem, *]<;>rfl)|fail)) ?_
   refine aD ?_;refine IY (by(first|rfl|exact nY|(simp(maxSteps:=2000000) (disch:=omega) only[go_sem, *]<;>rfl)|fail)) ?_
   refine aD ?_;exact aC
  ·obtain⟨j,hj⟩:∃j,n=j+1:=⟨n-1,by omega⟩
   obtain⟨i1,i2,i3,i4,i5⟩:=aB (by omega)
   have h7:aA dF ((List.range j).map F)++[[.snap (aA aN (F j))]]=aA dF ((List.range n).map F):=by
    rw[hj,yK,vY];exact sP _ (F j)
   have hs:VR F n id dd=VR F (j+1) id dd:=by rw[hj]
   have ho:uO n id= .own id 0 n:=by rw[hj];rfl
   rw[hs,ho,Bj];generalize n*q=K at*;refine C4 dd id (aA dF ((List.range n).map F)) lT lT i5 (Kl h7 (by rw[mH])) ?_
   refine BG (env:=[(4,true,zV K),(2,true,.ptr 24 0 0),(1,true,.ptr 23 0 0),(0,true,.kH 25)]) (H:=⟨m,cV [(14,some (.cells 149 3 [[zV cn,zV n,zV (fV b)]] true false)),(16,some (.cells 61 1 [[.own id 0 n]] true false)),(19,some (.cO R 54 [42,43] A B .ready none)),(20,some (.cells 238 1 [[.kH 19]] true false)),(21,some (.cells 3 1 [[zV n]] true false)),(23,some (.cells 74 1 [[.snap (aA aN b)]] true false)),(24,some (.cells 3 1 [[zV q]] true false)),(25,some (.cO R2 17 [9] A2 B2 .ready none)),(id,some (.cells 74 1 (aA dF ((List.range n).map F)) true true))]⟩) aT ?_
   have pO:((List.range n).map F).length=n:=by simp
   have n1:(∀row,row∈aA dF ((List.range n).map F)->∀x,x∈row->bK x)=True:=eq_true (oB _);have t1:((List.range n).map F).take n=(List.range n).map F:=eD (by omega)
   clear h7 aB hn w3 w5 hs ho hj;generalize (List.range n).map F=L at*;refine aD ?_;refine IY (by(first|rfl|exact nY|(simp(maxSteps:=2000000) (disch:=omega) only[go_sem, *]<;>rfl)|fail)) ?_
   refine aD ?_;refine IY (by(first|rfl|exact nY|(simp(maxSteps:=2000000) (disch:=omega) only[go_sem, *]<;>rfl)|fail)) ?_
   refine aD ?_;exact aC
set_option maxHeartbeats 8000000
theorem Km(l:List aW)(hl:l.length<=100000)(ho:∀x∈l,GQ x):PC 36 [.snap (aA bQ l)] (.snap (aA bQ l)):=by
 refine bI Tryz.func36 Tryz.ntmps36 (kL _) ?_;have hg:=BR l
 replace ho:=bB.mk ho
 refine aD ?_;refine fK (α:=Nat) l.length (fun k id=> [(8,true,zV k),(7,true,zV l.length),(6,true,.snap (aA bQ l)),(3,true,uO k id)]) (fun k id=>wM 64 7 (aA bQ (l.take k)) k id) (fun k m id=>(0<k->id<m)) ⟨100,0,fun h=>absurd h (by omega),aT⟩ (fun k m id hk hR=> ?_) (fun m id hR=> ?_)
 ·have fD:=hg k hk
  have hx:=ho.out _ (cQ aY hk);have iI:=A8 aY hk;have LF:(l.take k).length=k:=by rw[cU];omega
  have c1:=L4 (l.getD k aY);have c2:PC 73 [.agg (iZ (bF (l.getD k aY))),.snap (aA bD (l.getD k aY).records),bV (l.getD k aY).closed] (.agg (bQ (l.getD k aY))):=LD (bF (l.getD k aY)) (l.getD k aY).records (l.getD k aY).closed hx.bF.bS hx.bF.seen (fun y hy=>(hx.bF.one y hy).1) (by have:=hx.records;omega)
  rw[iI];clear iI hg ho hx;generalize l.take k=F at*;generalize l.getD k aY=x at*;obtain⟨n,p,s,h,e,r,c⟩:=x;rw[iK]at fD c1 c2;unfold bF iZ at c1 c2;simp only[]at*;have gG:aA bQ ([]++[⟨n,p,s,h,e,r,c⟩])=[[zV n,zV p,zV s,.snap (aA dF h),.snap (aA eJ e),.snap (aA bD r),bV c]]:=rfl;cases k with
  |zero=>
   have m5:F=[]:=jQ LF;subst m5;clear hR LF;refine aD ?_;exact⟨m+40,m+1+1+9,fun _=>by omega,aT⟩
  |succ q=>
   have i2:=hR (by omega)
   clear hR gG;refine aD ?_;exact⟨m+40,m+1+1+9,fun _=>by omega,aT⟩
 ·rw[lI]
  clear hg ho;cases hh:l.length with
  |zero=>
   have Kg:l=[]:=jQ hh;subst Kg;clear hR hh;refine aD ?_;exact aC
  |succ q=>
   have i2:=hR (by omega)
   have iI:l.take (q+1)=l:=eD (by omega)
   clear hR;refine aD ?_;exact aC
theorem Kn(l:List aW)(x:aW)(hs:L3 l)(hl:l.length<=100000):PC 149 [.snap (aA bQ l),.agg (bQ x)] (.snap (aA bQ (lP l x))):=by
 have c1:=P9 l x.number hs hl;by_cases aJ:l=[]
 ·subst aJ
  have hp:lP [] x=[x]:=rfl;have hfi:bT [] x.number=0:=rfl;have hfb:nW [] x.number=false:=rfl;rw[hp];rw[hfi,hfb]at c1;clear hp hfi hfb hs hl;obtain⟨n,p,s,h,e,r,c⟩:=x;refine eU.nil (pre:=[]) (post:=[.agg (bQ ⟨n,p,s,h,e,r,c⟩)]) fun a cap=> ?_
  show PC 149 [.c (.slice a 0 cap),.agg (bQ ⟨n,p,s,h,e,r,c⟩)] _
  refine bI Tryz.func149 Tryz.ntmps149 (kL _) ?_;have gG:aA bQ [⟨n,p,s,h,e,r,c⟩]=[[zV n,zV p,zV s,.snap (aA dF h),.snap (aA eJ e),.snap (aA bD r),bV c]]:=rfl;rw[gG];rw[iK];simp only[]at*
  have c2:PC 70 [.c (.slice a 0 cap),zV n] (.aU [zV 0,bV false]):=eU.less c1 (by
   refine jH .nil (TZ _))
  clear c1;have hz:((0:Nat):Int)=0:=rfl;refine aD ?_;refine kA Tryz.func199 Tryz.ntmps199 ?_;cases a with
  |none=>
   refine aD ?_;refine kA Tryz.func200 Tryz.ntmps200 ?_
   (repeat (first|refine Ko (p:=_) ?_ uC uS rfl rfl rfl (by(first|rfl|decide)) (by(exact aL))|refine P4 ?_))
   exact aC
  |some a=>
   refine aD ?_;refine kA Tryz.func200 Tryz.ntmps200 ?_
   (repeat (first|refine Ko (p:=_) ?_ uC uS rfl rfl rfl (by(first|rfl|decide)) (by(exact aL))|refine P4 ?_))
   exact aC
 ·refine bI Tryz.func149 Tryz.ntmps149 (kL _) ?_
  have c2:=bk2 l aJ (by omega)
  have hle:=Ar l x.number;have bG:=fun h=>(yR (l:=l) (n:=x.number) h).1
  obtain⟨R,hR⟩:∃R,lP l x=R:=⟨_,rfl⟩;rw[hR];unfold lP at hR;generalize bT l x.number=i at*;generalize nW l x.number=fb at*;clear hs;have mJ:(aA bQ l).set i (bQ x)=aA bQ (l.set i x):=TR l i x
  have PO:IT (aA bQ l) i (bQ x)=aA bQ (l.take i++x::l.drop i):=by
   unfold IT;rw[Gs,Gn,bl2,LH,LH];simp
  have eR:(aA bQ l).all (fun r=>r.length==7&&r.all AV.one)=true:=Kq l
  have VS:([bQ x]).all (fun r=>r.length==7&&r.all AV.one)=true:=Kq (f:=bQ) [x]
  have rN:i=l.length->aA bQ l++[bQ x]=aA bQ (l.take i++x::l.drop i):=fun h=>by rw[h,lI,BB];exact sP l x
  have hEl:(aA bQ l).length=l.length:=mH l;have eY:(∀row,row∈aA bQ l->∀x,x∈row->bK x)=True:=eq_true (oB l);obtain⟨n,p,s,h,e,r,c⟩:=x;rw[iK]at mJ PO VS rN⊢;simp only[]at*;cases fb with
  |true=>
   have hi:=bG rfl;rw[if_pos rfl]at hR;rw[hR]at mJ;have k8:=BR l i hi;rw[iK]at k8;clear PO eR VS rN bG hle hR;have hEr:(aA bQ R).length=l.length:=by rw[<-mJ,BD,hEl]
   have ac5:(∀row,row∈aA bQ R->∀x,x∈row->bK x)=True:=eq_true (oB R);have iI:(aA bQ R).take l.length=aA bQ R:=eD (by omega)
   generalize aA bQ R=RR at*;refine aD ?_;exact aC
  |false=>
   rw[if_neg (by decide)]at hR
   rw[hR]at PO rN;clear mJ bG;rcases oA i l.length with hi|hi
   ·clear rN
    have ha:=bi3 (H:=⟨3,cV [(1,some (.cells 64 7 (aA bQ l) true true)),(2,some (.cells 64 7 [[zV n,zV p,zV s,.snap (aA dF h),.snap (aA eJ e),.snap (aA bD r),bV c]] true true))]⟩) (id:=1) (id2:=2) (i:=i) (by decide) rfl rfl (by omega) (by omega) eR VS
    rw[hEl,PO]at ha
    have GY:R.length=l.length+1:=by
     have h9:=congrArg List.length hR;rw[bP,dK,cU,eF]at h9;omega
    have ac5:(∀row,row∈aA bQ R->∀x,x∈row->bK x)=True:=eq_true (oB R);have iI:R.take (l.length+1)=R:=eD (by omega)
    clear PO eR VS hR;refine aD ?_;refine CV ha ?_;rintro r' H' ⟨rfl,rfl⟩;refine aD ?_;exact aC
   ·have EY:i=l.length:=by omega
    have rN:=rN EY
    have GY:R.length=l.length+1:=by
     have h9:=congrArg List.length hR;rw[bP,dK,cU,eF]at h9;omega
    have ac5:(∀row,row∈aA bQ R->∀x,x∈row->bK x)=True:=eq_true (oB R);have iI:R.take (l.length+1)=R:=eD (by omega)
    clear PO eR VS hle hi hR;subst EY;refine aD ?_;refine kA Tryz.func200 Tryz.ntmps200 ?_
    (repeat (first|refine Ko (p:=_) ?_ uC uS rfl rfl rfl (by(first|rfl|decide)) (by(exact aL))|refine P4 ?_))
    exact aC
end Go.Proofs.YtioafciifiggaaaGreatDoor
