/- Staging. No condition. -/
import Derived.Test.YtioafciifiggaaaGreatDoorL0
import Derived.Test.YtioafciifiggaaaGreatDoorAy
import Derived.Test.YtioafciifiggaaaGreatDoorAt
set_option linter.all false
namespace Go.Proofs.YtioafciifiggaaaGreatDoor
open Go.Proofs Go.AL
set_option maxRecDepth 100000
set_option maxHeartbeats 4000000
attribute [local irreducible] cB AW aX cZ dK hold
attribute [local irreducible] eV
def QY(F:Nat->List Int):Nat->Nat->Nat->List (Nat×Option aI)
 |0,_,_=> []
 |j+1,id,dd=> [(id,some (.cells 74 1 (aA bW ((List.range j).map F)++[[.own dd 0 (F j).length]]) true true)),(dd,some (.cells 5 1 (aA aH (F j)) true true))]
@[go_sem] theorem bH9(F:Nat->List Int)(id dd:Nat):QY F 0 id dd=[]:=rfl
theorem WB(F:Nat->List Int)(j id dd:Nat):QY F (j+1) id dd=[(id,some (.cells 74 1 (aA bW ((List.range j).map F)++[[.own dd 0 (F j).length]]) true true)),(dd,some (.cells 5 1 (aA aH (F j)) true true))]:=rfl
theorem aw4(c:oO)(k6:Int)(hc:LC c)(hp:c.pos.length<=100000)(hn:c.writes.length<=100000)(hw:∀x∈c.writes,x.2.2.length<=100000)(hl:(yU c).length<=100000)(hb:∀x∈yU c,aV x):PC 27 [.agg (gT c),zV k6] (.aR [.snap (aA bW (FD c k6).1),zV (FD c k6).2]):=by
 refine aT Tryz.func27 Tryz.ntmps27 (by simp only[go_sem]) ?_
 have c1:=aq8 c hc hp hn hw hl
 have hle:(rZ c).1.length<=65536/\∀x∈(rZ c).1,aV x:=by
  unfold rZ;split
  ·split
   ·exact⟨by simp,fun x hx=>absurd hx (by simp)⟩
   ·exact⟨by simp only[];omega,hb⟩
  ·exact⟨by simp,fun x hx=>absurd hx (by simp)⟩
 have c2:=Q9 (rZ c).1 hle.2 (by omega)
 obtain⟨M,hM⟩:∃M,FD c k6=M:=⟨_,rfl⟩;rw[hM];unfold FD at hM;have WC:=hle.1;clear hc hp hn hw hl hb hle;generalize rZ c=X at*;obtain⟨b,e⟩:=X;obtain⟨cb,cn,ct,cp,cw⟩:=c;unfold gT at*;simp only[]at*;by_cases g1:e=0
 case neg=>
  rw[if_neg g1]at hM;subst hM;clear c2;refine aE ?_;exact aB
 rw[if_pos g1]at hM;subst g1;by_cases g2:k6<1
 ·rw[if_pos (.inl g2)]at hM
  subst hM;clear c2;refine aE ?_;exact aB
 by_cases g3:4096<k6
 ·rw[if_pos (.inr g3)]at hM
  subst hM;clear c2;refine aE ?_;exact aB
 rw[if_neg (by omega)]at hM
 obtain⟨q,rfl⟩:∃q:Nat,k6=q:=⟨k6.toNat,by omega⟩
 rw[nC]at hM;obtain⟨n,hn⟩:∃n,xG b.length q=n:=⟨_,rfl⟩;rw[hn]at hM;have w1:IntKind.i64.wrap ((b.length:Int)+q)=(b.length:Int)+q:=IntWalk.i64_in _ (by omega)
 have w2:IntKind.i64.wrap ((b.length:Int)+q-1)=(b.length:Int)+q-1:=IntWalk.i64_in _ (by omega)
 have HY:1<=q:=by omega
 have w3:((b.length:Int)+q-1).tdiv q=n:=by
  rw[show(b.length:Int)+q-1=((b.length+q-1:Nat):Int)by omega,<-hn]
  rfl
 have DE:n<=100000:=by
  rw[<-hn];unfold xG;have:=Nat.div_le_self (b.length+q-1) q;omega
 have w5:IntKind.i64.wrap (n:Int)=n:=IntWalk.i64_in _ (by omega)
 have qG:=HR b;have w4:IntKind.i64.wrap (eO b)=eO b:=IntWalk.i64_in _ (by omega)
 have g4:¬(q:Int)=0:=by omega
 refine aE ?_;refine nS Tryz.func67 Tryz.ntmps67 ?_;refine aE ?_;refine tI (env:=[(41,true,.fn (.func 142) [] [.ptr 17 0 0,.ptr 18 0 0]),(9,true,.ptr 16 0 0),(8,true,.ptr 14 0 0)]) (H:=⟨19,dH [(14,some (.cells 149 3 [[zV cn,zV n,zV (eO b)]] true false)),(16,some (.cells 61 1 [[.c (.slice none 0 0)]] true false)),(17,some (.cells 74 1 [[.snap (aA aH b)]] true false)),(18,some (.cells 3 1 [[zV q]] true false))]⟩) (by(repeat (refine rV (by rfl) ?_));refine holds_nil (cA 19) ?_;(repeat (refine sO (by rfl) ?_));exact zY) ?_
 refine L9 Tryz.func142 Tryz.ntmps142 (fun R A B fF hA hB=> ?_)
 refine aE ?_;refine nS Tryz.func143 Tryz.ntmps143 ?_;refine aE ?_;refine tI (env:=[(8,true,.fn (.func 195) [] [.ptr 23 0 0,.ptr 24 0 0]),(4,true,.ptr 21 0 0),(3,true,.ptr 20 0 0)]) (H:=⟨25,dH [(14,some (.cells 149 3 [[zV cn,zV n,zV (eO b)]] true false)),(16,some (.cells 61 1 [[.c (.slice none 0 0)]] true false)),(19,some (.cJ R 54 [42,43] A B .ready none)),(20,some (.cells 238 1 [[.jF 19]] true false)),(21,some (.cells 3 1 [[zV 0]] true false)),(23,some (.cells 74 1 [[.snap (aA aH b)]] true false)),(24,some (.cells 3 1 [[zV q]] true false))]⟩) (by(repeat (refine rV (by rfl) ?_));refine holds_nil (cA 25) ?_;(repeat (refine sO (by rfl) ?_));exact zY) ?_
 refine L9 Tryz.func195 Tryz.ntmps195 (fun R2 A2 B2 bK WD WE=> ?_)
 refine aE ?_;obtain⟨F,hF⟩:∃F:Nat->List Int,F=fun(i:Nat)=>Lj cn (i:Int) (n:Int) (eO b) (kH b q i):=⟨_,rfl⟩
 refine dP (α:=Nat×Nat×List (Nat×Option aI)) n (fun k x=> [(4,true,zV (k*q:Nat)),(2,true,.ptr 24 0 0),(1,true,.ptr 23 0 0),(0,true,.jF 25)]) (fun k x=>(14,some (.cells 149 3 [[zV cn,zV n,zV (eO b)]] true false))::(16,some (.cells 61 1 [[nG k x.1]] true false))::(19,some (.cJ R 54 [42,43] A B .ready none))::(20,some (.cells 238 1 [[.jF 19]] true false))::(21,some (.cells 3 1 [[zV k]] true false))::(23,some (.cells 74 1 [[.snap (aA aH b)]] true false))::(24,some (.cells 3 1 [[zV q]] true false))::(25,some (.cJ R2 17 [9] A2 B2 .ready none))::x.2.2) (fun k m x=>26<=m/\x.2.2=QY F k x.1 x.2.1/\(0<k->26<=x.1/\x.1<m/\26<=x.2.1/\x.2.1<m/\x.1≠x.2.1)) ⟨100,(0,0,[]),⟨by omega,rfl,fun h=>absurd h (by omega)⟩,by rw[BQ];exact aN⟩ (fun k m x hk hR=> ?_) (fun m x hR=> ?_)
 ·obtain⟨id,dd,TT⟩:=x
  obtain⟨hm,sC,aC⟩:=hR;simp only[]at aC sC⊢;subst sC
  have xT:k*q<b.length:=by
   have h1:n*q<=b.length+q-1:=by rw[<-hn];exact Nat.div_mul_le_self _ _
   have h2:(k+1)*q<=n*q:=mU q hk;rw[uB]at h2;omega
  have IK:(k+1)*q=k*q+q:=uB k q;have xU:kH b q k=(b.drop (k*q)).take q:=rfl;have QX:F k=wC cn k n (eO b)++kH b q k:=by rw[hF];rfl
  have j9:(kH b q k).length<=4096:=by rw[xU,eD];omega
  have QJ:(wC cn k n (eO b)).length<=32:=by
   have:=rU cn;have:=rU k;have:=rU n;have:=rU (eO b);unfold wC;simp only[cP];omega
  have c5:=ar0 cn k n (eO b);rw[IK];have IL:((b.drop (k*q)).take (b.length-k*q)).length=b.length-k*q:=by rw[eD,fX,YT]
  have IE:(wC cn k n (eO b)++kH b q k).length=(wC cn k n (eO b)).length+(kH b q k).length:=cP;have fW:aA aH (wC cn k n (eO b))++aA aH (kH b q k)=aA aH (wC cn k n (eO b)++kH b q k):=FU _ _;have hS:=WB F k;rw[QX,IE]at hS
  replace hS:=aU.mk hS
  clear hF QX;by_cases g5:k*q+q<=b.length
  ·have g6:¬((b.length-k*q:Nat):Int)<q:=by omega
   have hT:(((k*q:Nat):Int)+q-(k*q:Nat)).toNat=q:=by omega
   have IM:=xU.symm;cases k with
   |zero=>
    clear aC hM xU c1 c2 hn w3 w5;generalize wC cn ((0:Nat):Int) n (eO b)=hd at*;generalize kH b q 0=pc at*;generalize 0*q=K at*;refine aE ?_;clear fF hA hB bK WD WE c5 w1 w2 w4 qG DE WC g2 g3 g4 g6 hT xT IL j9 QJ;exact⟨m+100,(m+7+8,m+7+6,[(m+7+8,some (.cells 74 1 [[.own (m+7+6) 0 (hd.length+pc.length)]] true true)),(m+7+6,some (.cells 5 1 (aA aH (hd++pc)) true true))]),⟨by omega,(hS.out (m+7+8) (m+7+6)).symm,fun _=>(by omega:26<=m+7+8/\m+7+8<m+100/\26<=m+7+6/\m+7+6<m+100/\m+7+8≠m+7+6)⟩,(by((repeat (refine rV (by first|rfl|exact m5|(simp(maxSteps:=2000000) (disch:=omega) only[go_sem, *];rfl)) ?_));(refine holds_nil (by simp only[];omega) ?_);((repeat (first|refine sO (by first|rfl|exact m5|(simp(maxSteps:=2000000) (disch:=omega) only[go_sem, *];rfl)) ?_|refine M1 ?_));exact zY)))⟩
   |succ j=>
    obtain⟨i1,i2,i3,i4,i5⟩:=aC (by omega)
    have h7:aA bW ((List.range j).map F)++[[.snap (aA aH (F j))]]=aA bW ((List.range (j+1)).map F):=by
     rw[HD,yO];exact nR _ (F j)
    rw[WB F j];refine sX dd id (aA bW ((List.range (j+1)).map F)) iT iT i5 (Ce h7 (by rw[fZ])) ?_
    refine tI (env:=[(4,true,zV ((j+1)*q:Nat)),(2,true,.ptr 24 0 0),(1,true,.ptr 23 0 0),(0,true,.jF 25)]) (H:=⟨m,dH [(14,some (.cells 149 3 [[zV cn,zV n,zV (eO b)]] true false)),(16,some (.cells 61 1 [[.own id 0 (j+1)]] true false)),(19,some (.cJ R 54 [42,43] A B .ready none)),(20,some (.cells 238 1 [[.jF 19]] true false)),(21,some (.cells 3 1 [[zV (j+1:Nat)]] true false)),(23,some (.cells 74 1 [[.snap (aA aH b)]] true false)),(24,some (.cells 3 1 [[zV q]] true false)),(25,some (.cJ R2 17 [9] A2 B2 .ready none)),(id,some (.cells 74 1 (aA bW ((List.range (j+1)).map F)) true true))]⟩) aN ?_
    have nJ:((List.range (j+1)).map F).length=j+1:=by simp
    clear h7 aC hM xU c1 c2 hn w3 w5 i3 i4 i5;generalize (List.range (j+1)).map F=L at*;generalize wC cn ((j+1:Nat):Int) n (eO b)=hd at*;generalize kH b q (j+1)=pc at*;generalize (j+1)*q=K at*;refine aE ?_;clear fF hA hB bK WD WE c5 w1 w2 w4 qG DE WC g2 g3 g4 g6 hT xT IL j9 QJ;exact⟨m+100,(m+7+8,m+7+6,[(m+7+8,some (.cells 74 1 (aA bW L++[[.own (m+7+6) 0 (hd.length+pc.length)]]) true true)),(m+7+6,some (.cells 5 1 (aA aH (hd++pc)) true true))]),⟨by omega,(hS.out (m+7+8) (m+7+6)).symm,fun _=>(by omega:26<=m+7+8/\m+7+8<m+100/\26<=m+7+6/\m+7+6<m+100/\m+7+8≠m+7+6)⟩,(by((repeat (refine rV (by first|rfl|exact m5|(simp(maxSteps:=2000000) (disch:=omega) only[go_sem, *];rfl)) ?_));(refine holds_nil (by simp only[];omega) ?_);((repeat (first|refine sO (by first|rfl|exact m5|(simp(maxSteps:=2000000) (disch:=omega) only[go_sem, *];rfl)) ?_|refine M1 ?_));exact zY)))⟩
  ·have IM:(b.drop (k*q)).take (b.length-k*q)=kH b q k:=by
    rw[xU,cR (by rw[fX];exact cA _),cR (by rw[fX];omega)]
   have F5:(kH b q k).length=b.length-k*q:=by rw[<-IM,IL]
   have IN:k*q+(kH b q k).length=b.length:=by omega
   have g6:((kH b q k).length:Int)<q:=by omega
   have hT:(((k*q:Nat):Int)+(kH b q k).length-(k*q:Nat)).toNat=(kH b q k).length:=by omega
   have IQ:(b.drop (k*q)).take (kH b q k).length=kH b q k:=by rw[F5];exact IM
   clear F5;cases k with
   |zero=>
    clear aC hM xU c1 c2 hn w3 w5;generalize wC cn ((0:Nat):Int) n (eO b)=hd at*;generalize kH b q 0=pc at*;generalize 0*q=K at*;refine aE ?_;clear fF hA hB bK WD WE c5 w1 w2 w4 qG DE WC g2 g3 g4 g6 hT xT IL j9 QJ;exact⟨m+100,(m+7+8,m+7+6,[(m+7+8,some (.cells 74 1 [[.own (m+7+6) 0 (hd.length+pc.length)]] true true)),(m+7+6,some (.cells 5 1 (aA aH (hd++pc)) true true))]),⟨by omega,(hS.out (m+7+8) (m+7+6)).symm,fun _=>(by omega:26<=m+7+8/\m+7+8<m+100/\26<=m+7+6/\m+7+6<m+100/\m+7+8≠m+7+6)⟩,(by((repeat (refine rV (by first|rfl|exact m5|(simp(maxSteps:=2000000) (disch:=omega) only[go_sem, *];rfl)) ?_));(refine holds_nil (by simp only[];omega) ?_);((repeat (first|refine sO (by first|rfl|exact m5|(simp(maxSteps:=2000000) (disch:=omega) only[go_sem, *];rfl)) ?_|refine M1 ?_));exact zY)))⟩
   |succ j=>
    obtain⟨i1,i2,i3,i4,i5⟩:=aC (by omega)
    have h7:aA bW ((List.range j).map F)++[[.snap (aA aH (F j))]]=aA bW ((List.range (j+1)).map F):=by
     rw[HD,yO];exact nR _ (F j)
    rw[WB F j];refine sX dd id (aA bW ((List.range (j+1)).map F)) iT iT i5 (Ce h7 (by rw[fZ])) ?_
    refine tI (env:=[(4,true,zV ((j+1)*q:Nat)),(2,true,.ptr 24 0 0),(1,true,.ptr 23 0 0),(0,true,.jF 25)]) (H:=⟨m,dH [(14,some (.cells 149 3 [[zV cn,zV n,zV (eO b)]] true false)),(16,some (.cells 61 1 [[.own id 0 (j+1)]] true false)),(19,some (.cJ R 54 [42,43] A B .ready none)),(20,some (.cells 238 1 [[.jF 19]] true false)),(21,some (.cells 3 1 [[zV (j+1:Nat)]] true false)),(23,some (.cells 74 1 [[.snap (aA aH b)]] true false)),(24,some (.cells 3 1 [[zV q]] true false)),(25,some (.cJ R2 17 [9] A2 B2 .ready none)),(id,some (.cells 74 1 (aA bW ((List.range (j+1)).map F)) true true))]⟩) aN ?_
    have nJ:((List.range (j+1)).map F).length=j+1:=by simp
    clear h7 aC hM xU c1 c2 hn w3 w5 i3 i4 i5;generalize (List.range (j+1)).map F=L at*;generalize wC cn ((j+1:Nat):Int) n (eO b)=hd at*;generalize kH b q (j+1)=pc at*;generalize (j+1)*q=K at*;refine aE ?_;clear fF hA hB bK WD WE c5 w1 w2 w4 qG DE WC g2 g3 g4 g6 hT xT IL j9 QJ;exact⟨m+100,(m+7+8,m+7+6,[(m+7+8,some (.cells 74 1 (aA bW L++[[.own (m+7+6) 0 (hd.length+pc.length)]]) true true)),(m+7+6,some (.cells 5 1 (aA aH (hd++pc)) true true))]),⟨by omega,(hS.out (m+7+8) (m+7+6)).symm,fun _=>(by omega:26<=m+7+8/\m+7+8<m+100/\26<=m+7+6/\m+7+6<m+100/\m+7+8≠m+7+6)⟩,(by((repeat (refine rV (by first|rfl|exact m5|(simp(maxSteps:=2000000) (disch:=omega) only[go_sem, *];rfl)) ?_));(refine holds_nil (by simp only[];omega) ?_);((repeat (first|refine sO (by first|rfl|exact m5|(simp(maxSteps:=2000000) (disch:=omega) only[go_sem, *];rfl)) ?_|refine M1 ?_));exact zY)))⟩
 ·obtain⟨id,dd,TT⟩:=x
  obtain⟨hm,sC,aC⟩:=hR;simp only[]at aC sC⊢;subst sC
  have hnq:¬n*q<b.length:=by
   have h1:b.length+q-1<(n+1)*q:=by
    rw[<-hn];unfold xG;exact Nat.lt_mul_of_div_lt (D4 _) HY
   rw[uB]at h1;omega
  have Cg:((List.range n).map F,(0:Int))=M:=by rw[<-hM,hF]
  clear hM;subst Cg;simp only[];clear hF;rcases Jb n with h0|h0
  ·subst h0
   generalize 0*q=K at*;clear aC hn w3 w5 DE;refine aE ?_;refine FV (by(first|rfl|exact m5|(simp(maxSteps:=2000000) (disch:=omega) only[go_sem, *]<;>rfl)|fail)) ?_
   refine aE ?_;refine FV (by(first|rfl|exact m5|(simp(maxSteps:=2000000) (disch:=omega) only[go_sem, *]<;>rfl)|fail)) ?_
   refine aE ?_;exact aB
  ·obtain⟨j,hj⟩:∃j,n=j+1:=⟨n-1,by omega⟩
   obtain⟨i1,i2,i3,i4,i5⟩:=aC (by omega)
   have h7:aA bW ((List.range j).map F)++[[.snap (aA aH (F j))]]=aA bW ((List.range n).map F):=by
    rw[hj,HD,yO];exact nR _ (F j)
   have hs:QY F n id dd=QY F (j+1) id dd:=by rw[hj]
   have ho:nG n id= .own id 0 n:=by rw[hj];rfl
   rw[hs,ho,WB];generalize n*q=K at*;refine sX dd id (aA bW ((List.range n).map F)) iT iT i5 (Ce h7 (by rw[fZ])) ?_
   refine tI (env:=[(4,true,zV K),(2,true,.ptr 24 0 0),(1,true,.ptr 23 0 0),(0,true,.jF 25)]) (H:=⟨m,dH [(14,some (.cells 149 3 [[zV cn,zV n,zV (eO b)]] true false)),(16,some (.cells 61 1 [[.own id 0 n]] true false)),(19,some (.cJ R 54 [42,43] A B .ready none)),(20,some (.cells 238 1 [[.jF 19]] true false)),(21,some (.cells 3 1 [[zV n]] true false)),(23,some (.cells 74 1 [[.snap (aA aH b)]] true false)),(24,some (.cells 3 1 [[zV q]] true false)),(25,some (.cJ R2 17 [9] A2 B2 .ready none)),(id,some (.cells 74 1 (aA bW ((List.range n).map F)) true true))]⟩) aN ?_
   have nJ:((List.range n).map F).length=n:=by simp
   have n1:(∀row,row∈aA bW ((List.range n).map F)->∀x,x∈row->bJ x)=True:=eq_true (mN _);have t1:((List.range n).map F).take n=(List.range n).map F:=cR (by omega)
   clear h7 aC hn w3 w5 hs ho hj;generalize (List.range n).map F=L at*;refine aE ?_;refine FV (by(first|rfl|exact m5|(simp(maxSteps:=2000000) (disch:=omega) only[go_sem, *]<;>rfl)|fail)) ?_
   refine aE ?_;refine FV (by(first|rfl|exact m5|(simp(maxSteps:=2000000) (disch:=omega) only[go_sem, *]<;>rfl)|fail)) ?_
   refine aE ?_;exact aB
end Go.Proofs.YtioafciifiggaaaGreatDoor
