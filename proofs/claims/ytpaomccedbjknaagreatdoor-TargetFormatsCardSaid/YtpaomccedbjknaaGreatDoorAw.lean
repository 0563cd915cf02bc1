/- Target: contracts of its functions (Aw). No condition but those named. -/
import Derived.Test.YtpaomccedbjknaaGreatDoorAv
set_option linter.all false
namespace Go.Proofs.YtpaomccedbjknaaGreatDoor
open Go.Proofs Go.AL Tryz
set_option maxRecDepth 100000
set_option maxHeartbeats 8000000
attribute [local irreducible] bT AW b8 cF dB hold
attribute [local irreducible] iX
def QP(F:Nat->List Int):Nat->Nat->Nat->List (Nat×Option aI)
 |0,_,_=> []
 |j+1,id,dd=> [(id,some (.cells 77 1 (aB bY ((List.range j).map F)++[[.own dd 0 (F j).length]]) true true)),(dd,some (.cells 5 1 (aB aO (F j)) true true))]
@[go_sem] theorem bX4(F:Nat->List Int)(id dd:Nat):QP F 0 id dd=[]:=rfl
theorem VG(F:Nat->List Int)(j id dd:Nat):QP F (j+1) id dd=[(id,some (.cells 77 1 (aB bY ((List.range j).map F)++[[.own dd 0 (F j).length]]) true true)),(dd,some (.cells 5 1 (aB aO (F j)) true true))]:=rfl
theorem aD5(c:kM)(rB:Int)(hc:yP c)(hp:c.pos.length<=100000)(hn:c.writes.length<=100000)(hw:∀x∈c.writes,x.2.2.length<=100000)(hl:(yS c).length<=100000)(hb:∀x∈yS c,bZ x):PC 13 [.agg (iO c),zV rB] (.aK [.snap (aB bY (A6 c rB).1),zV (A6 c rB).2]):=by
 refine aZ func13 ntmps13 (by simp only[go_sem]) ?_
 have c1:=ay7 c hc hp hn hw hl
 have hle:(vK c).1.length<=65536/\∀x∈(vK c).1,bZ x:=by
  unfold vK;split
  ·split
   ·exact⟨by simp,fun x hx=>absurd hx (by simp)⟩
   ·exact⟨by simp only[];omega,hb⟩
  ·exact⟨by simp,fun x hx=>absurd hx (by simp)⟩
 have c2:=ZP (vK c).1 hle.2 oM
 obtain⟨M,hM⟩:∃M,A6 c rB=M:=⟨_,rfl⟩;rw[hM];unfold A6 at hM;have VH:=hle.1;clear hc hp hn hw hl hb hle;generalize vK c=X at*;obtain⟨b,e⟩:=X;obtain⟨cb,cn,ct,cp,cw⟩:=c;unfold iO at*;simp only[]at*;by_cases g1:e=0
 case neg=>
  rw[if_neg g1]at hM;subst hM;clear c2;exact zE
 rw[if_pos g1]at hM;subst g1;by_cases g2:rB<1
 ·rw[if_pos (.inl g2)]at hM
  subst hM;clear c2;exact zE
 by_cases g3:4096<rB
 ·rw[if_pos (.inr g3)]at hM
  subst hM;clear c2;exact zE
 rw[if_neg oM]at hM
 obtain⟨q,rfl⟩:∃q:Nat,rB=q:=⟨rB.toNat,oM⟩
 rw[sY]at hM;obtain⟨n,hn⟩:∃n,xI b.length q=n:=⟨_,rfl⟩;rw[hn]at hM;have w1:IntKind.i64.wrap ((b.length:Int)+q)=(b.length:Int)+q:=IntWalk.i64_in _ oM
 have w2:IntKind.i64.wrap ((b.length:Int)+q-1)=(b.length:Int)+q-1:=IntWalk.i64_in _ oM
 have DH:1<=q:=oM
 have w3:((b.length:Int)+q-1).tdiv q=n:=by
  rw[show(b.length:Int)+q-1=((b.length+q-1:Nat):Int)by omega,<-hn]
  rfl
 have xO:n<=100000:=by
  rw[<-hn];unfold xI;have:=Nat.div_le_self (b.length+q-1) q;omega
 have w5:IntKind.i64.wrap (n:Int)=n:=IntWalk.i64_in _ oM
 have wM:=ZI b;have w4:IntKind.i64.wrap (jO b)=jO b:=IntWalk.i64_in _ oM
 have g4:¬(q:Int)=0:=oM
 refine aE ?_;refine eO func51 ntmps51 ?_;refine aE ?_;refine kU (env:=[(41,true,.fn (.func 110) [] [.ptr 17 0 0,.ptr 18 0 0]),(9,true,.ptr 16 0 0),(8,true,.ptr 14 0 0)]) (H:=⟨19,bN [(14,some (.cells 127 3 [[zV cn,zV n,zV (jO b)]] true false)),(16,some (.cells 73 1 [[.c (.slice none 0 0)]] true false)),(17,some (.cells 77 1 [[.snap (aB aO b)]] true false)),(18,some (.cells 3 1 [[zV q]] true false))]⟩) (by(repeat (refine tE (by rfl) ?_));refine holds_nil (cA 19) ?_;(repeat (refine u1 (by rfl) ?_));exact BF) ?_
 refine TN func110 ntmps110 (fun R A B xW hA hB=> ?_)
 refine aE ?_;refine eO func111 ntmps111 ?_;refine aE ?_;refine kU (env:=[(8,true,.fn (.func 184) [] [.ptr 23 0 0,.ptr 24 0 0]),(4,true,.ptr 21 0 0),(3,true,.ptr 20 0 0)]) (H:=⟨25,bN [(14,some (.cells 127 3 [[zV cn,zV n,zV (jO b)]] true false)),(16,some (.cells 73 1 [[.c (.slice none 0 0)]] true false)),(19,some (.cJ R 54 [42,43] A B .ready none)),(20,some (.cells 204 1 [[.jT 19]] true false)),(21,some (.cells 3 1 [[zV 0]] true false)),(23,some (.cells 77 1 [[.snap (aB aO b)]] true false)),(24,some (.cells 3 1 [[zV q]] true false))]⟩) (by(repeat (refine tE (by rfl) ?_));refine holds_nil (cA 25) ?_;(repeat (refine u1 (by rfl) ?_));exact BF) ?_
 refine TN func184 ntmps184 (fun R2 A2 B2 cW VI PN=> ?_)
 refine aE ?_;obtain⟨F,hF⟩:∃F:Nat->List Int,F=fun(i:Nat)=>Mi cn (i:Int) (n:Int) (jO b) (kE b q i):=⟨_,rfl⟩
 refine dC (α:=Nat×Nat×List (Nat×Option aI)) n (fun k x=> [(4,true,zV (k*q:Nat)),(2,true,.ptr 24 0 0),(1,true,.ptr 23 0 0),(0,true,.jT 25)]) (fun k x=>(14,some (.cells 127 3 [[zV cn,zV n,zV (jO b)]] true false))::(16,some (.cells 73 1 [[lJ k x.1]] true false))::(19,some (.cJ R 54 [42,43] A B .ready none))::(20,some (.cells 204 1 [[.jT 19]] true false))::(21,some (.cells 3 1 [[zV k]] true false))::(23,some (.cells 77 1 [[.snap (aB aO b)]] true false))::(24,some (.cells 3 1 [[zV q]] true false))::(25,some (.cJ R2 17 [9] A2 B2 .ready none))::x.2.2) (fun k m x=>26<=m/\x.2.2=QP F k x.1 x.2.1/\(0<k->26<=x.1/\x.1<m/\26<=x.2.1/\x.2.1<m/\x.1≠x.2.1)) ⟨100,(0,0,[]),⟨oM,rfl,fun h=>absurd h oM⟩,by rw[zR];exact aG⟩ (fun k m x hk hR=> ?_) (fun m x hR=> ?_)
 ·obtain⟨id,dd,TT⟩:=x
  obtain⟨hm,QQ,aC⟩:=hR;simp only[]at aC QQ⊢;subst QQ
  have tG:k*q<b.length:=by
   have h1:n*q<=b.length+q-1:=by rw[<-hn];exact Nat.div_mul_le_self _ _
   have h2:(k+1)*q<=n*q:=mO q hk;rw[BC]at h2;omega
  have I7:(k+1)*q=k*q+q:=BC k q;have xX:kE b q k=(b.drop (k*q)).take q:=rfl;have QN:F k=wO cn k n (jO b)++kE b q k:=by rw[hF];rfl
  have nX:(kE b q k).length<=4096:=by rw[xX,dX];omega
  have VJ:(wO cn k n (jO b)).length<=32:=by
   have:=lR cn;have:=lR k;have:=lR n;have:=lR (jO b);unfold wO;simp only[cU];omega
  have c5:=ay9 cn k n (jO b);rw[I7];have I8:((b.drop (k*q)).take (b.length-k*q)).length=b.length-k*q:=by rw[dX,kR,XZ]
  have iE:(wO cn k n (jO b)++kE b q k).length=(wO cn k n (jO b)).length+(kE b q k).length:=cU;have eR:aB aO (wO cn k n (jO b))++aB aO (kE b q k)=aB aO (wO cn k n (jO b)++kE b q k):=DR _ _;have hS:=VG F k;rw[QN,iE]at hS
  replace hS:=bC.mk hS
  clear hF QN;by_cases g5:k*q+q<=b.length
  ·have g6:¬((b.length-k*q:Nat):Int)<q:=oM
   have hT:(((k*q:Nat):Int)+q-(k*q:Nat)).toNat=q:=oM
   have I9:=xX.symm;cases k with
   |zero=>
    clear aC hM xX c1 c2 hn w3 w5;generalize wO cn ((0:Nat):Int) n (jO b)=hd at*;generalize kE b q 0=pc at*;generalize 0*q=K at*;refine aE ?_;clear xW hA hB cW VI PN c5 w1 w2 w4 wM xO VH g2 g3 g4 g6 hT tG I8 nX VJ;exact⟨m+100,(m+7+8,m+7+6,[(m+7+8,some (.cells 77 1 [[.own (m+7+6) 0 (hd.length+pc.length)]] true true)),(m+7+6,some (.cells 5 1 (aB aO (hd++pc)) true true))]),⟨oM,(hS.out (m+7+8) (m+7+6)).symm,fun _=>(by omega:26<=m+7+8/\m+7+8<m+100/\26<=m+7+6/\m+7+6<m+100/\m+7+8≠m+7+6)⟩,(by((repeat (refine tE (by first|rfl|exact mI|(simp(maxSteps:=2000000) (disch:=omega) only[go_sem, *];rfl)) ?_));(refine holds_nil (by simp only[];omega) ?_);((repeat (first|refine u1 (by first|rfl|exact mI|(simp(maxSteps:=2000000) (disch:=omega) only[go_sem, *];rfl)) ?_|refine QR ?_));exact BF)))⟩
   |succ j=>
    obtain⟨i1,i2,i3,i4,i5⟩:=aC oM
    have h7:aB bY ((List.range j).map F)++[[.snap (aB aO (F j))]]=aB bY ((List.range (j+1)).map F):=by
     rw[GV,CV];exact kK _ (F j)
    rw[VG F j];refine AH dd id (aB bY ((List.range (j+1)).map F)) eN eN i5 (I6 h7 (by rw[fK])) ?_
    refine kU (env:=[(4,true,zV ((j+1)*q:Nat)),(2,true,.ptr 24 0 0),(1,true,.ptr 23 0 0),(0,true,.jT 25)]) (H:=⟨m,bN [(14,some (.cells 127 3 [[zV cn,zV n,zV (jO b)]] true false)),(16,some (.cells 73 1 [[.own id 0 (j+1)]] true false)),(19,some (.cJ R 54 [42,43] A B .ready none)),(20,some (.cells 204 1 [[.jT 19]] true false)),(21,some (.cells 3 1 [[zV (j+1:Nat)]] true false)),(23,some (.cells 77 1 [[.snap (aB aO b)]] true false)),(24,some (.cells 3 1 [[zV q]] true false)),(25,some (.cJ R2 17 [9] A2 B2 .ready none)),(id,some (.cells 77 1 (aB bY ((List.range (j+1)).map F)) true true))]⟩) aG ?_
    have xY:((List.range (j+1)).map F).length=j+1:=by simp
    clear h7 aC hM xX c1 c2 hn w3 w5 i3 i4 i5;generalize (List.range (j+1)).map F=L at*;generalize wO cn ((j+1:Nat):Int) n (jO b)=hd at*;generalize kE b q (j+1)=pc at*;generalize (j+1)*q=K at*;refine aE ?_;clear xW hA hB cW VI PN c5 w1 w2 w4 wM xO VH g2 g3 g4 g6 hT tG I8 nX VJ;exact⟨m+100,(m+7+8,m+7+6,[(m+7+8,some (.cells 77 1 (aB bY L++[[.own (m+7+6) 0 (hd.length+pc.length)]]) true true)),(m+7+6,some (.cells 5 1 (aB aO (hd++pc)) true true))]),⟨oM,(hS.out (m+7+8) (m+7+6)).symm,fun _=>(by omega:26<=m+7+8/\m+7+8<m+100/\26<=m+7+6/\m+7+6<m+100/\m+7+8≠m+7+6)⟩,(by((repeat (refine tE (by first|rfl|exact mI|(simp(maxSteps:=2000000) (disch:=omega) only[go_sem, *];rfl)) ?_));(refine holds_nil (by simp only[];omega) ?_);((repeat (first|refine u1 (by first|rfl|exact mI|(simp(maxSteps:=2000000) (disch:=omega) only[go_sem, *];rfl)) ?_|refine QR ?_));exact BF)))⟩
  ·have I9:(b.drop (k*q)).take (b.length-k*q)=kE b q k:=by
    rw[xX,cN (by rw[kR];exact cA _),cN (by rw[kR];omega)]
   have QO:(kE b q k).length=b.length-k*q:=by rw[<-I9,I8]
   have IA:k*q+(kE b q k).length=b.length:=oM
   have g6:((kE b q k).length:Int)<q:=oM
   have hT:(((k*q:Nat):Int)+(kE b q k).length-(k*q:Nat)).toNat=(kE b q k).length:=oM
   have IC:(b.drop (k*q)).take (kE b q k).length=kE b q k:=by rw[QO];exact I9
   clear QO;cases k with
   |zero=>
    clear aC hM xX c1 c2 hn w3 w5;generalize wO cn ((0:Nat):Int) n (jO b)=hd at*;generalize kE b q 0=pc at*;generalize 0*q=K at*;refine aE ?_;clear xW hA hB cW VI PN c5 w1 w2 w4 wM xO VH g2 g3 g4 g6 hT tG I8 nX VJ;exact⟨m+100,(m+7+8,m+7+6,[(m+7+8,some (.cells 77 1 [[.own (m+7+6) 0 (hd.length+pc.length)]] true true)),(m+7+6,some (.cells 5 1 (aB aO (hd++pc)) true true))]),⟨oM,(hS.out (m+7+8) (m+7+6)).symm,fun _=>(by omega:26<=m+7+8/\m+7+8<m+100/\26<=m+7+6/\m+7+6<m+100/\m+7+8≠m+7+6)⟩,(by((repeat (refine tE (by first|rfl|exact mI|(simp(maxSteps:=2000000) (disch:=omega) only[go_sem, *];rfl)) ?_));(refine holds_nil (by simp only[];omega) ?_);((repeat (first|refine u1 (by first|rfl|exact mI|(simp(maxSteps:=2000000) (disch:=omega) only[go_sem, *];rfl)) ?_|refine QR ?_));exact BF)))⟩
   |succ j=>
    obtain⟨i1,i2,i3,i4,i5⟩:=aC oM
    have h7:aB bY ((List.range j).map F)++[[.snap (aB aO (F j))]]=aB bY ((List.range (j+1)).map F):=by
     rw[GV,CV];exact kK _ (F j)
    rw[VG F j];refine AH dd id (aB bY ((List.range (j+1)).map F)) eN eN i5 (I6 h7 (by rw[fK])) ?_
    refine kU (env:=[(4,true,zV ((j+1)*q:Nat)),(2,true,.ptr 24 0 0),(1,true,.ptr 23 0 0),(0,true,.jT 25)]) (H:=⟨m,bN [(14,some (.cells 127 3 [[zV cn,zV n,zV (jO b)]] true false)),(16,some (.cells 73 1 [[.own id 0 (j+1)]] true false)),(19,some (.cJ R 54 [42,43] A B .ready none)),(20,some (.cells 204 1 [[.jT 19]] true false)),(21,some (.cells 3 1 [[zV (j+1:Nat)]] true false)),(23,some (.cells 77 1 [[.snap (aB aO b)]] true false)),(24,some (.cells 3 1 [[zV q]] true false)),(25,some (.cJ R2 17 [9] A2 B2 .ready none)),(id,some (.cells 77 1 (aB bY ((List.range (j+1)).map F)) true true))]⟩) aG ?_
    have xY:((List.range (j+1)).map F).length=j+1:=by simp
    clear h7 aC hM xX c1 c2 hn w3 w5 i3 i4 i5;generalize (List.range (j+1)).map F=L at*;generalize wO cn ((j+1:Nat):Int) n (jO b)=hd at*;generalize kE b q (j+1)=pc at*;generalize (j+1)*q=K at*;refine aE ?_;clear xW hA hB cW VI PN c5 w1 w2 w4 wM xO VH g2 g3 g4 g6 hT tG I8 nX VJ;exact⟨m+100,(m+7+8,m+7+6,[(m+7+8,some (.cells 77 1 (aB bY L++[[.own (m+7+6) 0 (hd.length+pc.length)]]) true true)),(m+7+6,some (.cells 5 1 (aB aO (hd++pc)) true true))]),⟨oM,(hS.out (m+7+8) (m+7+6)).symm,fun _=>(by omega:26<=m+7+8/\m+7+8<m+100/\26<=m+7+6/\m+7+6<m+100/\m+7+8≠m+7+6)⟩,(by((repeat (refine tE (by first|rfl|exact mI|(simp(maxSteps:=2000000) (disch:=omega) only[go_sem, *];rfl)) ?_));(refine holds_nil (by simp only[];omega) ?_);((repeat (first|refine u1 (by first|rfl|exact mI|(simp(maxSteps:=2000000) (disch:=omega) only[go_sem, *];rfl)) ?_|refine QR ?_));exact BF)))⟩
 ·obtain⟨id,dd,TT⟩:=x
  obtain⟨hm,QQ,aC⟩:=hR;simp only[]at aC QQ⊢;subst QQ
  have hnq:¬n*q<b.length:=by
   have h1:b.length+q-1<(n+1)*q:=by
    rw[<-hn];unfold xI;exact Nat.lt_mul_of_div_lt (KL _) DH
   rw[BC]at h1;omega
  have Bm:((List.range n).map F,(0:Int))=M:=by rw[<-hM,hF]
  clear hM;subst Bm;simp only[];clear hF;rcases Ir n with h0|h0
  ·subst h0
   generalize 0*q=K at*;clear aC hn w3 w5 xO;refine aE ?_;refine FM (by(first|rfl|exact mI|(simp(maxSteps:=2000000) (disch:=omega) only[go_sem, *]<;>rfl)|fail)) ?_
   refine aE ?_;refine FM (by(first|rfl|exact mI|(simp(maxSteps:=2000000) (disch:=omega) only[go_sem, *]<;>rfl)|fail)) ?_
   exact zE
  ·obtain⟨j,hj⟩:∃j,n=j+1:=⟨n-1,oM⟩
   obtain⟨i1,i2,i3,i4,i5⟩:=aC oM
   have h7:aB bY ((List.range j).map F)++[[.snap (aB aO (F j))]]=aB bY ((List.range n).map F):=by
    rw[hj,GV,CV];exact kK _ (F j)
   have hs:QP F n id dd=QP F (j+1) id dd:=by rw[hj]
   have ho:lJ n id= .own id 0 n:=by rw[hj];rfl
   rw[hs,ho,VG];generalize n*q=K at*;refine AH dd id (aB bY ((List.range n).map F)) eN eN i5 (I6 h7 (by rw[fK])) ?_
   refine kU (env:=[(4,true,zV K),(2,true,.ptr 24 0 0),(1,true,.ptr 23 0 0),(0,true,.jT 25)]) (H:=⟨m,bN [(14,some (.cells 127 3 [[zV cn,zV n,zV (jO b)]] true false)),(16,some (.cells 73 1 [[.own id 0 n]] true false)),(19,some (.cJ R 54 [42,43] A B .ready none)),(20,some (.cells 204 1 [[.jT 19]] true false)),(21,some (.cells 3 1 [[zV n]] true false)),(23,some (.cells 77 1 [[.snap (aB aO b)]] true false)),(24,some (.cells 3 1 [[zV q]] true false)),(25,some (.cJ R2 17 [9] A2 B2 .ready none)),(id,some (.cells 77 1 (aB bY ((List.range n).map F)) true true))]⟩) aG ?_
   have xY:((List.range n).map F).length=n:=by simp
   have n1:(∀row,row∈aB bY ((List.range n).map F)->∀x,x∈row->bF x)=True:=eq_true (oN _);have t1:((List.range n).map F).take n=(List.range n).map F:=cN oM
   clear h7 aC hn w3 w5 hs ho hj;generalize (List.range n).map F=L at*;refine aE ?_;refine FM (by(first|rfl|exact mI|(simp(maxSteps:=2000000) (disch:=omega) only[go_sem, *]<;>rfl)|fail)) ?_
   refine aE ?_;refine FM (by(first|rfl|exact mI|(simp(maxSteps:=2000000) (disch:=omega) only[go_sem, *]<;>rfl)|fail)) ?_
   exact zE
theorem Bn(l:List bK)(hl:l.length<=100000)(ho:∀x∈l,HV x):PC 145 [.snap (aB bX l)] (.snap (aB bX l)):=by
 refine aZ func145 ntmps145 (gJ _) ?_;have hg:=yU l
 replace ho:=bC.mk ho
 refine aE ?_;refine dC (α:=Nat) l.length (fun k id=> [(8,true,zV k),(7,true,zV l.length),(6,true,.snap (aB bX l)),(3,true,lJ k id)]) (fun k id=>lX 192 7 (aB bX (l.take k)) k id) (fun k m id=>(0<k->id<m)) ⟨100,0,fun h=>absurd h oM,aG⟩ (fun k m id hk hR=> ?_) (fun m id hR=> ?_)
 ·have bO:=hg k hk
  have hx:=ho.out _ (eB bU hk);have cI:=kF bU hk;have iE:(l.take k).length=k:=by rw[dX];omega
  have c1:=Q7 (l.getD k bU);have c2:PC 118 [.agg (jX (cD (l.getD k bU))),.snap (aB aW (l.getD k bU).records),bV (l.getD k bU).closed] (.agg (bX (l.getD k bU))):=VC (cD (l.getD k bU)) (l.getD k bU).records (l.getD k bU).closed hx.cD.dF hx.cD.seen (fun y hy=>(hx.cD.one y hy).1) (by have:=hx.records;omega)
  rw[cI];clear cI hg ho hx;generalize l.take k=F at*;generalize l.getD k bU=x at*;obtain⟨n,p,s,h,e,r,c⟩:=x;rw[lY]at bO c1 c2;unfold cD jX at c1 c2;simp only[]at*;have dM:aB bX ([]++[⟨n,p,s,h,e,r,c⟩])=[[zV n,zV p,zV s,.snap (aB bY h),.snap (aB eH e),.snap (aB aW r),bV c]]:=rfl;cases k with
  |zero=>
   have jC:F=[]:=eL iE;subst jC;clear hR iE;refine aE ?_;exact⟨m+40,m+1+1+9,fun _=>by omega,aG⟩
  |succ q=>
   have i2:=hR oM
   clear hR dM;refine aE ?_;exact⟨m+40,m+1+1+9,fun _=>by omega,aG⟩
 ·rw[gP]
  clear hg ho;cases hh:l.length with
  |zero=>
   have jD:l=[]:=eL hh;subst jD;clear hR hh;exact zE
  |succ q=>
   have i2:=hR oM
   have cI:l.take (q+1)=l:=cN oM
   clear hR;exact zE
theorem aD6(l:List bK)(x:bK)(hs:HX l)(hl:l.length<=100000):PC 195 [.snap (aB bX l),.agg (bX x)] (.snap (aB bX (rZ l x))):=by
 have c1:=UU l x.number hs hl;by_cases aT:l=[]
 ·subst aT
  have hp:rZ [] x=[x]:=rfl;have PS:fE [] x.number=0:=rfl;have Pq:pE [] x.number=false:=rfl;rw[hp];rw[PS,Pq]at c1;clear hp PS Pq hs hl;obtain⟨n,p,s,h,e,r,c⟩:=x;refine eA.nil (pre:=[]) (post:=[.agg (bX ⟨n,p,s,h,e,r,c⟩)]) fun a cap=> ?_
  show PC 195 [.c (.slice a 0 cap),.agg (bX ⟨n,p,s,h,e,r,c⟩)] _
  refine aZ func195 ntmps195 (gJ _) ?_;have dM:aB bX [⟨n,p,s,h,e,r,c⟩]=[[zV n,zV p,zV s,.snap (aB bY h),.snap (aB eH e),.snap (aB aW r),bV c]]:=rfl;rw[dM];rw[lY];simp only[]at*
  have c2:PC 115 [.c (.slice a 0 cap),zV n] (.aK [zV 0,bV false]):=eA.less c1 (by
   refine eE .nil (tY _))
  clear c1;have hz:((0:Nat):Int)=0:=rfl;refine aE ?_;refine eO func242 ntmps242 ?_;cases a with
  |none=>
   refine aE ?_;refine eO func243 ntmps243 ?_
   (repeat (first|refine Bo (p:=_) ?_ uC uS rfl rfl rfl (by(first|rfl|decide)) (by(exact aJ))|refine xL ?_))
   exact cR
  |some a=>
   refine aE ?_;refine eO func243 ntmps243 ?_
   (repeat (first|refine Bo (p:=_) ?_ uC uS rfl rfl rfl (by(first|rfl|decide)) (by(exact aJ))|refine xL ?_))
   exact cR
 ·refine aZ func195 ntmps195 (gJ _) ?_
  have c2:=aC1 l aT oM
  have hle:=UT l x.number;have bG:=fun h=>(FB (l:=l) (n:=x.number) h).1
  obtain⟨R,hR⟩:∃R,rZ l x=R:=⟨_,rfl⟩;rw[hR];unfold rZ at hR;generalize fE l x.number=i at*;generalize pE l x.number=fb at*;clear hs;have pS:(aB bX l).set i (bX x)=aB bX (l.set i x):=KO l i x
  have LI:FD (aB bX l) i (bX x)=aB bX (l.take i++x::l.drop i):=by
   unfold FD;rw[YP,YN,aD7,DR,DR];simp
  have lC:(aB bX l).all (fun r=>r.length==7&&r.all AV.one)=true:=Bp l
  have QS:([bX x]).all (fun r=>r.length==7&&r.all AV.one)=true:=Bp (f:=bX) [x]
  have tH:i=l.length->aB bX l++[bX x]=aB bX (l.take i++x::l.drop i):=fun h=>by rw[h,gP,v8];exact kK l x
  have VK:(aB bX l).length=l.length:=fK l;have fM:(∀row,row∈aB bX l->∀x,x∈row->bF x)=True:=eq_true (oN l);obtain⟨n,p,s,h,e,r,c⟩:=x;rw[lY]at pS LI QS tH⊢;simp only[]at*;cases fb with
  |true=>
   have hi:=bG rfl;rw[if_pos rfl]at hR;rw[hR]at pS;have oB:=yU l i hi;rw[lY]at oB;clear LI lC QS tH bG hle hR;have hEr:(aB bX R).length=l.length:=by rw[<-pS,GR,VK]
   have Pr:(∀row,row∈aB bX R->∀x,x∈row->bF x)=True:=eq_true (oN R);have cI:(aB bX R).take l.length=aB bX R:=cN oM
   generalize aB bX R=RR at*;exact zE
  |false=>
   rw[if_neg dE]at hR
   rw[hR]at LI tH;clear pS bG;rcases qY i l.length with hi|hi
   ·clear tH
    have ha:=aA2 (H:=⟨3,bN [(1,some (.cells 192 7 (aB bX l) true true)),(2,some (.cells 192 7 [[zV n,zV p,zV s,.snap (aB bY h),.snap (aB eH e),.snap (aB aW r),bV c]] true true))]⟩) (id:=1) (id2:=2) (i:=i) dE rfl rfl oM oM lC QS
    rw[VK,LI]at ha
    have Ps:R.length=l.length+1:=by
     have h9:=congrArg List.length hR;rw[cU,iQ,dX,kR]at h9;omega
    have Pr:(∀row,row∈aB bX R->∀x,x∈row->bF x)=True:=eq_true (oN R);have cI:R.take (l.length+1)=R:=cN oM
    clear LI lC QS hR;refine aE ?_;refine tC ha ?_;rintro r' H' ⟨rfl,rfl⟩;exact zE
   ·have LJ:i=l.length:=oM
    have tH:=tH LJ
    have Ps:R.length=l.length+1:=by
     have h9:=congrArg List.length hR;rw[cU,iQ,dX,kR]at h9;omega
    have Pr:(∀row,row∈aB bX R->∀x,x∈row->bF x)=True:=eq_true (oN R);have cI:R.take (l.length+1)=R:=cN oM
    clear LI lC QS hle hi hR;subst LJ;refine aE ?_;refine eO func243 ntmps243 ?_
    (repeat (first|refine Bo (p:=_) ?_ uC uS rfl rfl rfl (by(first|rfl|decide)) (by(exact aJ))|refine xL ?_))
    exact cR
end Go.Proofs.YtpaomccedbjknaaGreatDoor
