/- Staging: contracts of its functions (Az). No condition but those named. -/
import Derived.Test.YtioafciifiggaaaGreatDoorAy
import Derived.Test.YtioafciifiggaaaGreatDoorAt
set_option linter.unusedVariables false
set_option linter.unusedSimpArgs false
namespace Go.Proofs.YtioafciifiggaaaGreatDoor
open Go.Proofs Go.AL
set_option maxRecDepth 100000
set_option maxHeartbeats 4000000
attribute [local irreducible] endA AW aops thenA blockA hold
attribute [local irreducible] numG
def spT(F:Nat→List Int):Nat→Nat→Nat→List (Nat×Option Blk)
 |0,_,_=> []
 |j+1,id,dd=> [(id,some (.cells 74 1 (encL byteL ((List.range j).map F)++[[.own dd 0 (F j).length]]) true true)),(dd,some (.cells 5 1 (encL byteRow (F j)) true true))]
@[go_sem] theorem spT_0(F:Nat→List Int)(id dd:Nat):spT F 0 id dd=[]:=rfl
theorem spT_s(F:Nat→List Int)(j id dd:Nat):spT F (j+1) id dd=[(id,some (.cells 74 1 (encL byteL ((List.range j).map F)++[[.own dd 0 (F j).length]]) true true)),(dd,some (.cells 5 1 (encL byteRow (F j)) true true))]:=rfl
theorem split_p(c:Cyc)(most:Int)(hc:CycLen c)(hp:c.pos.length≤100000)(hn:c.writes.length≤100000)(hw:∀x∈c.writes,x.2.2.length≤100000)(hl:(cycW c).length≤100000)(hb:∀x∈cycW c,ByteOK x):PC 27 [.agg (encC c),zV most] (.tup [.snap (encL byteL (splE c most).1),zV (splE c most).2]):=by
 refine pstart Tryz.func27 Tryz.ntmps27 (by simp only[go_sem]) ?_
 have c1:=encode_p c hc hp hn hw hl
 have hle:(encE c).1.length≤65536∧∀x∈(encE c).1,ByteOK x:=by
  unfold encE;split
  ·split
   ·exact⟨by simp,fun x hx=>absurd hx (by simp)⟩
   ·exact⟨by simp only[];omega,hb⟩
  ·exact⟨by simp,fun x hx=>absurd hx (by simp)⟩
 have c2:=sum_p (encE c).1 hle.2 (by omega)
 obtain⟨M,hM⟩:∃M,splE c most=M:=⟨_,rfl⟩;rw[hM];unfold splE at hM;have hle1:=hle.1;clear hc hp hn hw hl hb hle;generalize encE c=X at*;obtain⟨b,e⟩:=X;obtain⟨cb,cn,ct,cp,cw⟩:=c;unfold encC at*;simp only[]at*;by_cases g1:e=0
 case neg=>
  rw[if_neg g1]at hM;subst hM;clear c2;refine zgo2 ?_;exact zfin
 rw[if_pos g1]at hM;subst g1;by_cases g2:most<1
 ·rw[if_pos (.inl g2)]at hM
  subst hM;clear c2;refine zgo2 ?_;exact zfin
 by_cases g3:4096<most
 ·rw[if_pos (.inr g3)]at hM
  subst hM;clear c2;refine zgo2 ?_;exact zfin
 rw[if_neg (by omega)]at hM
 obtain⟨q,rfl⟩:∃q:Nat,most=q:=⟨most.toNat,by omega⟩
 rw[Int.toNat_natCast]at hM;obtain⟨n,hn⟩:∃n,nParts b.length q=n:=⟨_,rfl⟩;rw[hn]at hM;have w1:IntKind.i64.wrap ((b.length:Int)+q)=(b.length:Int)+q:=IntWalk.i64_in _ (by omega)
 have w2:IntKind.i64.wrap ((b.length:Int)+q-1)=(b.length:Int)+q-1:=IntWalk.i64_in _ (by omega)
 have hq1:1≤q:=by omega
 have w3:((b.length:Int)+q-1).tdiv q=n:=by
  rw[show(b.length:Int)+q-1=((b.length+q-1:Nat):Int)by omega,←hn]
  rfl
 have hnb:n≤100000:=by
  rw[←hn];unfold nParts;have:=Nat.div_le_self (b.length+q-1) q;omega
 have w5:IntKind.i64.wrap (n:Int)=n:=IntWalk.i64_in _ (by omega)
 have hcr:=crc_rng b;have w4:IntKind.i64.wrap (crc b)=crc b:=IntWalk.i64_in _ (by omega)
 have g4:¬(q:Int)=0:=by omega
 refine zgo2 ?_;refine zin Tryz.func67 Tryz.ntmps67 ?_;refine zgo2 ?_;refine aw_less (env:=[(41,true,.fn (.func 142) [] [.ptr 17 0 0,.ptr 18 0 0]),(9,true,.ptr 16 0 0),(8,true,.ptr 14 0 0)]) (H:=⟨19,tabG [(14,some (.cells 149 3 [[zV cn,zV n,zV (crc b)]] true false)),(16,some (.cells 61 1 [[.c (.slice none 0 0)]] true false)),(17,some (.cells 74 1 [[.snap (encL byteRow b)]] true false)),(18,some (.cells 3 1 [[zV q]] true false))]⟩) (by(repeat (refine holds_cons (by rfl) ?_));refine holds_nil (Nat.le_refl 19) ?_;(repeat (refine sub_cons (by rfl) ?_));exact sub_nil) ?_
 refine zrange Tryz.func142 Tryz.ntmps142 (fun R A B hRo hA hB=> ?_)
 refine zgo2 ?_;refine zin Tryz.func143 Tryz.ntmps143 ?_;refine zgo2 ?_;refine aw_less (env:=[(8,true,.fn (.func 195) [] [.ptr 23 0 0,.ptr 24 0 0]),(4,true,.ptr 21 0 0),(3,true,.ptr 20 0 0)]) (H:=⟨25,tabG [(14,some (.cells 149 3 [[zV cn,zV n,zV (crc b)]] true false)),(16,some (.cells 61 1 [[.c (.slice none 0 0)]] true false)),(19,some (.rcd R 54 [42,43] A B .ready none)),(20,some (.cells 238 1 [[.yld 19]] true false)),(21,some (.cells 3 1 [[zV 0]] true false)),(23,some (.cells 74 1 [[.snap (encL byteRow b)]] true false)),(24,some (.cells 3 1 [[zV q]] true false))]⟩) (by(repeat (refine holds_cons (by rfl) ?_));refine holds_nil (Nat.le_refl 25) ?_;(repeat (refine sub_cons (by rfl) ?_));exact sub_nil) ?_
 refine zrange Tryz.func195 Tryz.ntmps195 (fun R2 A2 B2 hR2 hA2 hB2=> ?_)
 refine zgo2 ?_;obtain⟨F,hF⟩:∃F:Nat→List Int,F=fun(i:Nat)=>parW cn (i:Int) (n:Int) (crc b) (pieceN b q i):=⟨_,rfl⟩
 refine zfor (α:=Nat×Nat×List (Nat×Option Blk)) n (fun k x=> [(4,true,zV (k*q:Nat)),(2,true,.ptr 24 0 0),(1,true,.ptr 23 0 0),(0,true,.yld 25)]) (fun k x=>(14,some (.cells 149 3 [[zV cn,zV n,zV (crc b)]] true false))::(16,some (.cells 61 1 [[oV1 k x.1]] true false))::(19,some (.rcd R 54 [42,43] A B .ready none))::(20,some (.cells 238 1 [[.yld 19]] true false))::(21,some (.cells 3 1 [[zV k]] true false))::(23,some (.cells 74 1 [[.snap (encL byteRow b)]] true false))::(24,some (.cells 3 1 [[zV q]] true false))::(25,some (.rcd R2 17 [9] A2 B2 .ready none))::x.2.2) (fun k m x=>26≤m∧x.2.2=spT F k x.1 x.2.1∧(0<k→26≤x.1∧x.1<m∧26≤x.2.1∧x.2.1<m∧x.1≠x.2.1)) ⟨100,(0,0,[]),⟨by omega,rfl,fun h=>absurd h (by omega)⟩,by rw[Nat.zero_mul];exact zholds⟩ (fun k m x hk hR=> ?_) (fun m x hR=> ?_)
 ·obtain⟨id,dd,TT⟩:=x
  obtain⟨hm,hTT,hid⟩:=hR;simp only[]at hid hTT⊢;subst hTT
  have hkl:k*q<b.length:=by
   have h1:n*q≤b.length+q-1:=by rw[←hn];exact Nat.div_mul_le_self _ _
   have h2:(k+1)*q≤n*q:=Nat.mul_le_mul_right q hk;rw[Nat.succ_mul]at h2;omega
  have hK2:(k+1)*q=k*q+q:=Nat.succ_mul k q;have hpN:pieceN b q k=(b.drop (k*q)).take q:=rfl;have hFk:F k=hdrW cn k n (crc b)++pieceN b q k:=by rw[hF];rfl
  have hpl:(pieceN b q k).length≤4096:=by rw[hpN,List.length_take];omega
  have hhl:(hdrW cn k n (crc b)).length≤32:=by
   have:=vint_len cn;have:=vint_len k;have:=vint_len n;have:=vint_len (crc b);unfold hdrW;simp only[List.length_append];omega
  have c5:=hput_fo cn k n (crc b);rw[hK2];have hL1:((b.drop (k*q)).take (b.length-k*q)).length=b.length-k*q:=by rw[List.length_take,List.length_drop,Nat.min_self]
  have hFl:(hdrW cn k n (crc b)++pieceN b q k).length=(hdrW cn k n (crc b)).length+(pieceN b q k).length:=List.length_append;have hsn:encL byteRow (hdrW cn k n (crc b))++encL byteRow (pieceN b q k)=encL byteRow (hdrW cn k n (crc b)++pieceN b q k):=encL_app _ _;have hS:=spT_s F k;rw[hFk,hFl]at hS
  replace hS:=Lat.mk hS
  clear hF hFk;by_cases g5:k*q+q≤b.length
  ·have g6:¬((b.length-k*q:Nat):Int)<q:=by omega
   have hT:(((k*q:Nat):Int)+q-(k*q:Nat)).toNat=q:=by omega
   have hpN':=hpN.symm;cases k with
   |zero=>
    clear hid hM hpN c1 c2 hn w3 w5;generalize hdrW cn ((0:Nat):Int) n (crc b)=hd at*;generalize pieceN b q 0=pc at*;generalize 0*q=K at*;refine zgo2 ?_;clear hRo hA hB hR2 hA2 hB2 c5 w1 w2 w4 hcr hnb hle1 g2 g3 g4 g6 hT hkl hL1 hpl hhl;exact⟨m+100,(m+7+8,m+7+6,[(m+7+8,some (.cells 74 1 [[.own (m+7+6) 0 (hd.length+pc.length)]] true true)),(m+7+6,some (.cells 5 1 (encL byteRow (hd++pc)) true true))]),⟨by omega,(hS.out (m+7+8) (m+7+6)).symm,fun _=>(by omega:26≤m+7+8∧m+7+8<m+100∧26≤m+7+6∧m+7+6<m+100∧m+7+8≠m+7+6)⟩,(by((repeat (refine holds_cons (by first|rfl|(simp(maxSteps:=2000000) (disch:=omega) only[go_sem, *];done)|(simp(maxSteps:=2000000) (disch:=omega) only[go_sem, *];rfl)) ?_));(refine holds_nil (by simp only[];omega) ?_);((repeat (first|refine sub_cons (by first|rfl|(simp(maxSteps:=2000000) (disch:=omega) only[go_sem, *];done)|(simp(maxSteps:=2000000) (disch:=omega) only[go_sem, *];rfl)) ?_|refine sub_none ?_));exact sub_nil)))⟩
   |succ j=>
    obtain⟨i1,i2,i3,i4,i5⟩:=hid (by omega)
    have h7:encL byteL ((List.range j).map F)++[[.snap (encL byteRow (F j))]]=encL byteL ((List.range (j+1)).map F):=by
     rw[List.range_succ,List.map_append];exact encL_snoc _ (F j)
    rw[spT_s F j];refine aw_fz dd id (encL byteL ((List.range (j+1)).map F)) zeq zeq i5 (fzl h7 (by rw[encL_len])) ?_
    refine aw_less (env:=[(4,true,zV ((j+1)*q:Nat)),(2,true,.ptr 24 0 0),(1,true,.ptr 23 0 0),(0,true,.yld 25)]) (H:=⟨m,tabG [(14,some (.cells 149 3 [[zV cn,zV n,zV (crc b)]] true false)),(16,some (.cells 61 1 [[.own id 0 (j+1)]] true false)),(19,some (.rcd R 54 [42,43] A B .ready none)),(20,some (.cells 238 1 [[.yld 19]] true false)),(21,some (.cells 3 1 [[zV (j+1:Nat)]] true false)),(23,some (.cells 74 1 [[.snap (encL byteRow b)]] true false)),(24,some (.cells 3 1 [[zV q]] true false)),(25,some (.rcd R2 17 [9] A2 B2 .ready none)),(id,some (.cells 74 1 (encL byteL ((List.range (j+1)).map F)) true true))]⟩) zholds ?_
    have hLl:((List.range (j+1)).map F).length=j+1:=by simp
    clear h7 hid hM hpN c1 c2 hn w3 w5 i3 i4 i5;generalize (List.range (j+1)).map F=L at*;generalize hdrW cn ((j+1:Nat):Int) n (crc b)=hd at*;generalize pieceN b q (j+1)=pc at*;generalize (j+1)*q=K at*;refine zgo2 ?_;clear hRo hA hB hR2 hA2 hB2 c5 w1 w2 w4 hcr hnb hle1 g2 g3 g4 g6 hT hkl hL1 hpl hhl;exact⟨m+100,(m+7+8,m+7+6,[(m+7+8,some (.cells 74 1 (encL byteL L++[[.own (m+7+6) 0 (hd.length+pc.length)]]) true true)),(m+7+6,some (.cells 5 1 (encL byteRow (hd++pc)) true true))]),⟨by omega,(hS.out (m+7+8) (m+7+6)).symm,fun _=>(by omega:26≤m+7+8∧m+7+8<m+100∧26≤m+7+6∧m+7+6<m+100∧m+7+8≠m+7+6)⟩,(by((repeat (refine holds_cons (by first|rfl|(simp(maxSteps:=2000000) (disch:=omega) only[go_sem, *];done)|(simp(maxSteps:=2000000) (disch:=omega) only[go_sem, *];rfl)) ?_));(refine holds_nil (by simp only[];omega) ?_);((repeat (first|refine sub_cons (by first|rfl|(simp(maxSteps:=2000000) (disch:=omega) only[go_sem, *];done)|(simp(maxSteps:=2000000) (disch:=omega) only[go_sem, *];rfl)) ?_|refine sub_none ?_));exact sub_nil)))⟩
  ·have hpN':(b.drop (k*q)).take (b.length-k*q)=pieceN b q k:=by
    rw[hpN,List.take_of_length_le (by rw[List.length_drop];exact Nat.le_refl _),List.take_of_length_le (by rw[List.length_drop];omega)]
   have hp3:(pieceN b q k).length=b.length-k*q:=by rw[←hpN',hL1]
   have hp4:k*q+(pieceN b q k).length=b.length:=by omega
   have g6:((pieceN b q k).length:Int)<q:=by omega
   have hT:(((k*q:Nat):Int)+(pieceN b q k).length-(k*q:Nat)).toNat=(pieceN b q k).length:=by omega
   have hp5:(b.drop (k*q)).take (pieceN b q k).length=pieceN b q k:=by rw[hp3];exact hpN'
   clear hp3;cases k with
   |zero=>
    clear hid hM hpN c1 c2 hn w3 w5;generalize hdrW cn ((0:Nat):Int) n (crc b)=hd at*;generalize pieceN b q 0=pc at*;generalize 0*q=K at*;refine zgo2 ?_;clear hRo hA hB hR2 hA2 hB2 c5 w1 w2 w4 hcr hnb hle1 g2 g3 g4 g6 hT hkl hL1 hpl hhl;exact⟨m+100,(m+7+8,m+7+6,[(m+7+8,some (.cells 74 1 [[.own (m+7+6) 0 (hd.length+pc.length)]] true true)),(m+7+6,some (.cells 5 1 (encL byteRow (hd++pc)) true true))]),⟨by omega,(hS.out (m+7+8) (m+7+6)).symm,fun _=>(by omega:26≤m+7+8∧m+7+8<m+100∧26≤m+7+6∧m+7+6<m+100∧m+7+8≠m+7+6)⟩,(by((repeat (refine holds_cons (by first|rfl|(simp(maxSteps:=2000000) (disch:=omega) only[go_sem, *];done)|(simp(maxSteps:=2000000) (disch:=omega) only[go_sem, *];rfl)) ?_));(refine holds_nil (by simp only[];omega) ?_);((repeat (first|refine sub_cons (by first|rfl|(simp(maxSteps:=2000000) (disch:=omega) only[go_sem, *];done)|(simp(maxSteps:=2000000) (disch:=omega) only[go_sem, *];rfl)) ?_|refine sub_none ?_));exact sub_nil)))⟩
   |succ j=>
    obtain⟨i1,i2,i3,i4,i5⟩:=hid (by omega)
    have h7:encL byteL ((List.range j).map F)++[[.snap (encL byteRow (F j))]]=encL byteL ((List.range (j+1)).map F):=by
     rw[List.range_succ,List.map_append];exact encL_snoc _ (F j)
    rw[spT_s F j];refine aw_fz dd id (encL byteL ((List.range (j+1)).map F)) zeq zeq i5 (fzl h7 (by rw[encL_len])) ?_
    refine aw_less (env:=[(4,true,zV ((j+1)*q:Nat)),(2,true,.ptr 24 0 0),(1,true,.ptr 23 0 0),(0,true,.yld 25)]) (H:=⟨m,tabG [(14,some (.cells 149 3 [[zV cn,zV n,zV (crc b)]] true false)),(16,some (.cells 61 1 [[.own id 0 (j+1)]] true false)),(19,some (.rcd R 54 [42,43] A B .ready none)),(20,some (.cells 238 1 [[.yld 19]] true false)),(21,some (.cells 3 1 [[zV (j+1:Nat)]] true false)),(23,some (.cells 74 1 [[.snap (encL byteRow b)]] true false)),(24,some (.cells 3 1 [[zV q]] true false)),(25,some (.rcd R2 17 [9] A2 B2 .ready none)),(id,some (.cells 74 1 (encL byteL ((List.range (j+1)).map F)) true true))]⟩) zholds ?_
    have hLl:((List.range (j+1)).map F).length=j+1:=by simp
    clear h7 hid hM hpN c1 c2 hn w3 w5 i3 i4 i5;generalize (List.range (j+1)).map F=L at*;generalize hdrW cn ((j+1:Nat):Int) n (crc b)=hd at*;generalize pieceN b q (j+1)=pc at*;generalize (j+1)*q=K at*;refine zgo2 ?_;clear hRo hA hB hR2 hA2 hB2 c5 w1 w2 w4 hcr hnb hle1 g2 g3 g4 g6 hT hkl hL1 hpl hhl;exact⟨m+100,(m+7+8,m+7+6,[(m+7+8,some (.cells 74 1 (encL byteL L++[[.own (m+7+6) 0 (hd.length+pc.length)]]) true true)),(m+7+6,some (.cells 5 1 (encL byteRow (hd++pc)) true true))]),⟨by omega,(hS.out (m+7+8) (m+7+6)).symm,fun _=>(by omega:26≤m+7+8∧m+7+8<m+100∧26≤m+7+6∧m+7+6<m+100∧m+7+8≠m+7+6)⟩,(by((repeat (refine holds_cons (by first|rfl|(simp(maxSteps:=2000000) (disch:=omega) only[go_sem, *];done)|(simp(maxSteps:=2000000) (disch:=omega) only[go_sem, *];rfl)) ?_));(refine holds_nil (by simp only[];omega) ?_);((repeat (first|refine sub_cons (by first|rfl|(simp(maxSteps:=2000000) (disch:=omega) only[go_sem, *];done)|(simp(maxSteps:=2000000) (disch:=omega) only[go_sem, *];rfl)) ?_|refine sub_none ?_));exact sub_nil)))⟩
 ·obtain⟨id,dd,TT⟩:=x
  obtain⟨hm,hTT,hid⟩:=hR;simp only[]at hid hTT⊢;subst hTT
  have hnq:¬n*q<b.length:=by
   have h1:b.length+q-1<(n+1)*q:=by
    rw[←hn];unfold nParts;exact Nat.lt_mul_of_div_lt (Nat.lt_succ_self _) hq1
   rw[Nat.succ_mul]at h1;omega
  have hM':((List.range n).map F,(0:Int))=M:=by rw[←hM,hF]
  clear hM;subst hM';simp only[];clear hF;rcases Nat.eq_zero_or_pos n with h0|h0
  ·subst h0
   generalize 0*q=K at*;clear hid hn w3 w5 hnb;refine zgo2 ?_;refine w_rfN (by(first|rfl|(simp(maxSteps:=2000000) (disch:=omega) only[go_sem, *];done)|(simp(maxSteps:=2000000) (disch:=omega) only[go_sem, *]<;>rfl)|fail)) ?_
   refine zgo2 ?_;refine w_rfN (by(first|rfl|(simp(maxSteps:=2000000) (disch:=omega) only[go_sem, *];done)|(simp(maxSteps:=2000000) (disch:=omega) only[go_sem, *]<;>rfl)|fail)) ?_
   refine zgo2 ?_;exact zfin
  ·obtain⟨j,hj⟩:∃j,n=j+1:=⟨n-1,by omega⟩
   obtain⟨i1,i2,i3,i4,i5⟩:=hid (by omega)
   have h7:encL byteL ((List.range j).map F)++[[.snap (encL byteRow (F j))]]=encL byteL ((List.range n).map F):=by
    rw[hj,List.range_succ,List.map_append];exact encL_snoc _ (F j)
   have hs:spT F n id dd=spT F (j+1) id dd:=by rw[hj]
   have ho:oV1 n id= .own id 0 n:=by rw[hj];rfl
   rw[hs,ho,spT_s];generalize n*q=K at*;refine aw_fz dd id (encL byteL ((List.range n).map F)) zeq zeq i5 (fzl h7 (by rw[encL_len])) ?_
   refine aw_less (env:=[(4,true,zV K),(2,true,.ptr 24 0 0),(1,true,.ptr 23 0 0),(0,true,.yld 25)]) (H:=⟨m,tabG [(14,some (.cells 149 3 [[zV cn,zV n,zV (crc b)]] true false)),(16,some (.cells 61 1 [[.own id 0 n]] true false)),(19,some (.rcd R 54 [42,43] A B .ready none)),(20,some (.cells 238 1 [[.yld 19]] true false)),(21,some (.cells 3 1 [[zV n]] true false)),(23,some (.cells 74 1 [[.snap (encL byteRow b)]] true false)),(24,some (.cells 3 1 [[zV q]] true false)),(25,some (.rcd R2 17 [9] A2 B2 .ready none)),(id,some (.cells 74 1 (encL byteL ((List.range n).map F)) true true))]⟩) zholds ?_
   have hLl:((List.range n).map F).length=n:=by simp
   have n1:(∀row,row∈encL byteL ((List.range n).map F)→∀x,x∈row→NoId x)=True:=eq_true (encL_ids _);have t1:((List.range n).map F).take n=(List.range n).map F:=List.take_of_length_le (by omega)
   clear h7 hid hn w3 w5 hs ho hj;generalize (List.range n).map F=L at*;refine zgo2 ?_;refine w_rfN (by(first|rfl|(simp(maxSteps:=2000000) (disch:=omega) only[go_sem, *];done)|(simp(maxSteps:=2000000) (disch:=omega) only[go_sem, *]<;>rfl)|fail)) ?_
   refine zgo2 ?_;refine w_rfN (by(first|rfl|(simp(maxSteps:=2000000) (disch:=omega) only[go_sem, *];done)|(simp(maxSteps:=2000000) (disch:=omega) only[go_sem, *]<;>rfl)|fail)) ?_
   refine zgo2 ?_;exact zfin
end Go.Proofs.YtioafciifiggaaaGreatDoor
