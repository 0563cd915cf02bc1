/- Staging: contracts of its functions (Ay). No condition but those named. -/
import Derived.Test.YtioafciifiggaaaGreatDoorAw
import Derived.Test.YtioafciifiggaaaGreatDoorAt
set_option linter.unusedVariables false
set_option linter.unusedSimpArgs false
namespace Go.Proofs.YtioafciifiggaaaGreatDoor
open Go.Proofs Go.AL
set_option maxRecDepth 100000
set_option maxHeartbeats 8000000
attribute [local irreducible] endA AW aops thenA blockA hold
attribute [local irreducible] numG
theorem fzset{dd n j:Nat}{A rows:List (List AV)}(h:A[j]? =some [.own dd 0 n])(hn:n=rows.length):FzRows dd rows A (A.set j [.snap rows]):=by
 subst hn;refine⟨by simp,fun i r r' hr hr'=> ?_⟩
 by_cases hi:i=j
 ·subst hi
  rw[h]at hr;injection hr with hr
  subst hr;rw[List.getElem?_set_self (List.getElem?_eq_some_iff.1 h).1]at hr';injection hr' with hr'
  subst hr';refine⟨rfl,fun k a b ha hb=> ?_⟩
  match k with
  |0=>simp at ha hb;subst ha hb;exact .inr ⟨0,_,rfl,by simp,by simp⟩
  |k+1=>simp at ha
 ·rw[List.getElem?_set_ne (fun h=>hi h.symm)]at hr'
  rw[hr]at hr';injection hr' with hr'
  subst hr';refine⟨rfl,fun k x y hx hy=> ?_⟩
  rw[hx]at hy;injection hy with hy
  exact .inl hy
theorem fzl{dd n:Nat}{A B rows:List (List AV)}(h:A++[[.snap rows]]=B)(hn:n=rows.length):FzRows dd rows (A++[[.own dd 0 n]]) B:=by
 have:=fzset (dd:=dd) (n:=n) (j:=A.length) (A:=A++[[.own dd 0 n]]) (rows:=rows) (by simp) hn
 rw[←h];simpa using this
theorem recenc_p(k s:Int)(p:List Int)(hp:∀x∈p,ByteOK x)(hl:p.length≤100000):PC 198 [.agg [zV k,zV s,.snap (encL byteRow p)]] (.tup [.snap (encL encSec (recE k s p).1),zV (recE k s p).2]):=by
 refine pstart Tryz.func198 Tryz.ntmps198 (by simp only[go_sem]) ?_
 obtain⟨M,hM⟩:∃M,recE k s p=M:=⟨_,rfl⟩;rw[hM];unfold recE at hM;by_cases g1:k<1
 ·rw[if_pos (.inl g1)]at hM
  subst hM;refine zgo2 ?_;exact zfin
 by_cases g2:255<k
 ·rw[if_pos (.inr (.inl g2))]at hM
  subst hM;refine zgo2 ?_;exact zfin
 by_cases g3:s<1
 ·rw[if_pos (.inr (.inr (.inl g3)))]at hM
  subst hM;refine zgo2 ?_;exact zfin
 by_cases g4:4294967295<s
 ·rw[if_pos (.inr (.inr (.inr g4)))]at hM
  subst hM;refine zgo2 ?_;exact zfin
 rw[if_neg (by omega)]at hM
 by_cases g5:4096<p.length
 ·rw[if_pos g5]at hM
  subst hM;have g5':(4096:Int)<p.length:=by omega
  refine zgo2 ?_;exact zfin
 rw[if_neg g5]at hM;have g5':¬(4096:Int)<p.length:=by omega
 have hw:∀x∈strW k p,ByteOK x:=fun x hx=>by
  unfold strW at hx;rcases List.mem_append.1 hx with h|h
  ·rcases List.mem_cons.1 h with rfl|h
   ·unfold ByteOK;omega
   ·exact litB_ok _ _ x h
  ·exact hp x h
 have hwl:(strW k p).length=3+p.length:=by unfold strW;simp only[List.length_append,List.length_cons,litB_len]
 have c1:=little2_p p.length (by omega) (by omega)
 have c2:=sum_p (strW k p) hw (by omega)
 have hcr:=crc_rng (strW k p);have w4:IntKind.i64.wrap (crc (strW k p))=crc (strW k p):=IntWalk.i64_in _ (by omega)
 have c3:=little4_p (crc (strW k p)) (by omega) (by omega)
 have c4:=little4_p s (by omega) (by omega)
 have hu:IntKind.u8.wrap k=k:=by rw[u8w];omega
 have e1:[uV k]::encL byteRow (litB p.length 2)=encL byteRow (k::litB p.length 2):=rfl;have l1:(litB (p.length:Int) 2).length=2:=litB_len _ _;have l2:(litB (crc (strW k p)) 4).length=4:=litB_len _ _;have l3:(litB s 4).length=4:=litB_len _ _;have e2:encL byteRow (k::litB p.length 2)++encL byteRow p=encL byteRow (strW k p):=encL_app _ _;have e3:encL byteRow (strW k p)++encL byteRow (litB (crc (strW k p)) 4)=encL byteRow (strG k p):=encL_app _ _
 have hgl:(strG k p).length=7+p.length:=by unfold strG;rw[List.length_append,hwl,litB_len];omega
 have htw:(strW k p).take (3+p.length)=strW k p:=List.take_of_length_le (by omega)
 generalize strG k p=st at*;generalize crc (strW k p)=cr at*;generalize strW k p=sw at*;clear hw hp hcr;refine zgo2 ?_;refine zin Tryz.func143 Tryz.ntmps143 ?_;refine zgo2 ?_;refine aw_fz 12 14 [[.snap (encL byteRow st)]] rfl rfl (by decide) (fzset (j:=0) rfl (by rw[encL_len];omega)) ?_
 refine aw_less (env:=[(50,true,.fn (.func 195) [] [.ptr 14 0 0,.ptr 15 0 0]),(5,true,.ptr 13 0 0),(1,true,.ptr 0 0 0)]) (H:=⟨16,tabG [(0,some (.cells 111 3 [[zV k,zV s,.snap (encL byteRow p)]] true false)),(13,some (.cells 22 1 [[.c (.slice none 0 0)]] true false)),(14,some (.cells 74 1 [[.snap (encL byteRow st)]] true false)),(15,some (.cells 3 1 [[zV 4]] true false))]⟩) (by(repeat (refine holds_cons (by rfl) ?_));refine holds_nil (Nat.le_refl 16) ?_;(repeat (refine sub_cons (by rfl) ?_));exact sub_nil) ?_
 have hsl:st.length≤4103:=by omega
 clear e1 e2 e3 c1 c2 c3 w4 hu l1 l2 l3 htw hwl g1 g2 g3 g4 g5 g5' hgl;have hz8:encSec zSec=[uV 0,uV 0,uV 0,uV 0,uV 0,uV 0,uV 0,uV 0]:=rfl;have h4:litB s 4=[s % 256,s/256 % 256,s/256/256 % 256,s/256/256/256 % 256]:=rfl;have h4r:encL byteRow [s % 256,s/256 % 256,s/256/256 % 256,s/256/256/256 % 256]=[[uV (s % 256)],[uV (s/256 % 256)],[uV (s/256/256 % 256)],[uV (s/256/256/256 % 256)]]:=rfl;have hsN:∀l:List Int,secN s l=((s % 256,s/256 % 256,s/256/256 % 256,s/256/256/256 % 256),(l.getD 0 0,l.getD 1 0,l.getD 2 0,l.getD 3 0)):=fun _=>rfl
 rw[h4,h4r]at c4;clear h4 h4r;refine zrange Tryz.func195 Tryz.ntmps195 (fun R A B hRo hA hB=> ?_)
 refine zgo2 ?_;obtain⟨F,hF⟩:∃F:Nat→Sec,F=fun(i:Nat)=>secN s (pieceN st 4 i):=⟨_,rfl⟩
 obtain⟨n,hn⟩:∃n,nParts st.length 4=n:=⟨_,rfl⟩;refine zfor (α:=Nat) n (fun j id=> [(4,true,zV (j*4:Nat)),(2,true,.ptr 15 0 0),(1,true,.ptr 14 0 0),(0,true,.yld 16)]) (fun j id=>(0,some (.cells 111 3 [[zV k,zV s,.snap (encL byteRow p)]] true false))::(13,some (.cells 22 1 [[oV1 j id]] true false))::(14,some (.cells 74 1 [[.snap (encL byteRow st)]] true false))::(15,some (.cells 3 1 [[zV 4]] true false))::(16,some (.rcd R 65 [51] A B .ready none))::oT1 124 8 (encL encSec ((List.range j).map F)) j id) (fun j m id=>17≤m∧(0<j→17≤id∧id<m)) ⟨100,0,⟨by omega,fun h=>absurd h (by omega)⟩,by rw[Nat.zero_mul];exact zholds⟩ (fun j m id hj hR=> ?_) (fun m id hR=> ?_)
 ·obtain⟨hm,hid⟩:=hR
  have hkl:j*4<st.length:=by
   unfold nParts at hn;omega
  have hnb:n≤2000:=by
   unfold nParts at hn;omega
  have hK2:(j+1)*4=j*4+4:=Nat.succ_mul j 4;have hpN:pieceN st 4 j=(st.drop (j*4)).take 4:=rfl;have hFk:F j=secN s (pieceN st 4 j):=by rw[hF]
  have hL1:((st.drop (j*4)).take (st.length-j*4)).length=st.length-j*4:=by rw[List.length_take,List.length_drop,Nat.min_self]
  have hrs:(List.range (j+1)).map F=(List.range j).map F++[F j]:=by rw[List.range_succ,List.map_append];rfl
  have hLl:((List.range j).map F).length=j:=by simp
  rw[hrs,hK2,hFk,hsN];clear hF hFk hM hrs hn hsN;generalize s % 256=s0 at*;generalize s/256 % 256=s1 at*;generalize s/256/256 % 256=s2 at*;generalize s/256/256/256 % 256=s3 at*;generalize (List.range j).map F=L at*;by_cases g5:j*4+4≤st.length
  ·have g6:¬((st.length-j*4:Nat):Int)<4:=by omega
   have hT:(((j*4:Nat):Int)+4-(j*4:Nat)).toNat=4:=by omega
   have hpl:(pieceN st 4 j).length=4:=by rw[hpN,List.length_take,List.length_drop];omega
   have hpN':=hpN.symm;clear hpN;generalize pieceN st 4 j=pc at*;generalize j*4=K at*
   obtain⟨p1,p2,p3,p4,rfl⟩:∃a b c d,pc=[a,b,c,d]:=by
    match pc,hpl with
    |[a,b,c,d],_=>exact⟨a,b,c,d,rfl⟩
   have hpr:encL byteRow [p1,p2,p3,p4]=[[uV p1],[uV p2],[uV p3],[uV p4]]:=rfl;have f1:Nat.min 4 8=4:=rfl;have f2:List.take 4 [[uV s0],[uV s1],[uV s2],[uV s3]]=[[uV s0],[uV s1],[uV s2],[uV s3]]:=rfl;have f3:[[uV s0],[uV s1],[uV s2],[uV s3]].flatten=[uV s0,uV s1,uV s2,uV s3]:=rfl;have f4:[uV s0,uV s1,uV s2,uV s3]++List.drop [uV s0,uV s1,uV s2,uV s3].length [uV 0,uV 0,uV 0,uV 0,uV 0,uV 0,uV 0,uV 0]=[uV s0,uV s1,uV s2,uV s3,uV 0,uV 0,uV 0,uV 0]:=rfl
   have f5:Nat.min 4 4=4:=rfl;have hx:encL encSec ([]++[((s0,s1,s2,s3),([p1,p2,p3,p4].getD 0 0,[p1,p2,p3,p4].getD 1 0,[p1,p2,p3,p4].getD 2 0,[p1,p2,p3,p4].getD 3 0))])=[[uV s0,uV s1,uV s2,uV s3,uV p1,uV p2,uV p3,uV p4]]:=rfl;have hsn:encL encSec L++[[uV s0,uV s1,uV s2,uV s3,uV p1,uV p2,uV p3,uV p4]]=encL encSec (L++[((s0,s1,s2,s3),([p1,p2,p3,p4].getD 0 0,[p1,p2,p3,p4].getD 1 0,[p1,p2,p3,p4].getD 2 0,[p1,p2,p3,p4].getD 3 0))]):=encL_snoc L ((s0,s1,s2,s3),([p1,p2,p3,p4].getD 0 0,[p1,p2,p3,p4].getD 1 0,[p1,p2,p3,p4].getD 2 0,[p1,p2,p3,p4].getD 3 0))
   cases j with
   |zero=>
    have hL0:L=[]:=List.eq_nil_of_length_eq_zero hLl;subst hL0;clear hid hsn hLl;refine zgo2 ?_;clear hRo hA hB;exact⟨m+100,m+7+1+5+1+1,⟨by omega,fun _=>by omega⟩,zholds⟩
   |succ j=>
    obtain⟨i1,i2⟩:=hid (by omega)
    clear hid hx;refine zgo2 ?_;clear hRo hA hB;exact⟨m+100,m+7+1+5+1+1,⟨by omega,fun _=>by omega⟩,zholds⟩
  ·have hpN':(st.drop (j*4)).take (st.length-j*4)=pieceN st 4 j:=by
    rw[hpN,List.take_of_length_le (by rw[List.length_drop];exact Nat.le_refl _),List.take_of_length_le (by rw[List.length_drop];omega)]
   have hp3:(pieceN st 4 j).length=st.length-j*4:=by rw[←hpN',hL1]
   have hp4:j*4+(pieceN st 4 j).length=st.length:=by omega
   have hpl:(pieceN st 4 j).length<4:=by omega
   have hpm:0<(pieceN st 4 j).length:=by omega
   have hp5:(st.drop (j*4)).take (pieceN st 4 j).length=pieceN st 4 j:=by rw[hp3];exact hpN'
   clear hp3 hpN;generalize pieceN st 4 j=pc at*;generalize j*4=K at*
   match pc,hpl,hpm with
   |[p1],hpl,hpm=>
    replace hp4:K+1=st.length:=hp4
    replace hp5:(st.drop K).take 1=[p1]:=hp5
    have hT:((K:Int)+1-K).toNat=1:=by omega
    clear hpl hpm;have hpr:encL byteRow [p1]=[[uV p1]]:=rfl;have f1:Nat.min 4 8=4:=rfl;have f2:List.take 4 [[uV s0],[uV s1],[uV s2],[uV s3]]=[[uV s0],[uV s1],[uV s2],[uV s3]]:=rfl;have f3:[[uV s0],[uV s1],[uV s2],[uV s3]].flatten=[uV s0,uV s1,uV s2,uV s3]:=rfl;have f4:[uV s0,uV s1,uV s2,uV s3]++List.drop [uV s0,uV s1,uV s2,uV s3].length [uV 0,uV 0,uV 0,uV 0,uV 0,uV 0,uV 0,uV 0]=[uV s0,uV s1,uV s2,uV s3,uV 0,uV 0,uV 0,uV 0]:=rfl
    have f5:Nat.min 1 4=1:=rfl;have hx:encL encSec ([]++[((s0,s1,s2,s3),([p1].getD 0 0,[p1].getD 1 0,[p1].getD 2 0,[p1].getD 3 0))])=[[uV s0,uV s1,uV s2,uV s3,uV p1,uV 0,uV 0,uV 0]]:=rfl;have hsn:encL encSec L++[[uV s0,uV s1,uV s2,uV s3,uV p1,uV 0,uV 0,uV 0]]=encL encSec (L++[((s0,s1,s2,s3),([p1].getD 0 0,[p1].getD 1 0,[p1].getD 2 0,[p1].getD 3 0))]):=encL_snoc L ((s0,s1,s2,s3),([p1].getD 0 0,[p1].getD 1 0,[p1].getD 2 0,[p1].getD 3 0))
    cases j with
    |zero=>
     have hL0:L=[]:=List.eq_nil_of_length_eq_zero hLl;subst hL0;clear hid hsn hLl;refine zgo2 ?_;clear hRo hA hB;exact⟨m+100,m+7+1+5+1+1,⟨by omega,fun _=>by omega⟩,zholds⟩
    |succ j=>
     obtain⟨i1,i2⟩:=hid (by omega)
     clear hid hx;refine zgo2 ?_;clear hRo hA hB;exact⟨m+100,m+7+1+5+1+1,⟨by omega,fun _=>by omega⟩,zholds⟩
   |[p1,p2],hpl,hpm=>
    replace hp4:K+2=st.length:=hp4
    replace hp5:(st.drop K).take 2=[p1,p2]:=hp5
    have hT:((K:Int)+2-K).toNat=2:=by omega
    clear hpl hpm;have hpr:encL byteRow [p1,p2]=[[uV p1],[uV p2]]:=rfl;have f1:Nat.min 4 8=4:=rfl;have f2:List.take 4 [[uV s0],[uV s1],[uV s2],[uV s3]]=[[uV s0],[uV s1],[uV s2],[uV s3]]:=rfl;have f3:[[uV s0],[uV s1],[uV s2],[uV s3]].flatten=[uV s0,uV s1,uV s2,uV s3]:=rfl;have f4:[uV s0,uV s1,uV s2,uV s3]++List.drop [uV s0,uV s1,uV s2,uV s3].length [uV 0,uV 0,uV 0,uV 0,uV 0,uV 0,uV 0,uV 0]=[uV s0,uV s1,uV s2,uV s3,uV 0,uV 0,uV 0,uV 0]:=rfl
    have f5:Nat.min 2 4=2:=rfl;have hx:encL encSec ([]++[((s0,s1,s2,s3),([p1,p2].getD 0 0,[p1,p2].getD 1 0,[p1,p2].getD 2 0,[p1,p2].getD 3 0))])=[[uV s0,uV s1,uV s2,uV s3,uV p1,uV p2,uV 0,uV 0]]:=rfl;have hsn:encL encSec L++[[uV s0,uV s1,uV s2,uV s3,uV p1,uV p2,uV 0,uV 0]]=encL encSec (L++[((s0,s1,s2,s3),([p1,p2].getD 0 0,[p1,p2].getD 1 0,[p1,p2].getD 2 0,[p1,p2].getD 3 0))]):=encL_snoc L ((s0,s1,s2,s3),([p1,p2].getD 0 0,[p1,p2].getD 1 0,[p1,p2].getD 2 0,[p1,p2].getD 3 0))
    cases j with
    |zero=>
     have hL0:L=[]:=List.eq_nil_of_length_eq_zero hLl;subst hL0;clear hid hsn hLl;refine zgo2 ?_;clear hRo hA hB;exact⟨m+100,m+7+1+5+1+1,⟨by omega,fun _=>by omega⟩,zholds⟩
    |succ j=>
     obtain⟨i1,i2⟩:=hid (by omega)
     clear hid hx;refine zgo2 ?_;clear hRo hA hB;exact⟨m+100,m+7+1+5+1+1,⟨by omega,fun _=>by omega⟩,zholds⟩
   |[p1,p2,p3],hpl,hpm=>
    replace hp4:K+3=st.length:=hp4
    replace hp5:(st.drop K).take 3=[p1,p2,p3]:=hp5
    have hT:((K:Int)+3-K).toNat=3:=by omega
    clear hpl hpm;have hpr:encL byteRow [p1,p2,p3]=[[uV p1],[uV p2],[uV p3]]:=rfl;have f1:Nat.min 4 8=4:=rfl;have f2:List.take 4 [[uV s0],[uV s1],[uV s2],[uV s3]]=[[uV s0],[uV s1],[uV s2],[uV s3]]:=rfl;have f3:[[uV s0],[uV s1],[uV s2],[uV s3]].flatten=[uV s0,uV s1,uV s2,uV s3]:=rfl;have f4:[uV s0,uV s1,uV s2,uV s3]++List.drop [uV s0,uV s1,uV s2,uV s3].length [uV 0,uV 0,uV 0,uV 0,uV 0,uV 0,uV 0,uV 0]=[uV s0,uV s1,uV s2,uV s3,uV 0,uV 0,uV 0,uV 0]:=rfl
    have f5:Nat.min 3 4=3:=rfl;have hx:encL encSec ([]++[((s0,s1,s2,s3),([p1,p2,p3].getD 0 0,[p1,p2,p3].getD 1 0,[p1,p2,p3].getD 2 0,[p1,p2,p3].getD 3 0))])=[[uV s0,uV s1,uV s2,uV s3,uV p1,uV p2,uV p3,uV 0]]:=rfl;have hsn:encL encSec L++[[uV s0,uV s1,uV s2,uV s3,uV p1,uV p2,uV p3,uV 0]]=encL encSec (L++[((s0,s1,s2,s3),([p1,p2,p3].getD 0 0,[p1,p2,p3].getD 1 0,[p1,p2,p3].getD 2 0,[p1,p2,p3].getD 3 0))]):=encL_snoc L ((s0,s1,s2,s3),([p1,p2,p3].getD 0 0,[p1,p2,p3].getD 1 0,[p1,p2,p3].getD 2 0,[p1,p2,p3].getD 3 0))
    cases j with
    |zero=>
     have hL0:L=[]:=List.eq_nil_of_length_eq_zero hLl;subst hL0;clear hid hsn hLl;refine zgo2 ?_;clear hRo hA hB;exact⟨m+100,m+7+1+5+1+1,⟨by omega,fun _=>by omega⟩,zholds⟩
    |succ j=>
     obtain⟨i1,i2⟩:=hid (by omega)
     clear hid hx;refine zgo2 ?_;clear hRo hA hB;exact⟨m+100,m+7+1+5+1+1,⟨by omega,fun _=>by omega⟩,zholds⟩
 ·obtain⟨hm,hid⟩:=hR
  have hnq:¬n*4<st.length:=by
   unfold nParts at hn;omega
  have hM':((List.range n).map F,(0:Int))=M:=by rw[←hM,hF,hn]
  clear hM;subst hM';simp only[];have hLl:((List.range n).map F).length=n:=by simp
  have hnb:n≤2000:=by
   unfold nParts at hn;omega
  clear hF hn;generalize n*4=K at*;generalize (List.range n).map F=L at*;cases n with
  |zero=>
   have hL0:L=[]:=List.eq_nil_of_length_eq_zero hLl;subst hL0;clear hid;refine zgo2 ?_;refine w_rfN (by(first|rfl|(simp(maxSteps:=2000000) (disch:=omega) only[go_sem, *];done)|(simp(maxSteps:=2000000) (disch:=omega) only[go_sem, *]<;>rfl)|fail)) ?_
   refine zgo2 ?_;exact zfin
  |succ j=>
   obtain⟨i1,i2⟩:=hid (by omega)
   have t1:L.take (j+1)=L:=List.take_of_length_le (by omega)
   clear hid;refine zgo2 ?_;refine w_rfN (by(first|rfl|(simp(maxSteps:=2000000) (disch:=omega) only[go_sem, *];done)|(simp(maxSteps:=2000000) (disch:=omega) only[go_sem, *]<;>rfl)|fail)) ?_
   refine zgo2 ?_;exact zfin
end Go.Proofs.YtioafciifiggaaaGreatDoor
