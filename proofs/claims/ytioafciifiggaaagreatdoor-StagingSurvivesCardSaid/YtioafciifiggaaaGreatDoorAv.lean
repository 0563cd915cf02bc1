/- Staging. No condition. -/
import Derived.Test.YtioafciifiggaaaGreatDoorL0
import Derived.Test.YtioafciifiggaaaGreatDoorAu
import Derived.Test.YtioafciifiggaaaGreatDoorAr
set_option linter.all false
namespace Go.Proofs.YtioafciifiggaaaGreatDoor
open Go.Proofs Go.AL
set_option maxRecDepth 100000
set_option maxHeartbeats 8000000
attribute [local irreducible] cH AW b9 dR eH hold
attribute [local irreducible] jI
theorem ab8{dd n j:Nat}{A rows:List (List AV)}(h:A[j]? =some [.own dd 0 n])(hn:n=rows.length):LI dd rows A (A.set j [.snap rows]):=by
 subst hn;refine⟨by simp,fun i r r' hr cZ=> ?_⟩
 by_cases hi:i=j
 ·subst hi
  rw[h]at hr;injection hr with hr
  subst hr;rw[YZ (dV.1 h).1]at cZ;injection cZ with cZ
  subst cZ;refine⟨rfl,fun k a b ha hb=> ?_⟩
  match k with
  |0=>simp at ha hb;subst ha hb;exact .inr ⟨0,_,rfl,by simp,by simp⟩
  |k+1=>simp at ha
 ·rw[O6 (fun h=>hi h.symm)]at cZ
  rw[hr]at cZ;injection cZ with cZ
  subst cZ;refine⟨rfl,fun k x y hx hy=> ?_⟩
  rw[hx]at hy;injection hy with hy
  exact .inl hy
theorem Kl{dd n:Nat}{A B rows:List (List AV)}(h:A++[[.snap rows]]=B)(hn:n=rows.length):LI dd rows (A++[[.own dd 0 n]]) B:=by
 have:=ab8 (dd:=dd) (n:=n) (j:=A.length) (A:=A++[[.own dd 0 n]]) (rows:=rows) (by simp) hn
 rw[<-h];simpa using this
theorem bk9(k s:Int)(p:List Int)(hp:∀x∈p,aV x)(hl:p.length<=100000):PC 198 [.agg [zV k,zV s,.snap (aA aN p)]] (.aU [.snap (aA aS (tB k s p).1),zV (tB k s p).2]):=by
 refine bI Tryz.func198 Tryz.ntmps198 (by simp only[go_sem]) ?_
 obtain⟨M,hM⟩:∃M,tB k s p=M:=⟨_,rfl⟩;rw[hM];unfold tB at hM;by_cases g1:k<1
 ·rw[if_pos (.inl g1)]at hM
  subst hM;refine aD ?_;exact aC
 by_cases g2:255<k
 ·rw[if_pos (.inr (.inl g2))]at hM
  subst hM;refine aD ?_;exact aC
 by_cases g3:s<1
 ·rw[if_pos (.inr (.inr (.inl g3)))]at hM
  subst hM;refine aD ?_;exact aC
 by_cases g4:4294967295<s
 ·rw[if_pos (.inr (.inr (.inr g4)))]at hM
  subst hM;refine aD ?_;exact aC
 rw[if_neg (by omega)]at hM
 by_cases g5:4096<p.length
 ·rw[if_pos g5]at hM
  subst hM;have DD:(4096:Int)<p.length:=by omega
  refine aD ?_;exact aC
 rw[if_neg g5]at hM;have DD:¬(4096:Int)<p.length:=by omega
 have hw:∀x∈mN k p,aV x:=fun x hx=>by
  unfold mN at hx;rcases lS.1 hx with h|h
  ·rcases cG.1 h with rfl|h
   ·unfold aV;omega
   ·exact Bf _ _ x h
  ·exact hp x h
 have Ag:(mN k p).length=3+p.length:=by unfold mN;simp only[bP,dK,GV]
 have c1:=bk3 p.length (by omega) (by omega)
 have c2:=V4 (mN k p) hw (by omega)
 have wN:=KV (mN k p);have w4:IntKind.i64.wrap (fV (mN k p))=fV (mN k p):=IntWalk.i64_in _ (by omega)
 have c3:=aa7 (fV (mN k p)) (by omega) (by omega)
 have c4:=aa7 s (by omega) (by omega)
 have hu:IntKind.u8.wrap k=k:=by rw[VL];omega
 have e1:[uV k]::aA aN (qH p.length 2)=aA aN (k::qH p.length 2):=rfl;have l1:(qH (p.length:Int) 2).length=2:=GV _ _;have l2:(qH (fV (mN k p)) 4).length=4:=GV _ _;have l3:(qH s 4).length=4:=GV _ _;have e2:aA aN (k::qH p.length 2)++aA aN p=aA aN (mN k p):=LH _ _;have e3:aA aN (mN k p)++aA aN (qH (fV (mN k p)) 4)=aA aN (fS k p):=LH _ _
 have GI:(fS k p).length=7+p.length:=by unfold fS;rw[bP,Ag,GV];omega
 have htw:(mN k p).take (3+p.length)=mN k p:=eD (by omega)
 generalize fS k p=st at*;generalize fV (mN k p)=cr at*;generalize mN k p=sw at*;clear hw hp wN;refine aD ?_;refine kA Tryz.func143 Tryz.ntmps143 ?_;refine aD ?_;refine C4 12 14 [[.snap (aA aN st)]] rfl rfl (by decide) (ab8 (j:=0) rfl (by rw[mH];omega)) ?_
 refine BG (env:=[(50,true,.fn (.func 195) [] [.ptr 14 0 0,.ptr 15 0 0]),(5,true,.ptr 13 0 0),(1,true,.ptr 0 0 0)]) (H:=⟨16,cV [(0,some (.cells 111 3 [[zV k,zV s,.snap (aA aN p)]] true false)),(13,some (.cells 22 1 [[.c (.slice none 0 0)]] true false)),(14,some (.cells 74 1 [[.snap (aA aN st)]] true false)),(15,some (.cells 3 1 [[zV 4]] true false))]⟩) (by(repeat (refine uG (by rfl) ?_));refine holds_nil (cE 16) ?_;(repeat (refine sQ (by rfl) ?_));exact BH) ?_
 have KP:st.length<=4103:=by omega
 clear e1 e2 e3 c1 c2 c3 w4 hu l1 l2 l3 htw Ag g1 g2 g3 g4 g5 DD GI;have Jd:aS aE=[uV 0,uV 0,uV 0,uV 0,uV 0,uV 0,uV 0,uV 0]:=rfl;have h4:qH s 4=[s % 256,s/256 % 256,s/256/256 % 256,s/256/256/256 % 256]:=rfl;have h4r:aA aN [s % 256,s/256 % 256,s/256/256 % 256,s/256/256/256 % 256]=[[uV (s % 256)],[uV (s/256 % 256)],[uV (s/256/256 % 256)],[uV (s/256/256/256 % 256)]]:=rfl;have hsN:∀l:List Int,sK s l=((s % 256,s/256 % 256,s/256/256 % 256,s/256/256/256 % 256),(l.getD 0 0,l.getD 1 0,l.getD 2 0,l.getD 3 0)):=fun _=>rfl
 rw[h4,h4r]at c4;clear h4 h4r;refine OI Tryz.func195 Tryz.ntmps195 (fun R A B m6 hA hB=> ?_)
 refine aD ?_;obtain⟨F,hF⟩:∃F:Nat->aH,F=fun(i:Nat)=>sK s (iJ st 4 i):=⟨_,rfl⟩
 obtain⟨n,hn⟩:∃n,sY st.length 4=n:=⟨_,rfl⟩;refine fK (α:=Nat) n (fun j id=> [(4,true,zV (j*4:Nat)),(2,true,.ptr 15 0 0),(1,true,.ptr 14 0 0),(0,true,.kH 16)]) (fun j id=>(0,some (.cells 111 3 [[zV k,zV s,.snap (aA aN p)]] true false))::(13,some (.cells 22 1 [[uO j id]] true false))::(14,some (.cells 74 1 [[.snap (aA aN st)]] true false))::(15,some (.cells 3 1 [[zV 4]] true false))::(16,some (.cO R 65 [51] A B .ready none))::wM 124 8 (aA aS ((List.range j).map F)) j id) (fun j m id=>17<=m/\(0<j->17<=id/\id<m)) ⟨100,0,⟨by omega,fun h=>absurd h (by omega)⟩,by rw[CN];exact aT⟩ (fun j m id hj hR=> ?_) (fun m id hR=> ?_)
 ·obtain⟨hm,aB⟩:=hR
  have qU:j*4<st.length:=by
   unfold sY at hn;omega
  have A7:n<=2000:=by
   unfold sY at hn;omega
  have GX:(j+1)*4=j*4+4:=vG j 4;have AJ:iJ st 4 j=(st.drop (j*4)).take 4:=rfl;have VP:F j=sK s (iJ st 4 j):=by rw[hF]
  have EX:((st.drop (j*4)).take (st.length-j*4)).length=st.length-j*4:=by rw[cU,eF,YW]
  have PK:(List.range (j+1)).map F=(List.range j).map F++[F j]:=by rw[yK,vY];rfl
  have pO:((List.range j).map F).length=j:=by simp
  rw[PK,GX,VP,hsN];clear hF VP hM PK hn hsN;generalize s % 256=s0 at*;generalize s/256 % 256=s1 at*;generalize s/256/256 % 256=s2 at*;generalize s/256/256/256 % 256=s3 at*;generalize (List.range j).map F=L at*;by_cases g5:j*4+4<=st.length
  ·have g6:¬((st.length-j*4:Nat):Int)<4:=by omega
   have hT:(((j*4:Nat):Int)+4-(j*4:Nat)).toNat=4:=by omega
   have lQ:(iJ st 4 j).length=4:=by rw[AJ,cU,eF];omega
   have LJ:=AJ.symm;clear AJ;generalize iJ st 4 j=pc at*;generalize j*4=K at*
   obtain⟨p1,p2,p3,p4,rfl⟩:∃a b c d,pc=[a,b,c,d]:=by
    match pc,lQ with
    |[a,b,c,d],_=>exact⟨a,b,c,d,rfl⟩
   have DM:aA aN [p1,p2,p3,p4]=[[uV p1],[uV p2],[uV p3],[uV p4]]:=rfl;have f1:Nat.min 4 8=4:=rfl;have f2:List.take 4 [[uV s0],[uV s1],[uV s2],[uV s3]]=[[uV s0],[uV s1],[uV s2],[uV s3]]:=rfl;have f3:[[uV s0],[uV s1],[uV s2],[uV s3]].flatten=[uV s0,uV s1,uV s2,uV s3]:=rfl;have f4:[uV s0,uV s1,uV s2,uV s3]++List.drop [uV s0,uV s1,uV s2,uV s3].length [uV 0,uV 0,uV 0,uV 0,uV 0,uV 0,uV 0,uV 0]=[uV s0,uV s1,uV s2,uV s3,uV 0,uV 0,uV 0,uV 0]:=rfl
   have f5:Nat.min 4 4=4:=rfl;have hx:aA aS ([]++[((s0,s1,s2,s3),([p1,p2,p3,p4].getD 0 0,[p1,p2,p3,p4].getD 1 0,[p1,p2,p3,p4].getD 2 0,[p1,p2,p3,p4].getD 3 0))])=[[uV s0,uV s1,uV s2,uV s3,uV p1,uV p2,uV p3,uV p4]]:=rfl;have jS:aA aS L++[[uV s0,uV s1,uV s2,uV s3,uV p1,uV p2,uV p3,uV p4]]=aA aS (L++[((s0,s1,s2,s3),([p1,p2,p3,p4].getD 0 0,[p1,p2,p3,p4].getD 1 0,[p1,p2,p3,p4].getD 2 0,[p1,p2,p3,p4].getD 3 0))]):=sP L ((s0,s1,s2,s3),([p1,p2,p3,p4].getD 0 0,[p1,p2,p3,p4].getD 1 0,[p1,p2,p3,p4].getD 2 0,[p1,p2,p3,p4].getD 3 0))
   cases j with
   |zero=>
    have mS:L=[]:=jQ pO;subst mS;clear aB jS pO;refine aD ?_;clear m6 hA hB;exact⟨m+100,m+7+1+5+1+1,⟨by omega,fun _=>by omega⟩,aT⟩
   |succ j=>
    obtain⟨i1,i2⟩:=aB (by omega)
    clear aB hx;refine aD ?_;clear m6 hA hB;exact⟨m+100,m+7+1+5+1+1,⟨by omega,fun _=>by omega⟩,aT⟩
  ·have LJ:(st.drop (j*4)).take (st.length-j*4)=iJ st 4 j:=by
    rw[AJ,eD (by rw[eF];exact cE _),eD (by rw[eF];omega)]
   have VQ:(iJ st 4 j).length=st.length-j*4:=by rw[<-LJ,EX]
   have LK:j*4+(iJ st 4 j).length=st.length:=by omega
   have lQ:(iJ st 4 j).length<4:=by omega
   have LL:0<(iJ st 4 j).length:=by omega
   have LM:(st.drop (j*4)).take (iJ st 4 j).length=iJ st 4 j:=by rw[VQ];exact LJ
   clear VQ AJ;generalize iJ st 4 j=pc at*;generalize j*4=K at*
   match pc,lQ,LL with
   |[p1],lQ,LL=>
    replace LK:K+1=st.length:=LK
    replace LM:(st.drop K).take 1=[p1]:=LM
    have hT:((K:Int)+1-K).toNat=1:=by omega
    clear lQ LL;have DM:aA aN [p1]=[[uV p1]]:=rfl;have f1:Nat.min 4 8=4:=rfl;have f2:List.take 4 [[uV s0],[uV s1],[uV s2],[uV s3]]=[[uV s0],[uV s1],[uV s2],[uV s3]]:=rfl;have f3:[[uV s0],[uV s1],[uV s2],[uV s3]].flatten=[uV s0,uV s1,uV s2,uV s3]:=rfl;have f4:[uV s0,uV s1,uV s2,uV s3]++List.drop [uV s0,uV s1,uV s2,uV s3].length [uV 0,uV 0,uV 0,uV 0,uV 0,uV 0,uV 0,uV 0]=[uV s0,uV s1,uV s2,uV s3,uV 0,uV 0,uV 0,uV 0]:=rfl
    have f5:Nat.min 1 4=1:=rfl;have hx:aA aS ([]++[((s0,s1,s2,s3),([p1].getD 0 0,[p1].getD 1 0,[p1].getD 2 0,[p1].getD 3 0))])=[[uV s0,uV s1,uV s2,uV s3,uV p1,uV 0,uV 0,uV 0]]:=rfl;have jS:aA aS L++[[uV s0,uV s1,uV s2,uV s3,uV p1,uV 0,uV 0,uV 0]]=aA aS (L++[((s0,s1,s2,s3),([p1].getD 0 0,[p1].getD 1 0,[p1].getD 2 0,[p1].getD 3 0))]):=sP L ((s0,s1,s2,s3),([p1].getD 0 0,[p1].getD 1 0,[p1].getD 2 0,[p1].getD 3 0))
    cases j with
    |zero=>
     have mS:L=[]:=jQ pO;subst mS;clear aB jS pO;refine aD ?_;clear m6 hA hB;exact⟨m+100,m+7+1+5+1+1,⟨by omega,fun _=>by omega⟩,aT⟩
    |succ j=>
     obtain⟨i1,i2⟩:=aB (by omega)
     clear aB hx;refine aD ?_;clear m6 hA hB;exact⟨m+100,m+7+1+5+1+1,⟨by omega,fun _=>by omega⟩,aT⟩
   |[p1,p2],lQ,LL=>
    replace LK:K+2=st.length:=LK
    replace LM:(st.drop K).take 2=[p1,p2]:=LM
    have hT:((K:Int)+2-K).toNat=2:=by omega
    clear lQ LL;have DM:aA aN [p1,p2]=[[uV p1],[uV p2]]:=rfl;have f1:Nat.min 4 8=4:=rfl;have f2:List.take 4 [[uV s0],[uV s1],[uV s2],[uV s3]]=[[uV s0],[uV s1],[uV s2],[uV s3]]:=rfl;have f3:[[uV s0],[uV s1],[uV s2],[uV s3]].flatten=[uV s0,uV s1,uV s2,uV s3]:=rfl;have f4:[uV s0,uV s1,uV s2,uV s3]++List.drop [uV s0,uV s1,uV s2,uV s3].length [uV 0,uV 0,uV 0,uV 0,uV 0,uV 0,uV 0,uV 0]=[uV s0,uV s1,uV s2,uV s3,uV 0,uV 0,uV 0,uV 0]:=rfl
    have f5:Nat.min 2 4=2:=rfl;have hx:aA aS ([]++[((s0,s1,s2,s3),([p1,p2].getD 0 0,[p1,p2].getD 1 0,[p1,p2].getD 2 0,[p1,p2].getD 3 0))])=[[uV s0,uV s1,uV s2,uV s3,uV p1,uV p2,uV 0,uV 0]]:=rfl;have jS:aA aS L++[[uV s0,uV s1,uV s2,uV s3,uV p1,uV p2,uV 0,uV 0]]=aA aS (L++[((s0,s1,s2,s3),([p1,p2].getD 0 0,[p1,p2].getD 1 0,[p1,p2].getD 2 0,[p1,p2].getD 3 0))]):=sP L ((s0,s1,s2,s3),([p1,p2].getD 0 0,[p1,p2].getD 1 0,[p1,p2].getD 2 0,[p1,p2].getD 3 0))
    cases j with
    |zero=>
     have mS:L=[]:=jQ pO;subst mS;clear aB jS pO;refine aD ?_;clear m6 hA hB;exact⟨m+100,m+7+1+5+1+1,⟨by omega,fun _=>by omega⟩,aT⟩
    |succ j=>
     obtain⟨i1,i2⟩:=aB (by omega)
     clear aB hx;refine aD ?_;clear m6 hA hB;exact⟨m+100,m+7+1+5+1+1,⟨by omega,fun _=>by omega⟩,aT⟩
   |[p1,p2,p3],lQ,LL=>
    replace LK:K+3=st.length:=LK
    replace LM:(st.drop K).take 3=[p1,p2,p3]:=LM
    have hT:((K:Int)+3-K).toNat=3:=by omega
    clear lQ LL;have DM:aA aN [p1,p2,p3]=[[uV p1],[uV p2],[uV p3]]:=rfl;have f1:Nat.min 4 8=4:=rfl;have f2:List.take 4 [[uV s0],[uV s1],[uV s2],[uV s3]]=[[uV s0],[uV s1],[uV s2],[uV s3]]:=rfl;have f3:[[uV s0],[uV s1],[uV s2],[uV s3]].flatten=[uV s0,uV s1,uV s2,uV s3]:=rfl;have f4:[uV s0,uV s1,uV s2,uV s3]++List.drop [uV s0,uV s1,uV s2,uV s3].length [uV 0,uV 0,uV 0,uV 0,uV 0,uV 0,uV 0,uV 0]=[uV s0,uV s1,uV s2,uV s3,uV 0,uV 0,uV 0,uV 0]:=rfl
    have f5:Nat.min 3 4=3:=rfl;have hx:aA aS ([]++[((s0,s1,s2,s3),([p1,p2,p3].getD 0 0,[p1,p2,p3].getD 1 0,[p1,p2,p3].getD 2 0,[p1,p2,p3].getD 3 0))])=[[uV s0,uV s1,uV s2,uV s3,uV p1,uV p2,uV p3,uV 0]]:=rfl;have jS:aA aS L++[[uV s0,uV s1,uV s2,uV s3,uV p1,uV p2,uV p3,uV 0]]=aA aS (L++[((s0,s1,s2,s3),([p1,p2,p3].getD 0 0,[p1,p2,p3].getD 1 0,[p1,p2,p3].getD 2 0,[p1,p2,p3].getD 3 0))]):=sP L ((s0,s1,s2,s3),([p1,p2,p3].getD 0 0,[p1,p2,p3].getD 1 0,[p1,p2,p3].getD 2 0,[p1,p2,p3].getD 3 0))
    cases j with
    |zero=>
     have mS:L=[]:=jQ pO;subst mS;clear aB jS pO;refine aD ?_;clear m6 hA hB;exact⟨m+100,m+7+1+5+1+1,⟨by omega,fun _=>by omega⟩,aT⟩
    |succ j=>
     obtain⟨i1,i2⟩:=aB (by omega)
     clear aB hx;refine aD ?_;clear m6 hA hB;exact⟨m+100,m+7+1+5+1+1,⟨by omega,fun _=>by omega⟩,aT⟩
 ·obtain⟨hm,aB⟩:=hR
  have hnq:¬n*4<st.length:=by
   unfold sY at hn;omega
  have wL:((List.range n).map F,(0:Int))=M:=by rw[<-hM,hF,hn]
  clear hM;subst wL;simp only[];have pO:((List.range n).map F).length=n:=by simp
  have A7:n<=2000:=by
   unfold sY at hn;omega
  clear hF hn;generalize n*4=K at*;generalize (List.range n).map F=L at*;cases n with
  |zero=>
   have mS:L=[]:=jQ pO;subst mS;clear aB;refine aD ?_;refine IY (by(first|rfl|exact nY|(simp(maxSteps:=2000000) (disch:=omega) only[go_sem, *]<;>rfl)|fail)) ?_
   refine aD ?_;exact aC
  |succ j=>
   obtain⟨i1,i2⟩:=aB (by omega)
   have t1:L.take (j+1)=L:=eD (by omega)
   clear aB;refine aD ?_;refine IY (by(first|rfl|exact nY|(simp(maxSteps:=2000000) (disch:=omega) only[go_sem, *]<;>rfl)|fail)) ?_
   refine aD ?_;exact aC
end Go.Proofs.YtioafciifiggaaaGreatDoor
