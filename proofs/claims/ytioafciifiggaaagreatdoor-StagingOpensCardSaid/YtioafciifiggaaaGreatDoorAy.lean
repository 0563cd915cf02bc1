/- Staging. No condition. -/
import Derived.Test.YtioafciifiggaaaGreatDoorL0
import Derived.Test.YtioafciifiggaaaGreatDoorAv
import Derived.Test.YtioafciifiggaaaGreatDoorAw
import Derived.Test.YtioafciifiggaaaGreatDoorAs
set_option linter.all false
namespace Go.Proofs.YtioafciifiggaaaGreatDoor
open Go.Proofs Go.AL
set_option maxRecDepth 100000
set_option maxHeartbeats 8000000
attribute [local irreducible] cB AW aX cZ dK hold
attribute [local irreducible] eV
theorem II(a c:Int):PC 87 [.agg [zV a,zV c]] (zV (IntKind.i64.wrap (c-16))):=by
 refine aT Tryz.func87 Tryz.ntmps87 (.c _) ?_;refine aE ?_;exact aB
theorem W9(a c p:Int):PC 109 [.agg [zV a,zV c],zV p] (zV (IntKind.i64.wrap (IntKind.i64.wrap (a+16)+p))):=by
 refine aT Tryz.func109 Tryz.ntmps109 (.c _) ?_;refine aE ?_;exact aB
theorem Ol(j:Jr)(u:Int)(h0:1<=j.first)(h1:j.first<=1073741824)(hl:j.cD.length<=100000):PC 85 [.agg (encS j u)] (zV (j.first+j.cD.length)):=by
 refine aT Tryz.func85 Tryz.ntmps85 (.c _) ?_;have w:=IntWalk.i64_in (j.first+j.cD.length) (by omega)
 unfold encS;refine aE ?_;exact aB
theorem Om(j:Jr)(u:Int)(h0:20<=j.count)(h1:j.count<=4096)(h2:0<=u)(h3:u<=4096):PC 58 [.agg (encS j u)] (zV (j.count-16-u)):=by
 refine aT Tryz.func58 Tryz.ntmps58 (.c _) ?_;have c1:=II j.start j.count;have w:=IntWalk.i64_in (j.count-16) (by omega)
 have w2:=IntWalk.i64_in (j.count-16-u) (by omega)
 rw[w]at c1;unfold encS;refine aE ?_;exact aB
theorem On(a c p:Int)(l:List aY)(h1:0<=a)(h2:a<=4096)(h3:20<=c)(h4:c<=4096)(h5:0<=p)(h6:p<c-16)(hl:l.length<=100000):rR Tryz.prog 103 [.agg [zV a,zV c],zV p,.snap (aA aQ l)] 100 3 (aA bC (FP a (c-16) p l)):=by
 refine L3 Tryz.func103 Tryz.ntmps103 (by simp only[go_sem]) (mN _) ?_
 have c1:=II a c;have c2:=W9 a c p;have c3:=W9 a c 0;rw[IntWalk.i64_in (c-16) (by omega)]at c1
 rw[IntWalk.i64_in (a+16) (by omega),IntWalk.i64_in (a+16+p) (by omega)]at c2
 rw[IntWalk.i64_in (a+16) (by omega),IntWalk.i64_in (a+16+0) (by omega)]at c3
 have w:=IntWalk.i64_in (c-16-p) (by omega)
 unfold FP;obtain⟨q,hq⟩:∃q:Nat,c-16-p=q:=⟨(c-16-p).toNat,by omega⟩
 rw[hq]at w⊢;rw[nC];by_cases g:(q:Int)<l.length
 ·rw[if_pos g]
  have g1:min (l.length:Int) q=q:=by omega
  have g2:¬(l.length:Int)<q:=by omega
  have r1:aA bC [(0,a+16+p,l.take q),(0,a+16,l.drop q)]=[[zV 0,zV (a+16+p),.snap (aA aQ (l.take q))],[zV 0,zV (a+16),.snap (aA aQ (l.drop q))]]:=rfl;rw[r1];have h0:a+16+0=a+16:=by omega
  rw[h0]at c3;have hd:(l.drop q).take (l.length-q)=l.drop q:=cR (by rw[fX];exact cA _)
  clear h0;refine aE ?_;exact⟨_,iT,iT⟩
 ·rw[if_neg g]
  have g1:min (l.length:Int) q=l.length:=by omega
  have r1:aA bC [(0,a+16+p,l)]=[[zV 0,zV (a+16+p),.snap (aA aQ l)]]:=rfl;rw[r1];have hd:l.take l.length=l:=l4;refine aE ?_;exact⟨_,iT,iT⟩
theorem Cd{dd n j:Nat}{A rows:List (List AV)}(h:A[j]? =some [.own dd 0 n])(hn:n=rows.length):IJ dd rows A (A.set j [.snap rows]):=by
 subst hn;refine⟨by simp,fun i r r' hr dD=> ?_⟩
 by_cases hi:i=j
 ·subst hi
  rw[h]at hr;injection hr with hr
  subst hr;rw[U9 (dS.1 h).1]at dD;injection dD with dD
  subst dD;refine⟨rfl,fun k a b ha hb=> ?_⟩
  match k with
  |0=>simp at ha hb;subst ha hb;exact .inr ⟨0,_,rfl,by simp,by simp⟩
  |k+1=>simp at ha
 ·rw[Z3 (fun h=>hi h.symm)]at dD
  rw[hr]at dD;injection dD with dD
  subst dD;refine⟨rfl,fun k x y hx hy=> ?_⟩
  rw[hx]at hy;injection hy with hy
  exact .inl hy
theorem Ce{dd n:Nat}{A B rows:List (List AV)}(h:A++[[.snap rows]]=B)(hn:n=rows.length):IJ dd rows (A++[[.own dd 0 n]]) B:=by
 have:=Cd (dd:=dd) (n:=n) (j:=A.length) (A:=A++[[.own dd 0 n]]) (rows:=rows) (by simp) hn
 rw[<-h];simpa using this
theorem aw0(k s:Int)(p:List Int)(hp:∀x∈p,aV x)(hl:p.length<=100000):PC 198 [.agg [zV k,zV s,.snap (aA aH p)]] (.aR [.snap (aA aQ (wE k s p).1),zV (wE k s p).2]):=by
 refine aT Tryz.func198 Tryz.ntmps198 (by simp only[go_sem]) ?_
 obtain⟨M,hM⟩:∃M,wE k s p=M:=⟨_,rfl⟩;rw[hM];unfold wE at hM;by_cases g1:k<1
 ·rw[if_pos (.inl g1)]at hM
  subst hM;refine aE ?_;exact aB
 by_cases g2:255<k
 ·rw[if_pos (.inr (.inl g2))]at hM
  subst hM;refine aE ?_;exact aB
 by_cases g3:s<1
 ·rw[if_pos (.inr (.inr (.inl g3)))]at hM
  subst hM;refine aE ?_;exact aB
 by_cases g4:4294967295<s
 ·rw[if_pos (.inr (.inr (.inr g4)))]at hM
  subst hM;refine aE ?_;exact aB
 rw[if_neg (by omega)]at hM
 by_cases g5:4096<p.length
 ·rw[if_pos g5]at hM
  subst hM;have uN:(4096:Int)<p.length:=by omega
  refine aE ?_;exact aB
 rw[if_neg g5]at hM;have uN:¬(4096:Int)<p.length:=by omega
 have hw:∀x∈qI k p,aV x:=fun x hx=>by
  unfold qI at hx;rcases BR.1 hx with h|h
  ·rcases fB.1 h with rfl|h
   ·unfold aV;omega
   ·exact Nz _ _ x h
  ·exact hp x h
 have Oo:(qI k p).length=3+p.length:=by unfold qI;simp only[cP,eI,I9]
 have c1:=au9 p.length (by omega) (by omega)
 have c2:=Q9 (qI k p) hw (by omega)
 have qG:=HR (qI k p);have w4:IntKind.i64.wrap (eO (qI k p))=eO (qI k p):=IntWalk.i64_in _ (by omega)
 have c3:=Od (eO (qI k p)) (by omega) (by omega)
 have c4:=Od s (by omega) (by omega)
 have hu:IntKind.u8.wrap k=k:=by rw[W4];omega
 have e1:[uV k]::aA aH (qH p.length 2)=aA aH (k::qH p.length 2):=rfl;have l1:(qH (p.length:Int) 2).length=2:=I9 _ _;have l2:(qH (eO (qI k p)) 4).length=4:=I9 _ _;have l3:(qH s 4).length=4:=I9 _ _;have e2:aA aH (k::qH p.length 2)++aA aH p=aA aH (qI k p):=FU _ _;have e3:aA aH (qI k p)++aA aH (qH (eO (qI k p)) 4)=aA aH (FN k p):=FU _ _
 have hgl:(FN k p).length=7+p.length:=by unfold FN;rw[cP,Oo,I9];omega
 have htw:(qI k p).take (3+p.length)=qI k p:=cR (by omega)
 generalize FN k p=st at*;generalize eO (qI k p)=cr at*;generalize qI k p=sw at*;clear hw hp qG;refine aE ?_;refine nS Tryz.func143 Tryz.ntmps143 ?_;refine aE ?_;refine sX 12 14 [[.snap (aA aH st)]] rfl rfl (by decide) (Cd (j:=0) rfl (by rw[fZ];omega)) ?_
 refine tI (env:=[(50,true,.fn (.func 195) [] [.ptr 14 0 0,.ptr 15 0 0]),(5,true,.ptr 13 0 0),(1,true,.ptr 0 0 0)]) (H:=⟨16,dH [(0,some (.cells 111 3 [[zV k,zV s,.snap (aA aH p)]] true false)),(13,some (.cells 22 1 [[.c (.slice none 0 0)]] true false)),(14,some (.cells 74 1 [[.snap (aA aH st)]] true false)),(15,some (.cells 3 1 [[zV 4]] true false))]⟩) (by(repeat (refine rV (by rfl) ?_));refine holds_nil (cA 16) ?_;(repeat (refine sO (by rfl) ?_));exact zY) ?_
 have QK:st.length<=4103:=by omega
 clear e1 e2 e3 c1 c2 c3 w4 hu l1 l2 l3 htw Oo g1 g2 g3 g4 g5 uN hgl;have Mi:aQ aO=[uV 0,uV 0,uV 0,uV 0,uV 0,uV 0,uV 0,uV 0]:=rfl;have h4:qH s 4=[s % 256,s/256 % 256,s/256/256 % 256,s/256/256/256 % 256]:=rfl;have Oq:aA aH [s % 256,s/256 % 256,s/256/256 % 256,s/256/256/256 % 256]=[[uV (s % 256)],[uV (s/256 % 256)],[uV (s/256/256 % 256)],[uV (s/256/256/256 % 256)]]:=rfl;have Ot:∀l:List Int,VX s l=((s % 256,s/256 % 256,s/256/256 % 256,s/256/256/256 % 256),(l.getD 0 0,l.getD 1 0,l.getD 2 0,l.getD 3 0)):=fun _=>rfl
 rw[h4,Oq]at c4;clear h4 Oq;refine L9 Tryz.func195 Tryz.ntmps195 (fun R A B fF hA hB=> ?_)
 refine aE ?_;obtain⟨F,hF⟩:∃F:Nat->aY,F=fun(i:Nat)=>VX s (kH st 4 i):=⟨_,rfl⟩
 obtain⟨n,hn⟩:∃n,xG st.length 4=n:=⟨_,rfl⟩;refine dP (α:=Nat) n (fun j id=> [(4,true,zV (j*4:Nat)),(2,true,.ptr 15 0 0),(1,true,.ptr 14 0 0),(0,true,.jF 16)]) (fun j id=>(0,some (.cells 111 3 [[zV k,zV s,.snap (aA aH p)]] true false))::(13,some (.cells 22 1 [[nG j id]] true false))::(14,some (.cells 74 1 [[.snap (aA aH st)]] true false))::(15,some (.cells 3 1 [[zV 4]] true false))::(16,some (.cJ R 65 [51] A B .ready none))::oB 124 8 (aA aQ ((List.range j).map F)) j id) (fun j m id=>17<=m/\(0<j->17<=id/\id<m)) ⟨100,0,⟨by omega,fun h=>absurd h (by omega)⟩,by rw[BQ];exact aN⟩ (fun j m id hj hR=> ?_) (fun m id hR=> ?_)
 ·obtain⟨hm,aC⟩:=hR
  have xT:j*4<st.length:=by
   unfold xG at hn;omega
  have DE:n<=2000:=by
   unfold xG at hn;omega
  have IK:(j+1)*4=j*4+4:=uB j 4;have xU:kH st 4 j=(st.drop (j*4)).take 4:=rfl;have QX:F j=VX s (kH st 4 j):=by rw[hF]
  have IL:((st.drop (j*4)).take (st.length-j*4)).length=st.length-j*4:=by rw[eD,fX,YT]
  have WA:(List.range (j+1)).map F=(List.range j).map F++[F j]:=by rw[HD,yO];rfl
  have nJ:((List.range j).map F).length=j:=by simp
  rw[WA,IK,QX,Ot];clear hF QX hM WA hn Ot;generalize s % 256=s0 at*;generalize s/256 % 256=s1 at*;generalize s/256/256 % 256=s2 at*;generalize s/256/256/256 % 256=s3 at*;generalize (List.range j).map F=L at*;by_cases g5:j*4+4<=st.length
  ·have g6:¬((st.length-j*4:Nat):Int)<4:=by omega
   have hT:(((j*4:Nat):Int)+4-(j*4:Nat)).toNat=4:=by omega
   have j9:(kH st 4 j).length=4:=by rw[xU,eD,fX];omega
   have IM:=xU.symm;clear xU;generalize kH st 4 j=pc at*;generalize j*4=K at*
   obtain⟨p1,p2,p3,p4,rfl⟩:∃a b c d,pc=[a,b,c,d]:=by
    match pc,j9 with
    |[a,b,c,d],_=>exact⟨a,b,c,d,rfl⟩
   have Cf:aA aH [p1,p2,p3,p4]=[[uV p1],[uV p2],[uV p3],[uV p4]]:=rfl;have f1:Nat.min 4 8=4:=rfl;have f2:List.take 4 [[uV s0],[uV s1],[uV s2],[uV s3]]=[[uV s0],[uV s1],[uV s2],[uV s3]]:=rfl;have f3:[[uV s0],[uV s1],[uV s2],[uV s3]].flatten=[uV s0,uV s1,uV s2,uV s3]:=rfl;have f4:[uV s0,uV s1,uV s2,uV s3]++List.drop [uV s0,uV s1,uV s2,uV s3].length [uV 0,uV 0,uV 0,uV 0,uV 0,uV 0,uV 0,uV 0]=[uV s0,uV s1,uV s2,uV s3,uV 0,uV 0,uV 0,uV 0]:=rfl
   have f5:Nat.min 4 4=4:=rfl;have hx:aA aQ ([]++[((s0,s1,s2,s3),([p1,p2,p3,p4].getD 0 0,[p1,p2,p3,p4].getD 1 0,[p1,p2,p3,p4].getD 2 0,[p1,p2,p3,p4].getD 3 0))])=[[uV s0,uV s1,uV s2,uV s3,uV p1,uV p2,uV p3,uV p4]]:=rfl;have fW:aA aQ L++[[uV s0,uV s1,uV s2,uV s3,uV p1,uV p2,uV p3,uV p4]]=aA aQ (L++[((s0,s1,s2,s3),([p1,p2,p3,p4].getD 0 0,[p1,p2,p3,p4].getD 1 0,[p1,p2,p3,p4].getD 2 0,[p1,p2,p3,p4].getD 3 0))]):=nR L ((s0,s1,s2,s3),([p1,p2,p3,p4].getD 0 0,[p1,p2,p3,p4].getD 1 0,[p1,p2,p3,p4].getD 2 0,[p1,p2,p3,p4].getD 3 0))
   cases j with
   |zero=>
    have kX:L=[]:=fI nJ;subst kX;clear aC fW nJ;refine aE ?_;clear fF hA hB;exact⟨m+100,m+7+1+5+1+1,⟨by omega,fun _=>by omega⟩,aN⟩
   |succ j=>
    obtain⟨i1,i2⟩:=aC (by omega)
    clear aC hx;refine aE ?_;clear fF hA hB;exact⟨m+100,m+7+1+5+1+1,⟨by omega,fun _=>by omega⟩,aN⟩
  ·have IM:(st.drop (j*4)).take (st.length-j*4)=kH st 4 j:=by
    rw[xU,cR (by rw[fX];exact cA _),cR (by rw[fX];omega)]
   have F5:(kH st 4 j).length=st.length-j*4:=by rw[<-IM,IL]
   have IN:j*4+(kH st 4 j).length=st.length:=by omega
   have j9:(kH st 4 j).length<4:=by omega
   have IP:0<(kH st 4 j).length:=by omega
   have IQ:(st.drop (j*4)).take (kH st 4 j).length=kH st 4 j:=by rw[F5];exact IM
   clear F5 xU;generalize kH st 4 j=pc at*;generalize j*4=K at*
   match pc,j9,IP with
   |[p1],j9,IP=>
    replace IN:K+1=st.length:=IN
    replace IQ:(st.drop K).take 1=[p1]:=IQ
    have hT:((K:Int)+1-K).toNat=1:=by omega
    clear j9 IP;have Cf:aA aH [p1]=[[uV p1]]:=rfl;have f1:Nat.min 4 8=4:=rfl;have f2:List.take 4 [[uV s0],[uV s1],[uV s2],[uV s3]]=[[uV s0],[uV s1],[uV s2],[uV s3]]:=rfl;have f3:[[uV s0],[uV s1],[uV s2],[uV s3]].flatten=[uV s0,uV s1,uV s2,uV s3]:=rfl;have f4:[uV s0,uV s1,uV s2,uV s3]++List.drop [uV s0,uV s1,uV s2,uV s3].length [uV 0,uV 0,uV 0,uV 0,uV 0,uV 0,uV 0,uV 0]=[uV s0,uV s1,uV s2,uV s3,uV 0,uV 0,uV 0,uV 0]:=rfl
    have f5:Nat.min 1 4=1:=rfl;have hx:aA aQ ([]++[((s0,s1,s2,s3),([p1].getD 0 0,[p1].getD 1 0,[p1].getD 2 0,[p1].getD 3 0))])=[[uV s0,uV s1,uV s2,uV s3,uV p1,uV 0,uV 0,uV 0]]:=rfl;have fW:aA aQ L++[[uV s0,uV s1,uV s2,uV s3,uV p1,uV 0,uV 0,uV 0]]=aA aQ (L++[((s0,s1,s2,s3),([p1].getD 0 0,[p1].getD 1 0,[p1].getD 2 0,[p1].getD 3 0))]):=nR L ((s0,s1,s2,s3),([p1].getD 0 0,[p1].getD 1 0,[p1].getD 2 0,[p1].getD 3 0))
    cases j with
    |zero=>
     have kX:L=[]:=fI nJ;subst kX;clear aC fW nJ;refine aE ?_;clear fF hA hB;exact⟨m+100,m+7+1+5+1+1,⟨by omega,fun _=>by omega⟩,aN⟩
    |succ j=>
     obtain⟨i1,i2⟩:=aC (by omega)
     clear aC hx;refine aE ?_;clear fF hA hB;exact⟨m+100,m+7+1+5+1+1,⟨by omega,fun _=>by omega⟩,aN⟩
   |[p1,p2],j9,IP=>
    replace IN:K+2=st.length:=IN
    replace IQ:(st.drop K).take 2=[p1,p2]:=IQ
    have hT:((K:Int)+2-K).toNat=2:=by omega
    clear j9 IP;have Cf:aA aH [p1,p2]=[[uV p1],[uV p2]]:=rfl;have f1:Nat.min 4 8=4:=rfl;have f2:List.take 4 [[uV s0],[uV s1],[uV s2],[uV s3]]=[[uV s0],[uV s1],[uV s2],[uV s3]]:=rfl;have f3:[[uV s0],[uV s1],[uV s2],[uV s3]].flatten=[uV s0,uV s1,uV s2,uV s3]:=rfl;have f4:[uV s0,uV s1,uV s2,uV s3]++List.drop [uV s0,uV s1,uV s2,uV s3].length [uV 0,uV 0,uV 0,uV 0,uV 0,uV 0,uV 0,uV 0]=[uV s0,uV s1,uV s2,uV s3,uV 0,uV 0,uV 0,uV 0]:=rfl
    have f5:Nat.min 2 4=2:=rfl;have hx:aA aQ ([]++[((s0,s1,s2,s3),([p1,p2].getD 0 0,[p1,p2].getD 1 0,[p1,p2].getD 2 0,[p1,p2].getD 3 0))])=[[uV s0,uV s1,uV s2,uV s3,uV p1,uV p2,uV 0,uV 0]]:=rfl;have fW:aA aQ L++[[uV s0,uV s1,uV s2,uV s3,uV p1,uV p2,uV 0,uV 0]]=aA aQ (L++[((s0,s1,s2,s3),([p1,p2].getD 0 0,[p1,p2].getD 1 0,[p1,p2].getD 2 0,[p1,p2].getD 3 0))]):=nR L ((s0,s1,s2,s3),([p1,p2].getD 0 0,[p1,p2].getD 1 0,[p1,p2].getD 2 0,[p1,p2].getD 3 0))
    cases j with
    |zero=>
     have kX:L=[]:=fI nJ;subst kX;clear aC fW nJ;refine aE ?_;clear fF hA hB;exact⟨m+100,m+7+1+5+1+1,⟨by omega,fun _=>by omega⟩,aN⟩
    |succ j=>
     obtain⟨i1,i2⟩:=aC (by omega)
     clear aC hx;refine aE ?_;clear fF hA hB;exact⟨m+100,m+7+1+5+1+1,⟨by omega,fun _=>by omega⟩,aN⟩
   |[p1,p2,p3],j9,IP=>
    replace IN:K+3=st.length:=IN
    replace IQ:(st.drop K).take 3=[p1,p2,p3]:=IQ
    have hT:((K:Int)+3-K).toNat=3:=by omega
    clear j9 IP;have Cf:aA aH [p1,p2,p3]=[[uV p1],[uV p2],[uV p3]]:=rfl;have f1:Nat.min 4 8=4:=rfl;have f2:List.take 4 [[uV s0],[uV s1],[uV s2],[uV s3]]=[[uV s0],[uV s1],[uV s2],[uV s3]]:=rfl;have f3:[[uV s0],[uV s1],[uV s2],[uV s3]].flatten=[uV s0,uV s1,uV s2,uV s3]:=rfl;have f4:[uV s0,uV s1,uV s2,uV s3]++List.drop [uV s0,uV s1,uV s2,uV s3].length [uV 0,uV 0,uV 0,uV 0,uV 0,uV 0,uV 0,uV 0]=[uV s0,uV s1,uV s2,uV s3,uV 0,uV 0,uV 0,uV 0]:=rfl
    have f5:Nat.min 3 4=3:=rfl;have hx:aA aQ ([]++[((s0,s1,s2,s3),([p1,p2,p3].getD 0 0,[p1,p2,p3].getD 1 0,[p1,p2,p3].getD 2 0,[p1,p2,p3].getD 3 0))])=[[uV s0,uV s1,uV s2,uV s3,uV p1,uV p2,uV p3,uV 0]]:=rfl;have fW:aA aQ L++[[uV s0,uV s1,uV s2,uV s3,uV p1,uV p2,uV p3,uV 0]]=aA aQ (L++[((s0,s1,s2,s3),([p1,p2,p3].getD 0 0,[p1,p2,p3].getD 1 0,[p1,p2,p3].getD 2 0,[p1,p2,p3].getD 3 0))]):=nR L ((s0,s1,s2,s3),([p1,p2,p3].getD 0 0,[p1,p2,p3].getD 1 0,[p1,p2,p3].getD 2 0,[p1,p2,p3].getD 3 0))
    cases j with
    |zero=>
     have kX:L=[]:=fI nJ;subst kX;clear aC fW nJ;refine aE ?_;clear fF hA hB;exact⟨m+100,m+7+1+5+1+1,⟨by omega,fun _=>by omega⟩,aN⟩
    |succ j=>
     obtain⟨i1,i2⟩:=aC (by omega)
     clear aC hx;refine aE ?_;clear fF hA hB;exact⟨m+100,m+7+1+5+1+1,⟨by omega,fun _=>by omega⟩,aN⟩
 ·obtain⟨hm,aC⟩:=hR
  have hnq:¬n*4<st.length:=by
   unfold xG at hn;omega
  have Cg:((List.range n).map F,(0:Int))=M:=by rw[<-hM,hF,hn]
  clear hM;subst Cg;simp only[];have nJ:((List.range n).map F).length=n:=by simp
  have DE:n<=2000:=by
   unfold xG at hn;omega
  clear hF hn;generalize n*4=K at*;generalize (List.range n).map F=L at*;cases n with
  |zero=>
   have kX:L=[]:=fI nJ;subst kX;clear aC;refine aE ?_;refine FV (by(first|rfl|exact m5|(simp(maxSteps:=2000000) (disch:=omega) only[go_sem, *]<;>rfl)|fail)) ?_
   refine aE ?_;exact aB
  |succ j=>
   obtain⟨i1,i2⟩:=aC (by omega)
   have t1:L.take (j+1)=L:=cR (by omega)
   clear aC;refine aE ?_;refine FV (by(first|rfl|exact m5|(simp(maxSteps:=2000000) (disch:=omega) only[go_sem, *]<;>rfl)|fail)) ?_
   refine aE ?_;exact aB
end Go.Proofs.YtioafciifiggaaaGreatDoor
