/- Target: contracts of its functions (Av). No condition but those named. -/
import Derived.Test.YtpaomccedbjknaaGreatDoorAu
set_option linter.all false
namespace Go.Proofs.YtpaomccedbjknaaGreatDoor
open Go.Proofs Go.AL Tryz
set_option maxRecDepth 100000
set_option maxHeartbeats 8000000
attribute [local irreducible] bT AW b8 cF dB hold
attribute [local irreducible] iX
theorem QM(a c:Int):PC 158 [.agg [zV a,zV c]] (zV (IntKind.i64.wrap (c-16))):=by
 refine aZ func158 ntmps158 (.c _) ?_;exact zE
theorem Pj(a c p:Int):PC 228 [.agg [zV a,zV c],zV p] (zV (IntKind.i64.wrap (IntKind.i64.wrap (a+16)+p))):=by
 refine aZ func228 ntmps228 (.c _) ?_;exact zE
theorem Pk(j:Jr)(u:Int)(h0:1<=j.first)(h1:j.first<=1073741824)(hl:j.aR.length<=100000):PC 190 [.agg (encS j u)] (zV (j.first+j.aR.length)):=by
 refine aZ func190 ntmps190 (.c _) ?_;have w:=IntWalk.i64_in (j.first+j.aR.length) oM
 unfold encS;exact zE
theorem aD0(j:Jr)(u:Int)(h0:20<=j.count)(h1:j.count<=4096)(h2:0<=u)(h3:u<=4096):PC 241 [.agg (encS j u)] (zV (j.count-16-u)):=by
 refine aZ func241 ntmps241 (.c _) ?_;have c1:=QM j.start j.count;have w:=IntWalk.i64_in (j.count-16) oM
 have w2:=IntWalk.i64_in (j.count-16-u) oM
 rw[w]at c1;unfold encS;exact zE
theorem Pm(a c p:Int)(l:List aQ)(h1:0<=a)(h2:a<=4096)(h3:20<=c)(h4:c<=4096)(h5:0<=p)(h6:p<c-16)(hl:l.length<=100000):r5 prog 157 [.agg [zV a,zV c],zV p,.snap (aB aP l)] 105 3 (aB aH (FH a (c-16) p l)):=by
 refine EU func157 ntmps157 (by simp only[go_sem]) (oN _) ?_
 have c1:=QM a c;have c2:=Pj a c p;have c3:=Pj a c 0;rw[IntWalk.i64_in (c-16) oM]at c1
 rw[IntWalk.i64_in (a+16) oM,IntWalk.i64_in (a+16+p) oM]at c2
 rw[IntWalk.i64_in (a+16) oM,IntWalk.i64_in (a+16+0) oM]at c3
 have w:=IntWalk.i64_in (c-16-p) oM
 unfold FH;obtain⟨q,hq⟩:∃q:Nat,c-16-p=q:=⟨(c-16-p).toNat,oM⟩
 rw[hq]at w⊢;rw[sY];by_cases g:(q:Int)<l.length
 ·rw[if_pos g]
  have g1:min (l.length:Int) q=q:=oM
  have g2:¬(l.length:Int)<q:=oM
  have r1:aB aH [(0,a+16+p,l.take q),(0,a+16,l.drop q)]=[[zV 0,zV (a+16+p),.snap (aB aP (l.take q))],[zV 0,zV (a+16),.snap (aB aP (l.drop q))]]:=rfl;rw[r1];have h0:a+16+0=a+16:=oM
  rw[h0]at c3;have hd:(l.drop q).take (l.length-q)=l.drop q:=cN (by rw[kR];exact cA _)
  clear h0;refine aE ?_;exact⟨_,eN,eN⟩
 ·rw[if_neg g]
  have g1:min (l.length:Int) q=l.length:=oM
  have r1:aB aH [(0,a+16+p,l)]=[[zV 0,zV (a+16+p),.snap (aB aP l)]]:=rfl;rw[r1];have hd:l.take l.length=l:=gP;refine aE ?_;exact⟨_,eN,eN⟩
theorem Pn{dd n j:Nat}{A rows:List (List AV)}(h:A[j]? =some [.own dd 0 n])(hn:n=rows.length):FL dd rows A (A.set j [.snap rows]):=by
 subst hn;refine⟨by simp,fun i r r' hr cG=> ?_⟩
 by_cases hi:i=j
 ·subst hi
  rw[h]at hr;injection hr with hr
  subst hr;rw[List.getElem?_set_self (fT.1 h).1]at cG;injection cG with cG
  subst cG;refine⟨rfl,fun k a b ha hb=> ?_⟩
  match k with
  |0=>simp at ha hb;subst ha hb;exact .inr ⟨0,_,rfl,by simp,by simp⟩
  |k+1=>simp at ha
 ·rw[Ii (fun h=>hi h.symm)]at cG
  rw[hr]at cG;injection cG with cG
  subst cG;refine⟨rfl,fun k x y hx hy=> ?_⟩
  rw[hx]at hy;injection hy with hy
  exact .inl hy
theorem I6{dd n:Nat}{A B rows:List (List AV)}(h:A++[[.snap rows]]=B)(hn:n=rows.length):FL dd rows (A++[[.own dd 0 n]]) B:=by
 have:=Pn (dd:=dd) (n:=n) (j:=A.length) (A:=A++[[.own dd 0 n]]) (rows:=rows) (by simp) hn
 rw[<-h];simpa using this
theorem aD1(k s:Int)(p:List Int)(hp:∀x∈p,bZ x)(hl:p.length<=100000):PC 240 [.agg [zV k,zV s,.snap (aB aO p)]] (.aK [.snap (aB aP (rE k s p).1),zV (rE k s p).2]):=by
 refine aZ func240 ntmps240 (by simp only[go_sem]) ?_
 obtain⟨M,hM⟩:∃M,rE k s p=M:=⟨_,rfl⟩;rw[hM];unfold rE at hM;by_cases g1:k<1
 ·rw[if_pos (.inl g1)]at hM
  subst hM;exact zE
 by_cases g2:255<k
 ·rw[if_pos (.inr (.inl g2))]at hM
  subst hM;exact zE
 by_cases g3:s<1
 ·rw[if_pos (.inr (.inr (.inl g3)))]at hM
  subst hM;exact zE
 by_cases g4:4294967295<s
 ·rw[if_pos (.inr (.inr (.inr g4)))]at hM
  subst hM;exact zE
 rw[if_neg oM]at hM
 by_cases g5:4096<p.length
 ·rw[if_pos g5]at hM
  subst hM;have xM:(4096:Int)<p.length:=oM
  exact zE
 rw[if_neg g5]at hM;have xM:¬(4096:Int)<p.length:=oM
 have hw:∀x∈qO k p,bZ x:=fun x hx=>by
  unfold qO at hx;rcases qW.1 hx with h|h
  ·rcases dJ.1 h with rfl|h
   ·unfold bZ;omega
   ·exact Ot _ _ x h
  ·exact hp x h
 have HG:(qO k p).length=3+p.length:=by unfold qO;simp only[cU,iQ,FG]
 have c1:=aC2 p.length oM oM
 have c2:=ZP (qO k p) hw oM
 have wM:=ZI (qO k p);have w4:IntKind.i64.wrap (jO (qO k p))=jO (qO k p):=IntWalk.i64_in _ oM
 have c3:=Oy (jO (qO k p)) oM oM
 have c4:=Oy s oM oM
 have hu:IntKind.u8.wrap k=k:=by rw[Bf];omega
 have e1:[uV k]::aB aO (rD p.length 2)=aB aO (k::rD p.length 2):=rfl;have l1:(rD (p.length:Int) 2).length=2:=FG _ _;have l2:(rD (jO (qO k p)) 4).length=4:=FG _ _;have l3:(rD s 4).length=4:=FG _ _;have e2:aB aO (k::rD p.length 2)++aB aO p=aB aO (qO k p):=DR _ _;have e3:aB aO (qO k p)++aB aO (rD (jO (qO k p)) 4)=aB aO (C0 k p):=DR _ _
 have hgl:(C0 k p).length=7+p.length:=by unfold C0;rw[cU,HG,FG];omega
 have htw:(qO k p).take (3+p.length)=qO k p:=cN oM
 generalize C0 k p=st at*;generalize jO (qO k p)=cr at*;generalize qO k p=sw at*;clear hw hp wM;refine aE ?_;refine eO func111 ntmps111 ?_;refine aE ?_;refine AH 12 14 [[.snap (aB aO st)]] rfl rfl dE (Pn (j:=0) rfl (by rw[fK];omega)) ?_
 refine kU (env:=[(50,true,.fn (.func 184) [] [.ptr 14 0 0,.ptr 15 0 0]),(5,true,.ptr 13 0 0),(1,true,.ptr 0 0 0)]) (H:=⟨16,bN [(0,some (.cells 342 3 [[zV k,zV s,.snap (aB aO p)]] true false)),(13,some (.cells 58 1 [[.c (.slice none 0 0)]] true false)),(14,some (.cells 77 1 [[.snap (aB aO st)]] true false)),(15,some (.cells 3 1 [[zV 4]] true false))]⟩) (by(repeat (refine tE (by rfl) ?_));refine holds_nil (cA 16) ?_;(repeat (refine u1 (by rfl) ?_));exact BF) ?_
 have sP:st.length<=4103:=oM
 clear e1 e2 e3 c1 c2 c3 w4 hu l1 l2 l3 htw HG g1 g2 g3 g4 g5 xM hgl;have ZW:aP bS=[uV 0,uV 0,uV 0,uV 0,uV 0,uV 0,uV 0,uV 0]:=rfl;have h4:rD s 4=[s % 256,s/256 % 256,s/256/256 % 256,s/256/256/256 % 256]:=rfl;have Po:aB aO [s % 256,s/256 % 256,s/256/256 % 256,s/256/256/256 % 256]=[[uV (s % 256)],[uV (s/256 % 256)],[uV (s/256/256 % 256)],[uV (s/256/256/256 % 256)]]:=rfl;have Pp:∀l:List Int,VA s l=((s % 256,s/256 % 256,s/256/256 % 256,s/256/256/256 % 256),(l.getD 0 0,l.getD 1 0,l.getD 2 0,l.getD 3 0)):=fun _=>rfl
 rw[h4,Po]at c4;clear h4 Po;refine TN func184 ntmps184 (fun R A B xW hA hB=> ?_)
 refine aE ?_;obtain⟨F,hF⟩:∃F:Nat->aQ,F=fun(i:Nat)=>VA s (kE st 4 i):=⟨_,rfl⟩
 obtain⟨n,hn⟩:∃n,xI st.length 4=n:=⟨_,rfl⟩;refine dC (α:=Nat) n (fun j id=> [(4,true,zV (j*4:Nat)),(2,true,.ptr 15 0 0),(1,true,.ptr 14 0 0),(0,true,.jT 16)]) (fun j id=>(0,some (.cells 342 3 [[zV k,zV s,.snap (aB aO p)]] true false))::(13,some (.cells 58 1 [[lJ j id]] true false))::(14,some (.cells 77 1 [[.snap (aB aO st)]] true false))::(15,some (.cells 3 1 [[zV 4]] true false))::(16,some (.cJ R 65 [51] A B .ready none))::lX 67 8 (aB aP ((List.range j).map F)) j id) (fun j m id=>17<=m/\(0<j->17<=id/\id<m)) ⟨100,0,⟨oM,fun h=>absurd h oM⟩,by rw[zR];exact aG⟩ (fun j m id hj hR=> ?_) (fun m id hR=> ?_)
 ·obtain⟨hm,aC⟩:=hR
  have tG:j*4<st.length:=by
   unfold xI at hn;omega
  have xO:n<=2000:=by
   unfold xI at hn;omega
  have I7:(j+1)*4=j*4+4:=BC j 4;have xX:kE st 4 j=(st.drop (j*4)).take 4:=rfl;have QN:F j=VA s (kE st 4 j):=by rw[hF]
  have I8:((st.drop (j*4)).take (st.length-j*4)).length=st.length-j*4:=by rw[dX,kR,XZ]
  have VF:(List.range (j+1)).map F=(List.range j).map F++[F j]:=by rw[GV,CV];rfl
  have xY:((List.range j).map F).length=j:=by simp
  rw[VF,I7,QN,Pp];clear hF QN hM VF hn Pp;generalize s % 256=s0 at*;generalize s/256 % 256=s1 at*;generalize s/256/256 % 256=s2 at*;generalize s/256/256/256 % 256=s3 at*;generalize (List.range j).map F=L at*;by_cases g5:j*4+4<=st.length
  ·have g6:¬((st.length-j*4:Nat):Int)<4:=oM
   have hT:(((j*4:Nat):Int)+4-(j*4:Nat)).toNat=4:=oM
   have nX:(kE st 4 j).length=4:=by rw[xX,dX,kR];omega
   have I9:=xX.symm;clear xX;generalize kE st 4 j=pc at*;generalize j*4=K at*
   obtain⟨p1,p2,p3,p4,rfl⟩:∃a b c d,pc=[a,b,c,d]:=by
    match pc,nX with
    |[a,b,c,d],_=>exact⟨a,b,c,d,rfl⟩
   have Bl:aB aO [p1,p2,p3,p4]=[[uV p1],[uV p2],[uV p3],[uV p4]]:=rfl;have f1:Nat.min 4 8=4:=rfl;have f2:List.take 4 [[uV s0],[uV s1],[uV s2],[uV s3]]=[[uV s0],[uV s1],[uV s2],[uV s3]]:=rfl;have f3:[[uV s0],[uV s1],[uV s2],[uV s3]].flatten=[uV s0,uV s1,uV s2,uV s3]:=rfl;have f4:[uV s0,uV s1,uV s2,uV s3]++List.drop [uV s0,uV s1,uV s2,uV s3].length [uV 0,uV 0,uV 0,uV 0,uV 0,uV 0,uV 0,uV 0]=[uV s0,uV s1,uV s2,uV s3,uV 0,uV 0,uV 0,uV 0]:=rfl
   have f5:Nat.min 4 4=4:=rfl;have hx:aB aP ([]++[((s0,s1,s2,s3),([p1,p2,p3,p4].getD 0 0,[p1,p2,p3,p4].getD 1 0,[p1,p2,p3,p4].getD 2 0,[p1,p2,p3,p4].getD 3 0))])=[[uV s0,uV s1,uV s2,uV s3,uV p1,uV p2,uV p3,uV p4]]:=rfl;have eR:aB aP L++[[uV s0,uV s1,uV s2,uV s3,uV p1,uV p2,uV p3,uV p4]]=aB aP (L++[((s0,s1,s2,s3),([p1,p2,p3,p4].getD 0 0,[p1,p2,p3,p4].getD 1 0,[p1,p2,p3,p4].getD 2 0,[p1,p2,p3,p4].getD 3 0))]):=kK L ((s0,s1,s2,s3),([p1,p2,p3,p4].getD 0 0,[p1,p2,p3,p4].getD 1 0,[p1,p2,p3,p4].getD 2 0,[p1,p2,p3,p4].getD 3 0))
   cases j with
   |zero=>
    have pF:L=[]:=eL xY;subst pF;clear aC eR xY;refine aE ?_;clear xW hA hB;exact⟨m+100,m+7+1+5+1+1,⟨oM,fun _=>by omega⟩,aG⟩
   |succ j=>
    obtain⟨i1,i2⟩:=aC oM
    clear aC hx;refine aE ?_;clear xW hA hB;exact⟨m+100,m+7+1+5+1+1,⟨oM,fun _=>by omega⟩,aG⟩
  ·have I9:(st.drop (j*4)).take (st.length-j*4)=kE st 4 j:=by
    rw[xX,cN (by rw[kR];exact cA _),cN (by rw[kR];omega)]
   have QO:(kE st 4 j).length=st.length-j*4:=by rw[<-I9,I8]
   have IA:j*4+(kE st 4 j).length=st.length:=oM
   have nX:(kE st 4 j).length<4:=oM
   have IB:0<(kE st 4 j).length:=oM
   have IC:(st.drop (j*4)).take (kE st 4 j).length=kE st 4 j:=by rw[QO];exact I9
   clear QO xX;generalize kE st 4 j=pc at*;generalize j*4=K at*
   match pc,nX,IB with
   |[p1],nX,IB=>
    replace IA:K+1=st.length:=IA
    replace IC:(st.drop K).take 1=[p1]:=IC
    have hT:((K:Int)+1-K).toNat=1:=oM
    clear nX IB;have Bl:aB aO [p1]=[[uV p1]]:=rfl;have f1:Nat.min 4 8=4:=rfl;have f2:List.take 4 [[uV s0],[uV s1],[uV s2],[uV s3]]=[[uV s0],[uV s1],[uV s2],[uV s3]]:=rfl;have f3:[[uV s0],[uV s1],[uV s2],[uV s3]].flatten=[uV s0,uV s1,uV s2,uV s3]:=rfl;have f4:[uV s0,uV s1,uV s2,uV s3]++List.drop [uV s0,uV s1,uV s2,uV s3].length [uV 0,uV 0,uV 0,uV 0,uV 0,uV 0,uV 0,uV 0]=[uV s0,uV s1,uV s2,uV s3,uV 0,uV 0,uV 0,uV 0]:=rfl
    have f5:Nat.min 1 4=1:=rfl;have hx:aB aP ([]++[((s0,s1,s2,s3),([p1].getD 0 0,[p1].getD 1 0,[p1].getD 2 0,[p1].getD 3 0))])=[[uV s0,uV s1,uV s2,uV s3,uV p1,uV 0,uV 0,uV 0]]:=rfl;have eR:aB aP L++[[uV s0,uV s1,uV s2,uV s3,uV p1,uV 0,uV 0,uV 0]]=aB aP (L++[((s0,s1,s2,s3),([p1].getD 0 0,[p1].getD 1 0,[p1].getD 2 0,[p1].getD 3 0))]):=kK L ((s0,s1,s2,s3),([p1].getD 0 0,[p1].getD 1 0,[p1].getD 2 0,[p1].getD 3 0))
    cases j with
    |zero=>
     have pF:L=[]:=eL xY;subst pF;clear aC eR xY;refine aE ?_;clear xW hA hB;exact⟨m+100,m+7+1+5+1+1,⟨oM,fun _=>by omega⟩,aG⟩
    |succ j=>
     obtain⟨i1,i2⟩:=aC oM
     clear aC hx;refine aE ?_;clear xW hA hB;exact⟨m+100,m+7+1+5+1+1,⟨oM,fun _=>by omega⟩,aG⟩
   |[p1,p2],nX,IB=>
    replace IA:K+2=st.length:=IA
    replace IC:(st.drop K).take 2=[p1,p2]:=IC
    have hT:((K:Int)+2-K).toNat=2:=oM
    clear nX IB;have Bl:aB aO [p1,p2]=[[uV p1],[uV p2]]:=rfl;have f1:Nat.min 4 8=4:=rfl;have f2:List.take 4 [[uV s0],[uV s1],[uV s2],[uV s3]]=[[uV s0],[uV s1],[uV s2],[uV s3]]:=rfl;have f3:[[uV s0],[uV s1],[uV s2],[uV s3]].flatten=[uV s0,uV s1,uV s2,uV s3]:=rfl;have f4:[uV s0,uV s1,uV s2,uV s3]++List.drop [uV s0,uV s1,uV s2,uV s3].length [uV 0,uV 0,uV 0,uV 0,uV 0,uV 0,uV 0,uV 0]=[uV s0,uV s1,uV s2,uV s3,uV 0,uV 0,uV 0,uV 0]:=rfl
    have f5:Nat.min 2 4=2:=rfl;have hx:aB aP ([]++[((s0,s1,s2,s3),([p1,p2].getD 0 0,[p1,p2].getD 1 0,[p1,p2].getD 2 0,[p1,p2].getD 3 0))])=[[uV s0,uV s1,uV s2,uV s3,uV p1,uV p2,uV 0,uV 0]]:=rfl;have eR:aB aP L++[[uV s0,uV s1,uV s2,uV s3,uV p1,uV p2,uV 0,uV 0]]=aB aP (L++[((s0,s1,s2,s3),([p1,p2].getD 0 0,[p1,p2].getD 1 0,[p1,p2].getD 2 0,[p1,p2].getD 3 0))]):=kK L ((s0,s1,s2,s3),([p1,p2].getD 0 0,[p1,p2].getD 1 0,[p1,p2].getD 2 0,[p1,p2].getD 3 0))
    cases j with
    |zero=>
     have pF:L=[]:=eL xY;subst pF;clear aC eR xY;refine aE ?_;clear xW hA hB;exact⟨m+100,m+7+1+5+1+1,⟨oM,fun _=>by omega⟩,aG⟩
    |succ j=>
     obtain⟨i1,i2⟩:=aC oM
     clear aC hx;refine aE ?_;clear xW hA hB;exact⟨m+100,m+7+1+5+1+1,⟨oM,fun _=>by omega⟩,aG⟩
   |[p1,p2,p3],nX,IB=>
    replace IA:K+3=st.length:=IA
    replace IC:(st.drop K).take 3=[p1,p2,p3]:=IC
    have hT:((K:Int)+3-K).toNat=3:=oM
    clear nX IB;have Bl:aB aO [p1,p2,p3]=[[uV p1],[uV p2],[uV p3]]:=rfl;have f1:Nat.min 4 8=4:=rfl;have f2:List.take 4 [[uV s0],[uV s1],[uV s2],[uV s3]]=[[uV s0],[uV s1],[uV s2],[uV s3]]:=rfl;have f3:[[uV s0],[uV s1],[uV s2],[uV s3]].flatten=[uV s0,uV s1,uV s2,uV s3]:=rfl;have f4:[uV s0,uV s1,uV s2,uV s3]++List.drop [uV s0,uV s1,uV s2,uV s3].length [uV 0,uV 0,uV 0,uV 0,uV 0,uV 0,uV 0,uV 0]=[uV s0,uV s1,uV s2,uV s3,uV 0,uV 0,uV 0,uV 0]:=rfl
    have f5:Nat.min 3 4=3:=rfl;have hx:aB aP ([]++[((s0,s1,s2,s3),([p1,p2,p3].getD 0 0,[p1,p2,p3].getD 1 0,[p1,p2,p3].getD 2 0,[p1,p2,p3].getD 3 0))])=[[uV s0,uV s1,uV s2,uV s3,uV p1,uV p2,uV p3,uV 0]]:=rfl;have eR:aB aP L++[[uV s0,uV s1,uV s2,uV s3,uV p1,uV p2,uV p3,uV 0]]=aB aP (L++[((s0,s1,s2,s3),([p1,p2,p3].getD 0 0,[p1,p2,p3].getD 1 0,[p1,p2,p3].getD 2 0,[p1,p2,p3].getD 3 0))]):=kK L ((s0,s1,s2,s3),([p1,p2,p3].getD 0 0,[p1,p2,p3].getD 1 0,[p1,p2,p3].getD 2 0,[p1,p2,p3].getD 3 0))
    cases j with
    |zero=>
     have pF:L=[]:=eL xY;subst pF;clear aC eR xY;refine aE ?_;clear xW hA hB;exact⟨m+100,m+7+1+5+1+1,⟨oM,fun _=>by omega⟩,aG⟩
    |succ j=>
     obtain⟨i1,i2⟩:=aC oM
     clear aC hx;refine aE ?_;clear xW hA hB;exact⟨m+100,m+7+1+5+1+1,⟨oM,fun _=>by omega⟩,aG⟩
 ·obtain⟨hm,aC⟩:=hR
  have hnq:¬n*4<st.length:=by
   unfold xI at hn;omega
  have Bm:((List.range n).map F,(0:Int))=M:=by rw[<-hM,hF,hn]
  clear hM;subst Bm;simp only[];have xY:((List.range n).map F).length=n:=by simp
  have xO:n<=2000:=by
   unfold xI at hn;omega
  clear hF hn;generalize n*4=K at*;generalize (List.range n).map F=L at*;cases n with
  |zero=>
   have pF:L=[]:=eL xY;subst pF;clear aC;refine aE ?_;refine FM (by(first|rfl|exact mI|(simp(maxSteps:=2000000) (disch:=omega) only[go_sem, *]<;>rfl)|fail)) ?_
   exact zE
  |succ j=>
   obtain⟨i1,i2⟩:=aC oM
   have t1:L.take (j+1)=L:=cN oM
   clear aC;refine aE ?_;refine FM (by(first|rfl|exact mI|(simp(maxSteps:=2000000) (disch:=omega) only[go_sem, *]<;>rfl)|fail)) ?_
   exact zE
end Go.Proofs.YtpaomccedbjknaaGreatDoor
