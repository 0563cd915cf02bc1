/- Staging. No condition. -/
import Derived.Test.YtioafciifiggaaaGreatDoorL0
import Derived.Test.YtioafciifiggaaaGreatDoorAzl
set_option linter.all false
namespace Go.Proofs.YtioafciifiggaaaGreatDoor
open Go.Proofs Go.AL
set_option maxRecDepth 100000
set_option maxHeartbeats 8000000
attribute [local irreducible] cB AW aX cZ dK hold
attribute [local irreducible] eV
theorem Dm{d:fJ}{a c:Int}(hk:∀s∈iK d.st d.ca,eR s)(h:(gZ d a c).2=0):0<=(gZ d a c).1.1/\(gZ d a c).1.1<c-16/\1<=(gZ d a c).1.2/\(gZ d a c).1.2<=1073741824:=by
 have h0:=V1 (ZO (a:=a) hk).1;unfold gZ at h⊢;split at h
 ·rename_i g1
  rw[if_pos g1];split at h
  ·rename_i g2
   rw[if_pos g2];split at h
   ·rename_i g3
    rw[if_pos g3];exact⟨h0,g3.2.2.1,g3.2.2.2.1,g3.2.2.2.2⟩
   ·exact absurd h (by decide)
  ·exact absurd h (by decide)
 ·rename_i g1
  exact absurd h g1
theorem Dn{d:fJ}{a c:Int}{n:Nat}(hv:lV a c=true)(hl:a+c<=(d.st.length:Int))(hk:∀s∈iK d.st d.ca,eR s)(hn:c-16=(n:Int)):(qK d a c).length=n/\(∀s∈qK d a c,eR s)/\(l6 d=0->qV d (a+16) (n:Int)=(qK d a c,0)):=by
 have h5:=yW hv;have e0:=A3 d.ca d.st;refine⟨?_,fun s hs=>hk s (l5 (qB hs)),fun g=> ?_⟩
 ·unfold qK
  rw[eD,fX,hn];omega
 ·unfold qV qK
  rw[if_pos g,if_neg (by omega),hn]
def y8(C:List aY)(hd n i:Nat):List aY:=(List.range i).map (fun k=>C.getD ((hd+k) % n) aO)
theorem Ri(C:List aY)(hd n i:Nat):y8 C hd n (i+1)=y8 C hd n i++[C.getD ((hd+i) % n) aO]:=by
 unfold y8;rw[HD,yO];rfl
theorem Rj(C:List aY)(hd n i:Nat):(y8 C hd n i).length=i:=by
 unfold y8;rw[mJ,UA]
theorem Dp{σ:AS}{env:List (Nat×Bool×AV)}{H:Heap}(w:Holds σ env H:=by
  ((repeat (refine rV (by first|rfl|exact m5|(simp(maxSteps:=2000000) (disch:=omega) only[go_sem, *];rfl)) ?_));(refine holds_nil (by simp only[];omega) ?_);(first|exact(fun _ _ h=>h)|((repeat (first|refine sO (by first|rfl|exact m5|(simp(maxSteps:=2000000) (disch:=omega) only[go_sem, *];rfl)) ?_|refine M1 ?_));exact zY)))):Holds σ env H:=w
theorem Dq{R:List Rec}{k:Nat}(h:k<R.length):cS (R.take (k+1))=cS (R.take k)++[((((R.getD k cQ).cH.length+10)/4:Nat):Int)]:=by
 unfold cS;rw[List.take_add_one,yO,fU h];rw[lC,fU h];rfl
def zF(n hd:Int)(R:List Rec)(k:Nat):Int:=(hd+(cS (R.take k)).sum) % n
theorem aH7{n hd:Int}{R:List Rec}{k:Nat}(h:k<R.length):zF n hd R (k+1)=(zF n hd R k+((((R.getD k cQ).cH.length+10)/4:Nat):Int)) % n:=by
 unfold zF;rw[Dq h,Yl,u9,Jf,Z4,<-Int.add_assoc,Int.emod_add_emod]
theorem Rk{dd k:Nat}{rows:List (List AV)}{x0 x1 x2 x3 x4:AV}{l:List Int}(hr:rows=aA bA l)(hk:k=l.length):IJ dd rows [[x0,x1,x2,x3,x4,.own dd 0 k]] [[x0,x1,x2,x3,x4,.snap (aA bA l)]]:=by
 subst hr hk;refine⟨rfl,fun i r r' h1 h2=> ?_⟩
 cases i with
 |succ i=>simp at h1
 |zero=>
  simp only[mK,bB]at h1 h2;subst h1 h2;refine⟨rfl,fun k x y hx hy=> ?_⟩
  match k with
  |0=>simp only[mK,bB]at hx hy;subst hx hy;exact .inl rfl
  |1=>simp only[mK,qS,bB]at hx hy;subst hx hy;exact .inl rfl
  |2=>simp only[mK,qS,bB]at hx hy;subst hx hy;exact .inl rfl
  |3=>simp only[mK,qS,bB]at hx hy;subst hx hy;exact .inl rfl
  |4=>simp only[mK,qS,bB]at hx hy;subst hx hy;exact .inl rfl
  |5=>simp only[mK,qS,bB]at hx hy;subst hx hy;exact .inr ⟨0,l.length,rfl,by rw[fZ];omega,by rw[tH,cR (by rw[fZ];exact cA _)]⟩
  |k+6=>simp at hx
theorem aH8(d:fJ)(a c:Int)(hs:d.st.length<=1000000)(h2:d.ca.length<=1000000)(hk:∀s∈iK d.st d.ca,eR s):PC 48 [.agg (dI d),.agg [zV a,zV c]] (.aR [.agg (eG (jV d a c).1.1),.snap (aA dN (jV d a c).1.2.1),.snap (aA bC (jV d a c).1.2.2),zV (jV d a c).2]):=by
 refine uH Tryz.func48 Tryz.ntmps48 (by simp only[go_sem,eG]) ?_
 have c0:=Ki d hs h2;have c1:=ZZ a c;obtain⟨M,hM⟩:∃M,jV d a c=M:=⟨_,rfl⟩;rw[hM];unfold jV at hM;by_cases g0:l6 d=0
 case neg=>
  rw[if_neg g0]at hM;subst hM;have g0x:(l6 d !=0)=true:=by simpa using g0
  generalize l6 d=e at*;obtain⟨st,ca⟩:=d;unfold eG l7 dI at*;simp only[]at*;clear c1 hk g0;refine aE ?_;exact nE
 rw[if_pos g0]at hM;rw[g0]at c0;by_cases g1:lV a c=true
 case neg=>
  rw[if_neg (fun h=>g1 h.1)]at hM
  subst hM;have xY:lV a c=false:=by simpa using g1
  rw[xY]at c1;obtain⟨st,ca⟩:=d;unfold eG l7 dI at*;simp only[]at*;clear hk g1 xY g0;refine aE ?_;exact nE
 have hv:=yW g1;rw[g1]at c1;have w1:IntKind.i64.wrap (a+c)=a+c:=IntWalk.i64_in _ (by omega)
 by_cases g2:a+c<=(d.st.length:Int)
 case neg=>
  rw[if_neg (fun h=>g2 h.2)]at hM
  subst hM;have CG:(d.st.length:Int)<a+c:=by omega
  obtain⟨st,ca⟩:=d;unfold eG l7 dI at*;simp only[]at*;clear hk g1 g0 g2;refine aE ?_;exact nE
 rw[if_pos ⟨g1,g2⟩]at hM;have CG:¬(d.st.length:Int)<a+c:=by omega
 have c2:=aD1 d a c (by omega) (by omega) hs h2 hk
 have Dr:=Dm (a:=a) (c:=c) hk;by_cases g3:(gZ d a c).2=0
 case neg=>
  rw[if_neg g3]at hM;subst hM;generalize gZ d a c=HE at*;obtain⟨⟨h,f⟩,e⟩:=HE;simp only[]at*;have AO:(e !=0)=true:=by simpa using g3
  obtain⟨st,ca⟩:=d;unfold eG l7 dI at*;simp only[]at*;clear hk g1 g0 g2 g3 Dr;refine aE ?_;exact nE
 rw[if_pos g3]at hM;obtain⟨h0,h1,f1,f2⟩:=Dr g3;rw[g3]at c2;obtain⟨n,hn⟩:∃n:Nat,c-16=n:=⟨(c-16).toNat,by omega⟩
 obtain⟨hC,oF,cW⟩:=Dn g1 g2 hk hn;have c3:=ZL d (a+16) (n:Int) hs h2;rw[cW g0]at c3;simp only[]at c3;generalize gZ d a c=HE at*;obtain⟨⟨h,f⟩,e⟩:=HE;simp only[]at*;generalize qK d a c=C at*;obtain⟨hd,rfl⟩:∃hd:Nat,h=hd:=⟨h.toNat,by omega⟩
 have c4:=aF9 (l9 C hd) f (RL oF hd) (by rw[DP (by omega)];omega)
 have AY:=Dk (l9 C hd) f (RL oF hd);rw[DP (by omega),hC]at AY
 have RN:zD C (hd:Int) f=(mE (l9 C hd) f).1.take (1073741824-f).toNat:=by unfold zD;rw[nC]
 rw[RN]at hM;generalize Dt:mE (l9 C hd) f=Sc at*;obtain⟨R0,S0⟩:=Sc;simp only[]at*;obtain⟨R,hR⟩:∃R,R0.take (1073741824-f).toNat=R:=⟨_,rfl⟩;have fF:=AY.take (1073741824-f).toNat;have CE:f+(R.length:Int)<=1073741824:=by rw[<-hR,eD];omega
 rw[hR]at fF hM;have WY:=aH5 g1 hn (by omega) (by omega) f1 CE fF
 have c5:=VC (oE a c hd f R) (by unfold oE cS;simp only[mJ];have:=fF.len;omega)
 have c6:=aH6 (oE a c hd f R) (jU (oE a c hd f R)) (by unfold oE cS;simp only[mJ];have:=fF.len;omega)
 have hU:jU (oE a c hd f R)=(cS R).sum:=by
  obtain⟨eZ,-⟩:=VD WY;unfold jU;rw[if_pos eZ];have h9:=((Aw _ eZ).1 WY).2.1;have:=(VB ((oE a c hd f R).count-16) (oE a c hd f R).cD 0 (by show 0<=c-16;omega)).2 h9
  show(pW (c-16) (cS R) 0).1=_
  have e9:(pW (c-16) (cS R) 0).1=0+(cS R).sum:=this;rw[e9,Int.zero_add]
 obtain⟨c',rfl⟩:∃c':Int,c=c'+16:=⟨c-16,by omega⟩
 obtain rfl:c'=(n:Int):=by omega
 have RO:=fF.sum;have pJ:(cS R).length=R.length:=by unfold cS;rw[mJ]
 have MI:0<=(cS R).sum:=by
  have:=RK (cS R) 0 (fun x hx=>by
   unfold cS at hx;obtain⟨r,-,rfl⟩:=mS.1 hx
   omega)
  simpa using this
 obtain⟨free,Du⟩:∃free:Nat,(free:Int)=(n:Int)-(cS R).sum:=⟨((n:Int)-(cS R).sum).toNat,by omega⟩
 have AZ:(n:Int)+16-16=n:=by omega
 have RP:0<=((hd:Int)+(cS R).sum) % (n:Int)/\((hd:Int)+(cS R).sum) % (n:Int)<(n:Int):=⟨HG _ (by omega),KW _ (by omega)⟩
 have c7:=aH0 (oE a (n+16) hd f R) (cS R).sum C n free hC rfl (by omega) (by omega) ⟨by show 0<=a;omega,by show a<=4096;omega⟩ (by unfold oE;simp only[];rw[AZ];exact RP) MI Du f1 (by unfold oE;simp only[];rw[pJ];exact CE) (by unfold oE;simp only[];rw[pJ];have:=fF.len;omega) oF
 have Rl:tV C n (oE a (n+16) hd f R).tail ((oE a (n+16) hd f R).first+((oE a (n+16) hd f R).cD.length:Int)) free=xW C n hd (cS R).sum (f+(R.length:Int)):=by
  unfold oE;simp only[];rw[pJ,AZ];exact aG9 (by omega) (by omega) (by omega) MI RO rfl Du
 rw[Rl]at c7;rw[AZ]at hM;rw[hU,WY]at c5;rw[hU]at c6;clear Rl hU WY Dr RN Dt AY cW g3 hk g1 Du;have c8:=W9 a (n+16) 0;rw[show IntKind.i64.wrap (IntKind.i64.wrap (a+16)+0)=a+16 by rw[IntWalk.i64_in (a+16) (by omega),IntWalk.i64_in _ (by omega)];omega]at c8
 have c9:=II a (n+16);rw[show IntKind.i64.wrap ((n:Int)+16-16)=(n:Int)by rw[IntWalk.i64_in _ (by omega)];omega]at c9
 unfold oE encS at c7;simp only[]at c7;generalize MB a (xW C (↑n) (↑hd) (cS R).sum (f+↑R.length))=RM at*;unfold oE encS eG at c5;unfold oE eG at c6;unfold oE at hM;simp only[]at c5 c6 c7 hM;rw[AZ]at c5 c6 c7 hM;rw[show decide True=true from rfl]at c5
 subst hM;unfold eG;simp only[];have MJ:((hd:Int)+((cS R).take 0).sum) % (n:Int)=hd:=by simp only[wY,Jf,Z4];exact Jd (by omega) (by omega)
 have MK:((hd:Int)+((cS R).take R.length).sum) % (n:Int)=((hd:Int)+(cS R).sum) % (n:Int):=by rw[<-pJ,l4]
 have vG:=gS C;obtain⟨st,ca⟩:=d;unfold dI at*;simp only[]at*;generalize J3:(cS R).sum=sm at*;generalize G7:((hd:Int)+sm) % (n:Int)=tl at*
 replace vG:=aU.mk vG
 replace fF:=aU.mk fF
 replace oF:=aU.mk oF
 replace c5:=aU.mk c5
 replace c6:=aU.mk c6
 replace c7:=aU.mk c7
 replace c4:=aU.mk c4
 refine aE ?_;refine RI 4 ?_;refine aE ?_;refine nS Tryz.func110 Tryz.ntmps110 ?_;refine aE ?_;refine L9 Tryz.func173 Tryz.ntmps173 (fun Rn A B IZ hA hB=> ?_)
 refine aE ?_;have WZ:4<=n/\n<=4080/\hd<n:=by omega
 refine dP (α:=Nat) n (fun i _=> [(7,true,zV i),(6,true,zV n),(0,true,.jF 27),(1,true,.ptr 26 0 0),(2,true,.ptr 25 0 0),(3,true,.ptr 24 0 0)])
  (fun i id=>(0,some (.cells 25 2 [[.snap (aA aQ st),.snap (aA oM ca)]] true false))::(1,some (.cells 27 2 [[zV a,zV (↑n+16)]] true false))::(2,some (.cells 30 6 [[.c (.int .i64 0),.c (.int .i64 0),.c (.int .i64 0),.c (.int .i64 0),.c (.int .i64 0),.c (.slice none 0 0)]] true false))::(3,some (.cells 132 2 [[zV a,zV (↑n+16)]] true false))::(15,some (.cells 22 1 [[.snap (aA aQ C)]] true false))::(18,some (.cells 22 1 [[nG i id]] true false))::(24,some (.cells 132 2 [[zV a,zV (↑n+16)]] true false))::(25,some (.cells 3 1 [[zV hd]] true false))::(26,some (.cells 3 1 [[zV n]] true false))::(27,some (.cJ Rn 142 [77] A B .ready none))::oB 124 8 (aA aQ (y8 C hd n i)) i id)
  (fun i m id=>28<=m/\(0<i->28<=id/\id<m)) ⟨100,0,⟨by omega,by omega⟩,?_⟩ (fun i m id hi bK=> ?_) (fun m id bK=> ?_)
 ·exact aN
 ·obtain⟨hm,aC⟩:=bK
  obtain⟨q,hq⟩:∃q:Nat,(hd+i) % n=q:=⟨_,rfl⟩;have Re:q<n:=by rw[<-hq];exact PD _ (by omega)
  have w2:IntKind.i64.wrap ((hd:Int)+(i:Int))=(hd:Int)+(i:Int):=IntWalk.i64_in _ (by omega)
  have w3:((hd:Int)+(i:Int)).tmod (n:Int)=(q:Int):=by rw[KT (by omega),<-hq];(first|rw[Int.natCast_emod,Int.natCast_add]|simp)
  have w4:¬(n:Int)=0:=by omega
  have w5:IntKind.i64.wrap (q:Int)=(q:Int):=IntWalk.i64_in _ (by omega)
  have hg:=vG.out q (by omega)
  have hr:=Ri C hd n i;rw[hq]at hr;have gH:=Rj C hd n i;rw[hr];generalize C.getD q aO=S at*;generalize y8 C hd n i=L at*;obtain⟨⟨x0,x1,x2,x3⟩,x4,x5,x6,x7⟩:=S;have bH:aQ ((x0,x1,x2,x3),x4,x5,x6,x7)=[uV x0,uV x1,uV x2,uV x3,uV x4,uV x5,uV x6,uV x7]:=rfl;have fW:=nR (f:=aQ) L ((x0,x1,x2,x3),x4,x5,x6,x7);rw[bH]at hg fW;clear hq hr bH vG c4 c5 c6 c7 c8 fF oF CE hR MJ MK G7 J3 pJ
  cases i with
  |zero=>
   have kX:L=[]:=fI gH;subst kX;clear fW;refine aE ?_;refine RI 7 ?_;refine aE ?_;clear IZ hA hB;exact⟨m+100,m+9+6,⟨by omega,fun _=>by omega⟩,aN⟩
  |succ i=>
   obtain⟨i1,i2⟩:=aC (by omega)
   refine aE ?_;refine RI 7 ?_;refine aE ?_;clear IZ hA hB;exact⟨m+100,m+9+6,⟨by omega,fun _=>by omega⟩,aN⟩
 ·obtain⟨hm,aC⟩:=bK
  obtain⟨i1,i2⟩:=aC (by omega)
  have DH:nG n id= .own id 0 n:=by
   obtain⟨n',rfl⟩:∃n',n=n'+1:=⟨n-1,by omega⟩
   rfl
  have DI:oB 124 8 (aA aQ (y8 C hd n n)) n id=[(id,some (.cells 124 8 (aA aQ (l9 C hd)) true true))]:=by
   have h9:y8 C hd n n=l9 C hd:=Rh hC (by omega)
   rw[h9];obtain⟨n',rC⟩:∃n',n=n'+1:=⟨n-1,by omega⟩
   rw[rC];rfl
  have gH:(l9 C hd).length=n:=by rw[DP (by omega)];exact hC
  rw[DH,DI];have d4:=c4.out;have iD:(aA aQ (l9 C hd)).take n=aA aQ (l9 C hd):=cR (by rw[fZ,gH];exact cA _)
  have X0:(aA aQ (l9 C hd)).length=n:=by rw[fZ,gH]
  have M4:(∀row,row∈aA aQ (l9 C hd)->∀x,x∈row->bJ x)=True:=eq_true (mN (l9 C hd));clear DH DI vG aC c4
  have aH9:R0.take (if 1073741824-f<(R0.length:Int)then 1073741824-f else(R0.length:Int)).toNat=R:=by
   rw[<-hR];split
   ·rfl
   ·rename_i g9
    rw[nC,l4,cR (by omega)]
  refine aE ?_;clear d4 iD X0 M4 aH9 hR;have oU:aU (∀k,k<R.length->(aA dN R)[k]? =some [zV (R.getD k cQ).kind,zV (R.getD k cQ).seq,.snap (aA aH (R.getD k cQ).cH)]):=⟨fun k hk=>pQ cQ hk⟩
  have MJ:zF n hd R 0=hd:=by unfold zF;rw[wY];show((hd:Int)+0) % (n:Int)=hd;rw[Z4];exact Jd (by omega) (by omega)
  have MK:zF n hd R R.length=tl:=by unfold zF;rw[l4,J3];exact G7
  have X1:aU (∀k,0<=zF n hd R k/\zF n hd R k<n):=⟨fun k=>⟨HG _ (by omega),KW _ (by omega)⟩⟩
  have X2:aU (∀k,k<R.length->zF n hd R (k+1)=(zF n hd R k+((((R.getD k cQ).cH.length+10)/4:Nat):Int)) % n):=⟨fun k hk=>aH7 hk⟩
  have zG:aU (∀k,k<R.length->cS (R.take (k+1))=cS (R.take k)++[((((R.getD k cQ).cH.length+10)/4:Nat):Int)]):=⟨fun k hk=>Dq hk⟩
  have zH:aU (∀k,k<=R.length->(cS (R.take k)).length=k):=⟨fun k hk=>by unfold cS;rw[mJ,eD];omega⟩
  have zI:aU (∀k,k<R.length->(R.getD k cQ).cH.length<=4096):=⟨fun k hk=>(fF.out.one _ (dC cQ hk)).2.1⟩
  have X3:2*R.length<=n:=fF.out.len;have wM:cS (R.take 0)=[]:=rfl;have zJ:cS (R.take R.length)=cS R:=by rw[l4]
  generalize iD:zF n hd R=tk at*;clear iD J3 G7 fF CE;generalize RQ:(fun k=>cS (R.take k))=ss at*
  have lF:∀k,cS (R.take k)=ss k:=fun k=>by rw[<-RQ]
  simp only[lF]at zG zH wM zJ;clear lF RQ
  refine dP (α:=Nat) R.length (fun k _=> [(105,true,zV k),(104,true,zV R.length),(103,true,.snap (aA dN R)),(18,true,.ptr m 0 0),(16,true,.snap (aA dN R)),(13,true,.ptr 15 0 0),(9,true,.ptr 3 0 0),(4,true,.ptr 2 0 0)])
   (fun k id=>(2,some (.cells 30 6 [[.c (.int .i64 0),.c (.int .i64 0),.c (.int .i64 0),.c (.int .i64 0),.c (.int .i64 0),.c (.slice none 0 0)]] true false))::(3,some (.cells 132 2 [[zV a,zV (↑n+16)]] true false))::(15,some (.cells 22 1 [[.snap (aA aQ C)]] true false))::(m,some (.cells 30 6 [[zV a,zV (↑n+16),zV hd,zV (tk k),zV f,nG k id]] true false))::oB 3 1 (aA bA (ss k)) k id)
   (fun k m' id=>m+10<=m'/\(0<k->m+10<=id/\id<m')) ⟨m+100,0,⟨by omega,by omega⟩,?_⟩ (fun k m' id hk bK=> ?_) (fun m' id bK=> ?_)
  ·rw[wM,MJ]
   clear c0 c1 c2 c3 c5 c6 c7 c8 c9 oF oU X2 zG zH X1 zI wM zJ MK MJ gH IZ hA hB pJ hv w1 hn h1 AZ WZ X3 RO MI RP;simp only[V3,V4];exact Dp
  ·obtain⟨r4,aC⟩:=bK
   have hg:=oU.out k hk;have e1:=X2.out k hk;have e2:=zG.out k hk;have e3:=zH.out k (by omega)
   have e4:=X1.out k;have e5:=zI.out k hk;rw[e1,e2];generalize j9:(R.getD k cQ).cH=P at*;have d5:=Q3 (P.length:Int);rw[show sQ (P.length:Int)=((P.length+10)/4:Nat)by unfold sQ;rw[if_neg (by omega)];omega]at d5
   generalize dX:(P.length+10)/4=sz at*;have bJ6:sz<=1026:=by omega
   generalize ss k=L at*;generalize tk k=T at*;generalize (R.getD k cQ).kind=K at*;generalize (R.getD k cQ).seq=Sq at*;have w2:IntKind.i64.wrap (T+(sz:Int))=T+(sz:Int):=IntWalk.i64_in _ (by omega)
   have w3:(T+(sz:Int)).tmod (n:Int)=(T+(sz:Int)) % (n:Int):=KT (by omega)
   have w4:¬(n:Int)=0:=by omega
   have w6:IntKind.i64.wrap ((T+(sz:Int)) % (n:Int))=(T+(sz:Int)) % (n:Int):=IntWalk.i64_in _ (by have:=HG (T+(sz:Int)) (show(n:Int)≠0 by omega);have:=KW (T+(sz:Int)) (show(0:Int)<n by omega);omega)
   have fW:=nR (f:=bA) L (sz:Int);have bH:bA (sz:Int)=[zV sz]:=rfl;rw[bH]at fW;clear e1 e2 oU X2 zG zH X1 zI c5 c6 c7 c8 dX j9 oF wM zJ MK MJ gH IZ hA hB;cases k with
   |zero=>
    have kX:L=[]:=fI e3;subst kX;clear fW;refine aE ?_;exact⟨m'+50,m'+1+1+1,⟨by omega,fun _=>by omega⟩,aN⟩
   |succ k=>
    obtain⟨i1,i2⟩:=aC (by omega)
    refine aE ?_;exact⟨m'+50,m'+1+1+1,⟨by omega,fun _=>by omega⟩,aN⟩
  ·obtain⟨r4,aC⟩:=bK
   rw[MK,zJ];have d5:=c5.out;have d6:=c6.out;have d7:=c7.out;clear oU X2 zG zH X1 zI c5 c6 c7 c8 c9 c0 c1 c2 c3 oF wM zJ MK MJ gH IZ hA hB WZ X3 w1 hn AZ RP RO MI hv h1;clear i1 i2;cases CL:R.length with
   |zero=>
    rw[CL]at pJ;have iM:cS R=[]:=fI pJ;have tJ:R=[]:=fI CL;rw[iM]at d5 d6 d7⊢;simp only[V3,V4];clear pJ iM tJ;refine Dv m [[zV a,zV (↑n+16),zV hd,zV tl,zV f,.snap []]] (vV (iO (.refl _) (iO (.refl _) (iO (.refl _) (iO (.refl _) (iO (.refl _) (iO .nil sP)))))) yS) ?_;refine aE ?_
    exact aB
   |succ k=>
    rw[CL]at aC pJ;obtain⟨i1,i2⟩:=aC (by omega)
    refine sX id m [[zV a,zV (↑n+16),zV hd,zV tl,zV f,.snap (aA bA (cS R))]] (rws:=[[zV a,zV (↑n+16),zV hd,zV tl,zV f,.own id 0 (k+1)]]) (by simp(maxSteps:=2000000) (disch:=omega) only[go_sem, *]<;>exact rfl) (by simp(maxSteps:=2000000) (disch:=omega) only[go_sem, *]<;>exact rfl) (by omega) (Rk rfl pJ.symm) ?_
    refine aE ?_;exact aB
end Go.Proofs.YtioafciifiggaaaGreatDoor
