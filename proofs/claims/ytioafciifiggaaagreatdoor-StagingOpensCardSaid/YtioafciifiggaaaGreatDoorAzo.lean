/- Staging. No condition. -/
import Derived.Test.YtioafciifiggaaaGreatDoorL0
import Derived.Test.YtioafciifiggaaaGreatDoorAzn
set_option linter.all false
namespace Go.Proofs.YtioafciifiggaaaGreatDoor
open Go.Proofs Go.AL
set_option maxRecDepth 100000
set_option maxHeartbeats 8000000
attribute [local irreducible] cB AW aX cZ dK hold
attribute [local irreducible] eV
theorem aI9{P:Program}{σ:AS}{Q:Exit->AS->Prop}{c:Code}(E:List (Nat×Bool×AV))(N:Nat)(T:List (Nat×Option aI))(f:AW P c ⟨E,⟨N,dH T⟩,σ.nt⟩ Q->AW P c σ Q)(h:AW P c ⟨E,⟨N,dH T⟩,σ.nt⟩ Q):AW P c σ Q:=f h
theorem aJ0(d:fJ)(a c:Int)(hs:d.st.length<=1000000)(h2:d.ca.length<=1000000)(hk:∀s∈iK d.st d.ca,eR s):PC 50 [.agg (dI d),.agg [zV a,zV c]] (.aR [.agg (eG (jV d a c).1.1),.snap (aA dN (jV d a c).1.2.1),.snap (aA bC (jV d a c).1.2.2),zV (jV d a c).2]):=by
 refine uH Tryz.func50 Tryz.ntmps50 (by simp only[go_sem,eG]) ?_
 have c0:=aD2 d a c hs h2 hk;by_cases g0:(xZ d a c).2=0
 case neg=>
  rw[aI1 g0];generalize xZ d a c=HE at*;obtain⟨⟨h,f⟩,e⟩:=HE;simp only[]at*;have AO:(e !=0)=true:=by simpa using g0
  obtain⟨st,ca⟩:=d;unfold eG l7 dI at*;simp only[]at*;clear hk g0;refine aE ?_;exact nE
 obtain⟨M,hM⟩:∃M,jV d a c=M:=⟨_,rfl⟩;rw[hM];obtain⟨g2,g1,g4,g5⟩:=aI0 g0;rw[g5]at c0 g0;have hv:=yW g1;unfold jV at hM;rw[if_pos g2,if_pos ⟨g1,g4⟩,if_pos g0]at hM;obtain⟨h0,h1,f1,f2⟩:=Dm (a:=a) (c:=c) hk g0;rw[g0]at c0;obtain⟨n,hn⟩:∃n:Nat,c-16=n:=⟨(c-16).toNat,by omega⟩
 obtain⟨hC,oF,cW⟩:=Dn g1 g4 hk hn;have c3:=Kh d (a+16) (n:Int) hs h2;rw[cW g2]at c3;simp only[]at c3;generalize gZ d a c=HE at*;obtain⟨⟨h,f⟩,e⟩:=HE;simp only[]at*;generalize qK d a c=C at*;obtain⟨hd,rfl⟩:∃hd:Nat,h=hd:=⟨h.toNat,by omega⟩
 have c4:=aG1 (l9 C hd) f (RL oF hd) (by rw[DP (by omega)];omega)
 have AY:=Dk (l9 C hd) f (RL oF hd);rw[DP (by omega),hC]at AY
 have bJ7:=AY.len;have RN:zD C (hd:Int) f=(mE (l9 C hd) f).1.take (1073741824-f).toNat:=by unfold zD;rw[nC]
 rw[RN]at hM;generalize Dt:mE (l9 C hd) f=Sc at*;obtain⟨R0,S0⟩:=Sc;simp only[]at*;obtain⟨R,hR⟩:∃R,R0.take (1073741824-f).toNat=R:=⟨_,rfl⟩;have fF:=AY.take (1073741824-f).toNat;have CE:f+(R.length:Int)<=1073741824:=by rw[<-hR,eD];omega
 have DZ:R.length=R0.length\/f+(R.length:Int)=1073741824:=by rw[<-hR,eD];omega
 have aJ1:R.length<=R0.length:=by rw[<-hR,eD];omega
 have QR:R0.take R.length=R:=by
  rw[<-hR,eD];rcases Nat.le_total (1073741824-f).toNat R0.length with h9|h9
  ·rw[Nat.min_eq_left h9]
  ·rw[Nat.min_eq_right h9,l4,cR h9]
 rw[hR]at fF hM;obtain⟨c',rfl⟩:∃c':Int,c=c'+16:=⟨c-16,by omega⟩
 obtain rfl:c'=(n:Int):=by omega
 have AZ:(n:Int)+16-16=n:=by omega
 have RO:=fF.sum;have pJ:(cS R).length=R.length:=by unfold cS;rw[mJ]
 have Dx:∀x∈cS R,2<=x/\x<=1026:=fun x hx=>by
  unfold cS at hx;obtain⟨r,hr,rfl⟩:=mS.1 hx;have:=fF.one r hr;omega
 have c5:=ah3 (cS R) (by rw[pJ];have:=fF.len;omega)
 rw[ao4 Dx (by rw[pJ];have:=fF.len;omega)]at c5
 have MI:0<=(cS R).sum:=by
  have:=RK (cS R) 0 (fun x hx=>by have:=Dx x hx;omega)
  simpa using this
 have RP:0<=((hd:Int)+(cS R).sum) % (n:Int)/\((hd:Int)+(cS R).sum) % (n:Int)<(n:Int):=⟨HG _ (by omega),KW _ (by omega)⟩
 rw[AZ]at hM;unfold oE at hM;rw[AZ]at hM;have nJ:(xW C (↑n) (↑hd) (cS R).sum (f+↑R.length)).length=n:=by unfold xW;rw[mJ,UA];exact hC
 have E4:∀i,i<n->(xW C (↑n) (↑hd) (cS R).sum (f+↑R.length)).getD i false=(decide ((cS R).sum<=((i:Int)-hd+n) % n)&&decide (f+↑R.length<=cL (C.getD i aO))):=fun i hi=>by
  unfold xW;rw[lC,iA,uD (by omega)]
  rfl
 generalize xW C (↑n) (↑hd) (cS R).sum (f+↑R.length)=L at*;rw[Dj]at hM;subst hM;unfold eG;have vG:=gS C;have qL:=fun p (hp:p<C.length)=>ZG _ (oF _ (dC aO hp)).1
 obtain⟨st,ca⟩:=d;unfold dI at*;simp only[]at*;clear hk g1 g2 g0 cW RN Dt AY Dx g5;generalize J3:(cS R).sum=sm at*;generalize G7:((hd:Int)+sm) % (n:Int)=tl at*
 replace vG:=aU.mk vG
 replace fF:=aU.mk fF
 replace oF:=aU.mk oF
 replace qL:=aU.mk qL
 replace E4:=aU.mk E4
 replace DZ:=aU.mk DZ
 replace c4:=aU.mk c4
 replace c5:=aU.mk c5
 have w1:IntKind.i64.wrap (a+16)=a+16:=IntWalk.i64_in _ (by omega)
 have w2:IntKind.i64.wrap ((n:Int)+16-16)=n:=by rw[AZ];exact IntWalk.i64_in _ (by omega)
 refine aE ?_;have WZ:4<=n/\n<=4080/\hd<n:=by omega
 refine dP (α:=Nat) n (fun i id=> [(15,true,zV i),(14,true,nG i id),(13,true,zV 0),(12,true,.snap (aA aQ C)),(11,true,zV n),(9,true,zV f),(8,true,zV hd),(4,true,.ptr 2 0 0),(3,true,.ptr 1 0 0)])
  (fun i id=>(1,some (.cells 27 2 [[zV a,zV (↑n+16)]] true false))::(2,some (.cells 30 6 [[.c (.int .i64 0),.c (.int .i64 0),.c (.int .i64 0),.c (.int .i64 0),.c (.int .i64 0),.c (.slice none 0 0)]] true false))::oB 124 8 (aA aQ (y8 C hd n i)) i id)
  (fun i m id=>3<=m/\(0<i->3<=id/\id<m)) ⟨100,0,⟨by omega,by omega⟩,?_⟩ (fun i m id hi bK=> ?_) (fun m id bK=> ?_)
 ·exact aN
 ·obtain⟨hm,aC⟩:=bK
  obtain⟨q,hq⟩:∃q:Nat,(hd+i) % n=q:=⟨_,rfl⟩;have Re:q<n:=by rw[<-hq];exact PD _ (by omega)
  have w2:IntKind.i64.wrap ((hd:Int)+(i:Int))=(hd:Int)+(i:Int):=IntWalk.i64_in _ (by omega)
  have w3:((hd:Int)+(i:Int)).tmod (n:Int)=(q:Int):=by rw[KT (by omega),<-hq];(first|rw[Int.natCast_emod,Int.natCast_add]|simp)
  have w4:¬(n:Int)=0:=by omega
  have w5:IntKind.i64.wrap (q:Int)=(q:Int):=IntWalk.i64_in _ (by omega)
  have hg:=vG.out q (by omega)
  have hr:=Ri C hd n i;rw[hq]at hr;have gH:=Rj C hd n i;rw[hr];generalize C.getD q aO=S at*;generalize y8 C hd n i=L at*;obtain⟨⟨x0,x1,x2,x3⟩,x4,x5,x6,x7⟩:=S;have bH:aQ ((x0,x1,x2,x3),x4,x5,x6,x7)=[uV x0,uV x1,uV x2,uV x3,uV x4,uV x5,uV x6,uV x7]:=rfl;have fW:=nR (f:=aQ) L ((x0,x1,x2,x3),x4,x5,x6,x7);rw[bH]at hg fW;clear hq hr bH vG c4 c5 c3 c0 fF oF CE hR G7 J3 pJ QR aJ1 w1 qL E4 DZ
  cases i with
  |zero=>
   have kX:L=[]:=fI gH;subst kX;clear fW;refine aE ?_;exact⟨m+100,m+1,⟨by omega,fun _=>by omega⟩,aN⟩
  |succ i=>
   obtain⟨i1,i2⟩:=aC (by omega)
   refine aE ?_;exact⟨m+100,m+1,⟨by omega,fun _=>by omega⟩,aN⟩
 ·obtain⟨hm,aC⟩:=bK
  obtain⟨i1,i2⟩:=aC (by omega)
  have DH:nG n id= .own id 0 n:=by
   obtain⟨n',rfl⟩:∃n',n=n'+1:=⟨n-1,by omega⟩
   rfl
  have DI:oB 124 8 (aA aQ (y8 C hd n n)) n id=[(id,some (.cells 124 8 (aA aQ (l9 C hd)) true true))]:=by
   have h9:y8 C hd n n=l9 C hd:=Rh hC (by omega)
   rw[h9];obtain⟨n',rC⟩:∃n',n=n'+1:=⟨n-1,by omega⟩
   rw[rC];rfl
  have gH:(l9 C hd).length=n:=by rw[DP (by omega)];exact hC
  rw[DH,DI];have d4:=c4.out;have iD:(aA aQ (l9 C hd)).take n=aA aQ (l9 C hd):=cR (by rw[fZ,gH];exact cA _)
  have X0:(aA aQ (l9 C hd)).length=n:=by rw[fZ,gH]
  have M4:(∀row,row∈aA aQ (l9 C hd)->∀x,x∈row->bJ x)=True:=eq_true (mN (l9 C hd));clear DH DI aC c4;refine aE ?_;clear d4 iD X0 M4 hR c3 c0
  have oU:aU (∀k,k<R.length->(aA dN R0)[k]? =some [zV (R.getD k cQ).kind,zV (R.getD k cQ).seq,.snap (aA aH (R.getD k cQ).cH)]):=⟨fun k hk=>by
   have h9:=pQ (f:=dN) (l:=R0) (i:=k) cQ (by omega)
   have h8:R0.getD k cQ=R.getD k cQ:=by
    rw[<-QR,lC,lC,gF,if_pos hk]
   rw[h8]at h9
   exact h9⟩
  have zG:aU (∀k,k<R.length->cS (R.take (k+1))=cS (R.take k)++[((((R.getD k cQ).cH.length+10)/4:Nat):Int)]):=⟨fun k hk=>Dq hk⟩
  have zH:aU (∀k,k<=R.length->(cS (R.take k)).length=k):=⟨fun k hk=>by unfold cS;rw[mJ,eD];omega⟩
  have zI:aU (∀k,k<R.length->(R.getD k cQ).cH.length<=4096):=⟨fun k hk=>(fF.out.one _ (dC cQ hk)).2.1⟩
  have X3:2*R.length<=n:=fF.out.len
  have bJ8:R0.length<=100000:=by
   omega
  have wM:cS (R.take 0)=[]:=rfl;have zJ:cS (R.take R.length)=cS R:=by rw[l4]
  generalize RQ:(fun k=>cS (R.take k))=ss at*
  have lF:∀k,cS (R.take k)=ss k:=fun k=>by rw[<-RQ]
  simp only[lF]at zG zH wM zJ;clear lF RQ
  refine dP (α:=Nat) R.length (fun k _=> [(19,true,zV k),(16,true,.snap (aA dN R0)),(18,true,.ptr m 0 0),(12,true,.snap (aA aQ C)),(11,true,zV n),(9,true,zV f),(8,true,zV hd),(4,true,.ptr 2 0 0),(3,true,.ptr 1 0 0)])
   (fun k id=>(1,some (.cells 27 2 [[zV a,zV (↑n+16)]] true false))::(2,some (.cells 30 6 [[.c (.int .i64 0),.c (.int .i64 0),.c (.int .i64 0),.c (.int .i64 0),.c (.int .i64 0),.c (.slice none 0 0)]] true false))::(m,some (.cells 30 6 [[zV a,zV (↑n+16),zV hd,zV 0,zV f,nG k id]] true false))::oB 3 1 (aA bA (ss k)) k id)
   (fun k m' id=>m+10<=m'/\(0<k->m+10<=id/\id<m')) ⟨m+100,0,⟨by omega,by omega⟩,?_⟩ (fun k m' id hk bK=> ?_) (fun m' id bK=> ?_)
  ·rw[wM]
   clear oF oU zG zH zI wM zJ gH pJ hv w1 w2 hn h1 AZ WZ X3 RO MI RP c5 fF qL E4 DZ;simp only[V3,V4];exact Dp
  ·obtain⟨r4,aC⟩:=bK
   have hg:=oU.out k hk;have e2:=zG.out k hk;have e3:=zH.out k (by omega)
   have e5:=zI.out k hk;rw[e2];generalize j9:(R.getD k cQ).cH=P at*;have d5:=Kv (P.length:Int);rw[show sQ (P.length:Int)=((P.length+10)/4:Nat)by unfold sQ;rw[if_neg (by omega)];omega]at d5
   generalize dX:(P.length+10)/4=sz at*;generalize ss k=L at*;generalize (R.getD k cQ).kind=K at*;generalize (R.getD k cQ).seq=Sq at*;have vE:(k:Int)<(R0.length:Int):=by omega
   have xQ:IntKind.i64.wrap (f+(k:Int))=f+(k:Int):=IntWalk.i64_in _ (by omega)
   have kP:f+(k:Int)<1073741824:=by omega
   have fW:=nR (f:=bA) L (sz:Int);have bH:bA (sz:Int)=[zV sz]:=rfl;rw[bH]at fW;clear e2 oU zG zH zI c5 dX j9 oF wM zJ gH DZ vG qL E4 fF pJ;cases k with
   |zero=>
    have kX:L=[]:=fI e3;subst kX;clear fW;refine aE ?_;exact⟨m'+50,m'+10,⟨by omega,fun _=>by omega⟩,aN⟩
   |succ k=>
    obtain⟨i1,i2⟩:=aC (by omega)
    refine aE ?_;exact⟨m'+50,m'+10,⟨by omega,fun _=>by omega⟩,aN⟩
  ·obtain⟨r4,aC⟩:=bK
   rw[zJ];refine aI9 [(19,true,zV (R.length:Nat)),(16,true,.snap (aA dN R0)),(18,true,.ptr m 0 0),(12,true,.snap (aA aQ C)),(11,true,zV n),(9,true,zV f),(8,true,zV hd),(4,true,.ptr 2 0 0),(3,true,.ptr 1 0 0)] m' ((1,some (.cells 27 2 [[zV a,zV (↑n+16)]] true false))::(2,some (.cells 30 6 [[.c (.int .i64 0),.c (.int .i64 0),.c (.int .i64 0),.c (.int .i64 0),.c (.int .i64 0),.c (.slice none 0 0)]] true false))::(m,some (.cells 30 6 [[zV a,zV (↑n+16),zV hd,zV 0,zV f,.snap (aA bA (cS R))]] true false))::[]) (fun X4=> ?_) ?_
   ·clear oU zG zH zI oF wM zJ gH DZ vG qL E4 fF c5
    cases CL:R.length with
    |zero=>
     rw[CL]at pJ;have iM:cS R=[]:=fI pJ;simp only[V3,V4];refine Dv (rws:=[[zV a,zV (↑n+16),zV hd,zV 0,zV f,.c (.slice none 0 0)]]) m [[zV a,zV (↑n+16),zV hd,zV 0,zV f,.snap (aA bA (cS R))]] (vV (iO (.refl _) (iO (.refl _) (iO (.refl _) (iO (.refl _) (iO (.refl _) (iO (by rw[iM];exact .nil) sP)))))) yS) ?_
     rw[CL]at X4;exact tI aN X4
    |succ k=>
     rw[CL]at aC pJ;obtain⟨i1,i2⟩:=aC (by omega)
     refine sX id m [[zV a,zV (↑n+16),zV hd,zV 0,zV f,.snap (aA bA (cS R))]] (rws:=[[zV a,zV (↑n+16),zV hd,zV 0,zV f,.own id 0 (k+1)]]) (by simp(maxSteps:=2000000) (disch:=omega) only[go_sem, *]<;>exact rfl) (by simp(maxSteps:=2000000) (disch:=omega) only[go_sem, *]<;>exact rfl) (by omega) (Rk rfl pJ.symm) ?_
     rw[CL]at X4;exact tI aN X4
   clear oU zG zH zI wM zJ gH;have d5:=c5.out;have v1:IntKind.i64.wrap ((hd:Int)+sm)=(hd:Int)+sm:=IntWalk.i64_in _ (by omega)
   have v2:((hd:Int)+sm).tmod (n:Int)=tl:=by rw[KT (by omega)];exact G7
   have v3:IntKind.i64.wrap tl=tl:=IntWalk.i64_in _ (by omega)
   have v4:¬(n:Int)=0:=by omega
   have Rp:=DZ.out;have bJ9:(aA bA (cS R)).length=R.length:=by rw[fZ,pJ]
   by_cases gg:R.length<R0.length
   all_goals
    (first
      |(have k0:(R.length:Int)<(R0.length:Int):=by omega
        have k1:IntKind.i64.wrap (f+(R.length:Int))=f+(R.length:Int):=IntWalk.i64_in _ (by omega)
        have k2:¬f+(R.length:Int)<1073741824:=by omega
        clear Rp DZ fF c5 J3 G7;refine aE ?_
        clear k0 k1 k2)
      |(have k0:¬(R.length:Int)<(R0.length:Int):=by omega
        clear Rp DZ fF c5 J3 G7;refine aE ?_
        clear k0))
    refine dP (α:=pK) n (fun i c=> [(22,true,zV i),(21,true,zV (G8 c)),(20,true,opsV c),(16,true,.snap (aA dN R)),(18,true,.ptr m 0 0),(12,true,.snap (aA aQ C)),(11,true,zV n),(9,true,zV f),(8,true,zV hd),(4,true,.ptr 2 0 0),(3,true,.ptr 1 0 0)])
     (fun i c=>(1,some (.cells 27 2 [[zV a,zV (↑n+16)]] true false))::(2,some (.cells 30 6 [[.c (.int .i64 0),.c (.int .i64 0),.c (.int .i64 0),.c (.int .i64 0),.c (.int .i64 0),.c (.slice none 0 0)]] true false))::(m,some (.cells 30 6 [[zV a,zV (↑n+16),zV hd,zV tl,zV f,.snap (aA bA (cS R))]] true false))::G9 a c)
     (fun i m2 c=>m'+1<=m2/\ML m2 (m'+1) c/\c.ok L i) ⟨m'+10,.none,⟨by omega,trivial,aI2 L⟩,Dp⟩ (fun i m2 c hi bK=> ?_) (fun m2 c bK=> ?_)
    ·obtain⟨nD,Dy,bU⟩:=bK
     have hg:=vG.out i (by omega)
     have ZT:=qL.out i (by omega)
     have MM:=E4.out i hi;have MH:=G1 (oF.out _ (dC (l:=C) (i:=i) aO (by omega)))
     have J4:=fun h=>aI3 (L:=L) (i:=i) (by omega) h bU
     have x1:IntKind.i64.wrap ((i:Int)-hd)=(i:Int)-hd:=IntWalk.i64_in _ (by omega)
     have x2:IntKind.i64.wrap ((i:Int)-hd+n)=(i:Int)-hd+n:=IntWalk.i64_in _ (by omega)
     have x3:((i:Int)-hd+n).tmod (n:Int)=((i:Int)-hd+n) % n:=KT (by omega)
     have x4:IntKind.i64.wrap (((i:Int)-hd+n) % n)=((i:Int)-hd+n) % n:=IntWalk.i64_in _ (by have:=HG ((i:Int)-hd+n) (show(n:Int)≠0 by omega);have:=KW ((i:Int)-hd+n) (show(0:Int)<n by omega);omega)
     have x5:IntKind.i64.wrap (f+(R.length:Int))=f+(R.length:Int):=IntWalk.i64_in _ (by omega)
     have x6:IntKind.i64.wrap (cL (C.getD i aO))=cL (C.getD i aO):=IntWalk.i64_in _ (by omega)
     generalize J5:((i:Int)-hd+n) % n=v at*;generalize C.getD i aO=S at*;generalize DM:cL S=gs at*;obtain⟨⟨y0,y1,y2,y3⟩,y4,y5,y6,y7⟩:=S;have bH:aQ ((y0,y1,y2,y3),y4,y5,y6,y7)=[uV y0,uV y1,uV y2,uV y3,uV y4,uV y5,uV y6,uV y7]:=rfl;rw[bH]at hg ZT;clear vG qL E4 oF bH DM J5;by_cases t1:v<sm
     ·have RS:L.getD i false=false:=by rw[MM,decide_eq_false (by omega),TW]
      have sB:=J4 RS;clear J4 MM RS;refine aE ?_;exact⟨m2+50,c,⟨by omega,by(cases c<;>simp only[ML]at* <;>omega),sB⟩,aN⟩
     ·by_cases t2:gs<f+(R.length:Int)
      ·have RS:L.getD i false=false:=by rw[MM,decide_eq_false (p:=f+(R.length:Int)<=gs) (by omega),It]
       have sB:=J4 RS;clear J4 MM RS;refine aE ?_;exact⟨m2+50,c,⟨by omega,by(cases c<;>simp only[ML]at* <;>omega),sB⟩,aN⟩
      ·have J6:L.getD i false=true:=by rw[MM,decide_eq_true (by omega),decide_eq_true (by omega)];rfl
       clear J4 MM;cases c with
       |none=>
        have sB:=aI4 (m2+25+1+1) (m2+25) J6 bU;clear bU J6;simp only[G8,opsV,G9];have z1:¬(i:Int)= -1:=by omega
        refine aE ?_;refine⟨m2+60,.some [] i 0 (m2+25+1+1) (m2+25),⟨by omega,by simp only[ML,gL];omega,sB⟩,?_⟩
        simp only[G8,opsV,G9,y9,gL,sM];exact aN
       |some G s k id lI=>
        obtain⟨j1,j2,j3,j4,j5,j6⟩:=Dy;have hle:=Ro bU;simp only[G8,opsV,G9];have Rq:(aA bC (G.map (lH a))).length=G.length:=by rw[fZ,mJ]
        by_cases e9:s+(k+1)=i
        ·have z2:(s:Int)+(k:Int)+1=(i:Int):=by omega
         have z1:IntKind.i64.wrap ((s:Int)+(k:Int)+1)=(i:Int):=by rw[IntWalk.i64_in _ (by omega)];exact z2
         have sB:=Rm id m2 J6 bU e9;have z3:IntKind.i64.wrap (((G.length+1:Nat):Int)-1)=(G.length:Int):=by rw[IntWalk.i64_in _ (by omega)];omega
         have bK0:(y9 a G s k lI)[G.length]? =some [zV 0,zV (a+16+(s:Int)),.own lI 0 (k+1)]:=by
          unfold y9;rw[lD (by omega),Rq,tG]
          rfl
         have fW:=nR (f:=aQ) (List.replicate (k+1) aO) aO;have Rr:List.replicate (k+1) aO++[aO]=List.replicate (k+1+1) aO:=by rw[<-List.replicate_succ']
         rw[Rr]at fW;have gH:(y9 a G s k lI).length=G.length+1:=by unfold y9;rw[cP,Rq];rfl
         have bK1:(aA aQ (List.replicate (k+1) aO)).length=k+1:=by rw[fZ,BO]
         generalize Rs:y9 a G s k lI=RW at*;generalize aA aQ (List.replicate (k+1) aO)=DW at*;generalize pL:aA aQ (List.replicate (k+1+1) aO)=D1 at*;have jD:=aI8 a G s k lI (m2+25+1);rw[Rs]at jD
         replace jD:=aU.mk jD
         replace pL:=aU.mk pL
         have z5:(s:Int)+((k+1:Nat):Int)=(i:Int):=by omega
         replace sB:=aU.mk (Rm id (m2+25+1) J6 bU e9)
         clear bU J6 Rr Rs;refine aE ?_;refine⟨m2+60,.some G s (k+1) id (m2+25+1),⟨by omega,by simp only[ML];omega,sB.out⟩,?_⟩
         simp only[G8,opsV,G9];rw[z5,pL.out,<-jD.out];exact aN
        ·have z2:¬(i:Int)=(s:Int)+(k:Int)+1:=by omega
         have z1:IntKind.i64.wrap ((s:Int)+(k:Int)+1)=(s:Int)+(k:Int)+1:=IntWalk.i64_in _ (by omega)
         have sB:=aU.mk (aI5 (m2+25+1+1) (m2+25) J6 bU e9);have B0:(G++[(s,k+1)]).length=G.length+1:=by rw[cP];rfl
         refine sX lI id (aA bC ((G++[(s,k+1)]).map (lH a))) (rws:=y9 a G s k lI) (by simp(maxSteps:=2000000) (disch:=omega) only[go_sem, *]<;>exact rfl) (by simp(maxSteps:=2000000) (disch:=omega) only[go_sem, *]<;>exact rfl) j5 (by rw[yO];exact MG rfl (by simp)) ?_
         have bK2:(aA bC ((G++[(s,k+1)]).map (lH a))).length=G.length+1:=by rw[fZ,mJ,B0]
         generalize Dz:aA bC ((G++[(s,k+1)]).map (lH a))=RW2 at*
         replace Dz:=aU.mk Dz
         replace B0:=aU.mk B0
         clear bU J6;refine aE ?_;refine⟨m2+60,.some (G++[(s,k+1)]) i 0 (m2+25+1+1) (m2+25),⟨by omega,by simp only[ML,B0.out];omega,sB.out⟩,?_⟩
         simp only[G8,opsV,G9,y9];rw[B0.out,Dz.out];exact aN
    ·obtain⟨nD,Dy,bU⟩:=bK
     rw[<-nJ]at bU;clear vG qL E4 oF;cases c with
     |none=>
      rw[aI7 bU,if_pos rfl,sM,rO];simp only[G8,opsV,G9];clear bU;refine aE ?_;exact aB
     |some G s k id lI=>
      obtain⟨j1,j2,j3,j4,j5,j6⟩:=Dy;have hle:=Ro bU;rw[aI6 bU,if_neg (by simp)]
      simp only[G8,opsV,G9];have B0:((G++[(s,k+1)]).map (lH a)).length=G.length+1:=by rw[mJ,cP];rfl
      have hOv:∃O,(G++[(s,k+1)]).map (lH a)=O:=⟨_,rfl⟩;refine sX lI id (aA bC ((G++[(s,k+1)]).map (lH a))) (rws:=y9 a G s k lI) (by simp(maxSteps:=2000000) (disch:=omega) only[go_sem, *]<;>exact rfl) (by simp(maxSteps:=2000000) (disch:=omega) only[go_sem, *]<;>exact rfl) j5 (by rw[yO];exact MG rfl (by simp)) ?_
      generalize (G++[(s,k+1)]).map (lH a)=O at*;have yV:=ZV O;have hex:=fun G k=>Pb G k O
      have M4:(∀row,row∈aA bC O++[[zV 1,zV 0,.c (.slice none 0 0)]]->∀x,x∈row->bJ x)=True:=eq_true (Cl O);have iD:(aA bC O++[[zV 1,zV 0,.c (.slice none 0 0)]]).take (G.length+1+1)=aA bC O++[[zV 1,zV 0,.c (.slice none 0 0)]]:=cR (by rw[cP,fZ,B0];exact cA _)
      clear bU hOv;refine aE ?_;refine⟨?_,?_⟩
      ·(simp(maxSteps:=2000000) (disch:=omega) only[go_sem,eU,e8,eN,eF,false_implies,implies_true, *])
      ·(simp(maxSteps:=2000000) (disch:=omega) only[go_sem,eU,e8,eN,eF,false_implies,implies_true, *];exact DA (iO (.refl _) (iO (.refl _) (iO (C3 yV) (iO (.refl _) sP)))))
end Go.Proofs.YtioafciifiggaaaGreatDoor
