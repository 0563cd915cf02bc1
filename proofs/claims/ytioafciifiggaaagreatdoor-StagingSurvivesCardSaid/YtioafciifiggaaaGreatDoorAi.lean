/- Staging. No condition. -/
import Derived.Test.YtioafciifiggaaaGreatDoorL0
import Derived.Test.YtioafciifiggaaaGreatDoorAh
import Derived.Test.YtioafciifiggaaaGreatDoorAf
import Derived.Test.YtioafciifiggaaaGreatDoorAg
set_option linter.all false
namespace Go.Proofs.YtioafciifiggaaaGreatDoor
open Go.Proofs Go.AL
set_option maxRecDepth 100000
set_option maxHeartbeats 1000000
attribute [local irreducible] cH AW b9 dR eH hold
theorem qC{σ:AS}{env:List (Nat×Bool×AV)}{N:Nat}{G:Nat->Option aI}{T:List (Nat×Option aI)}(w:Holds σ env ⟨N,fR G T⟩:=by
  ((repeat (refine uG (by first|rfl|(simp(disch:=omega) only[go_sem, *];done)|(simp(disch:=omega) only[go_sem, *];rfl)) ?_));(refine holds_nil (by simp only[];omega) ?_);(refine UP (by assumption) ?_ ?_);(next=>((repeat (first|refine ZT (by first|rfl|(simp(disch:=omega) only[go_sem, *];done)|(simp(disch:=omega) only[go_sem, *];rfl)) ?_|refine UQ ?_));exact KR));(next=>(simp only[xP,GJ,or_false,false_or,or_true,true_or,and_true,true_and,cE]<;>omega)))):Holds σ env ⟨N,fR G T⟩:=w
abbrev GK:AV:= .c (.slice none 0 0)
def aV9(d:bL)(c:List Int)(n:Nat)(env:List (Nat×Bool×AV))(H:Heap):Prop:=
 ∃(j N:Nat) (G:Nat->Option aI) (es:List (Value×AV)) (ks:List Int) (nI:Int->Nat),n=d.ca.length-j/\j<=d.ca.length/\3<=N/\uN G N (d.ca.take j) es ks nI/\(∀id,N<=id->G id=none)/\
  env=[(23,true,zV (j:Int)),(22,true,zV (d.ca.length:Int)),(21,true,.snap (aA iP d.ca)),(6,true,.omap 2),(4,true,.ptr 1 0 0),(2,true,.ptr 0 0 0),(1,true,.snap (aA bD c))]/\
  H=⟨N,fR G [(0,some (.cells 25 2 [[.snap (aA aS d.st),.snap (aA iP d.ca)]] true false)),(1,some (.cells 25 2 [[GK,GK]] true false)),(2,some (.map es))]⟩
def aW0(d:bL)(c sk:List Int)(G:Nat->Option aI)(N:Nat)(es:List (Value×AV))(n:Nat)(env:List (Nat×Bool×AV))(H:Heap):Prop:=
 ∃(k N2:Nat),n=sk.length-k/\k<=sk.length/\N+3<=N2/\
  env=[(48,true,zV (k:Int)),(47,true,zV (sk.length:Int)),(46,true,.snap (aA bD sk)),(10,true,.snap (aA bD (vJ d.ca d.st c sk k).2)),(9,true,.ptr (N+1) 0 0),(6,true,.omap 2),(4,true,.ptr 1 0 0)]/\
  H=⟨N2,fR G [(0,none),(1,some (.cells 25 2 [[GK,GK]] true false)),(2,some (.map es)),(N+1,some (.cells 25 2 [[.own N 0 d.st.length,GK]] true false)),(N,some (.cells 124 8 (aA aS (vJ d.ca d.st c sk k).1) true true))]⟩
theorem aW1(d:bL)(c:List Int)(hL:c.length<=1000000)(h1:d.st.length<=1000000)(h2:d.ca.length<=1000000)(hc:dM d≠0):PC 59 [.agg (bM d),.snap (aA bD c)] (.aU [.agg (bM (oO d c).1),.snap (aA bD (oO d c).2)]):=by
 refine bI Tryz.func59 Tryz.ntmps59 (by simp only[go_sem,bM]) ?_
 have hS:oO d c=(d,c):=if_neg hc;have c1:=CZ d h1 h2;rw[hS];clear hS;unfold bM at*;refine aD ?_;exact aC
theorem Ht{d:bL}(h:dM d=0):(∀c∈d.ca,0<=c.1/\c.1<(d.st.length:Int))/\d.st.length<=4096:=⟨(EI h).2,(EI h).1⟩
theorem aW2(d:bL)(c:List Int)(aJ:d.st≠[])(hL:c.length<=1000000)(hC:d.ca.length<=900000)(hc:dM d=0):PC 59 [.agg (bM d),.snap (aA bD c)] (.aU [.agg (bM (oO d c).1),.snap (aA bD (oO d c).2)]):=by
 refine bI Tryz.func59 Tryz.ntmps59 (by simp only[go_sem,bM]) ?_
 have kN:=(Ht hc).1;have eG:=(Ht hc).2;have hS:oO d c=(⟨(vI d.ca d.st c d.st.length).1,[]⟩,(vI d.ca d.st c d.st.length).2):=if_pos hc;rw[hS];have c1:=CZ d (by omega) (by omega)
 rw[hc]at c1;have xQ:=gC d.ca;have hx0:∀(x:Int) (s:aH),(aA iP [(x,s)])[0]? =some (zV x::aS s):=fun _ _=>rfl
 have ZU:(IntKind.i64==IntKind.i64)=true:=rfl;have hx:bB (∀r:List AV,(aA iP [(0,aE)]).set 0 r=[r]):=⟨fun _=>rfl⟩
 clear hS hc;unfold bM at*;refine aD ?_;refine UR (aV9 d c) d.ca.length ?_ ?_
 ·refine⟨_,_,⟨0,1000,fun _=>none,[],[],fun _=>0,by omega,by omega,by omega,uN.start,fun _ _=>rfl,rfl,rfl⟩,?_⟩
  rw[<-aV8];exact aT
 ·rintro n env H ⟨j,N,G,es,ks,nI,rfl,hj,hN,hM,hG,rfl,rfl⟩
  have hk:=hM.keys;simp only[go_sem]at hk;by_cases bG:j<d.ca.length
  ·have iI:bB (d.ca.take (j+1)=d.ca.take j++[d.ca.getD j (0,aE)]):=⟨by
    rw[I0 bG];simp[bG]⟩
   have IG:(iY (d.ca.take j) (d.ca.getD j (0,aE)).1).length<=900000:=s8 (Vw _ _) (by simp;omega)
   have UI:=xQ j bG;clear xQ kN;by_cases hq:(d.ca.getD j (0,aE)).1∈ks
   ·have hl:=hM.We hq
    obtain⟨w,hm⟩:=hM.get _ hq;have hr:=hM.KQ _ hq;have Wi:bB (∀q∈ks,nI q=nI (d.ca.getD j (0,aE)).1->q=(d.ca.getD j (0,aE)).1):=⟨fun q UO (he:nI q=nI (d.ca.getD j (0,aE)).1)=>hM.inj q UO _ hq he⟩
    generalize nI (d.ca.getD j (0,aE)).1=m at hl hm hr Wi;have wL:bB (uN G N (d.ca.take j) es ks nI):=⟨hM⟩;clear hM;refine aD ?_;have gQ:=hx.out;refine aD ?_
    obtain⟨UL,UM,US⟩:=wL.out.put (d.ca.getD j (0,aE)) (m:=N+1+1+10) (N':=N+1000) (w:=w) (G':=fR G [(m,none),(N+1+1+10,some (.cells 124 8 (aA aS (iY (d.ca.take j) (d.ca.getD j (0,aE)).1++[(d.ca.getD j (0,aE)).2])) w true))])
     (by omega) (by omega) (by omega) (by simp only[fR,qB];rw[if_neg (by omega),if_pos trivial]) (fun q zY oH=>by
       have h1:=wL.out.KQ q zY;have h2:nI q≠m:=fun e=>oH (Wi.out q zY e)
       simp only[fR,qB];rw[if_neg h2,if_neg (by omega)])
    refine⟨d.ca.length-(j+1),by omega,_,_,⟨j+1,N+1000,_,_,UL,UM,rfl,by omega,by omega,by rw[iI.out];exact US,Wj hG (by omega) (by simp only[UT,and_true]<;>omega),rfl,rfl⟩,?_⟩
    rw[Hu];simp only[yI,pW];exact qC
   ·have hl:=hM.aV1 hq
    have h0:iY (d.ca.take j) (d.ca.getD j (0,aE)).1=[]:=by
     have:=mt (hM.mem (d.ca.getD j (0,aE)).1).2 hq;simpa using this
    have wL:bB (uN G N (d.ca.take j) es ks nI):=⟨hM⟩;clear hM;refine aD ?_;have gQ:=hx.out;refine aD ?_
    obtain⟨UL,UM,US⟩:=wL.out.put (d.ca.getD j (0,aE)) (m:=N+1+1+10) (N':=N+1000) (w:=true) (G':=fR G [(N+1+1+10,some (.cells 124 8 (aA aS [(d.ca.getD j (0,aE)).2]) true true))])
     (by omega) (by omega) (by omega) (by rw[h0];simp only[fR,qB];rw[if_pos trivial];rfl) (fun q zY oH=>by
       have h1:=wL.out.KQ q zY
       simp only[fR,qB];rw[if_neg (by omega)])
    rw[h0]at US;simp only[fJ,pJ]at US;refine⟨d.ca.length-(j+1),by omega,_,_,⟨j+1,N+1000,_,_,UL,UM,rfl,by omega,by omega,by rw[iI.out];exact US,Wj hG (by omega) (by simp only[UT,and_true]<;>omega),rfl,rfl⟩,?_⟩
    rw[Hu];simp only[yI,pW];exact qC
  ·obtain rfl:j=d.ca.length:=by omega
   rw[lI]at hM;have aW3:=hM.fst;have cA3:es.length=ks.length:=by rw[hM.es];simp
   have Hw:∀q∈ks,0<=q/\q<d.st.length:=fun q hq=>aV6 kN hM.nodup hM.mem hq
   have qU:ks.length<=d.st.length:=aV7 kN hM.nodup hM.mem;have cS:=Ut d.st aJ (by omega)
   have wL:bB (uN G N d.ca es ks nI):=⟨hM⟩;clear xQ hM;refine aD ?_;refine kA Tryz.func134 Tryz.ntmps134 ?_;refine aD ?_;refine EK (args:=[.fn (.func 185) [] [.ptr (N+3) 0 0]]) (n:=133) rfl rfl ?hc (Wa (bid:=N+3) (id:=2) (w:=true) (a:=false) (es:=es) (ks:=ks) ?ha ?hb aW3 ?hd (by omega)) ?hrest
   case hc=>simp(maxSteps:=2000000) (disch:=omega) only[go_sem, *]<;>rfl
   case ha=>simp(maxSteps:=2000000) (disch:=omega) only[go_sem, *]<;>rfl
   case hb=>simp(maxSteps:=2000000) (disch:=omega) only[go_sem, *]<;>rfl
   case hd=>exact fun q hq=>by have:=Hw q hq;unfold ZP;omega
   case hrest=>
    rintro r H' ⟨rfl,rfl⟩;have Hy:=Wh ks;have Wl:bB (∀k,k<(ks.mergeSort leI).length->(ks.mergeSort leI).getD k 0∈ks):=⟨fun k h=>aV5 (ks:=ks) h⟩
    have eR:bB (_=_):=⟨aV4 c kN wL.out.nodup wL.out.mem⟩;have aW4:bB (∀q∈ks,0<=q/\q<(d.st.length:Int)):=⟨Hw⟩;clear Hw kN;generalize ks.mergeSort leI=sk at Hy Wl eR;have cA4:sk.length<=4096:=by omega
    have cA5:=bB.mk Hy;clear Hy;have k8:=gI sk;have IH:=gS;refine aD ?_;refine UR (aW0 d c sk G N es) sk.length ?_ ?_
    ·refine⟨_,_,⟨0,N+1000,by omega,by omega,by omega,rfl,rfl⟩,?_⟩
     exact qC
    ·rintro n env H ⟨k,N2,rfl,iX,KS,rfl,rfl⟩
     have hlen:=Wf d.ca d.st c sk k iX;have ZV:=Wg d.ca d.st c sk k iX;by_cases bG:k<sk.length
     ·have hq:=Wl.out k bG
      have Wm:=aW4.out _ hq;have hl:=wL.out.We hq;obtain⟨w,hm⟩:=wL.out.get _ hq;have hr:=wL.out.KQ _ hq;have Hk:=(wL.out.mem _).1 hq;have IG:=Vw d.ca (sk.getD k 0);have yO:=Hr (ca:=d.ca) (st:=d.st) (c:=c) bG;have II:(((sk.getD k 0).toNat:Nat):Int)=sk.getD k 0:=by omega
      unfold D4 at yO;rw[II]at yO;have yP:¬(iY d.ca (sk.getD k 0)).length=0:=fun h=>Hk (jQ h)
      rw[if_neg yP]at yO;generalize nI (sk.getD k 0)=m at hl hm hr;generalize iY d.ca (sk.getD k 0)=V at*;have OU:=Vv (vJ d.ca d.st c sk k).2 (n:=(V.length:Int)+1) (by omega)
      have xR:=Vu (vJ d.ca d.st c sk k).2 ((V.length:Int)+1);have hd:=aT4 (vJ d.ca d.st c sk k).2 ((V.length:Int)+1) (by omega) (by omega) (by omega)
      generalize xL (vJ d.ca d.st c sk k).2 ((V.length:Int)+1)=q at OU xR hd yO;have fD:=k8 k bG;clear k8 yP Hk hq II;obtain⟨q1,q2⟩:=q;simp only[]at OU xR hd yO;obtain⟨S,hS⟩:∃S:Nat,sk.getD k 0=(S:Int):=BA Wm.1;rw[hS]at fD yO Wm hl;rw[mE]at yO;have Wn:=bB.mk hS;clear hS;by_cases hn:0<q1
      ·rw[if_pos hn]at yO
       obtain⟨Q,rfl⟩:∃Q:Nat,q1=(Q:Int)+1:=⟨(q1-1).toNat,by omega⟩
       have e1:(Q:Int)+1-1=(Q:Int):=by omega
       rw[e1,mE]at yO;have Hz:=bB.mk yO;have w1:IntKind.i64.wrap ((Q:Int)+1-1)=(Q:Int):=by rw[e1];exact IntWalk.i64_in _ (by omega)
       have hgv:=IH V Q (by omega)
       have KT:S<(vJ d.ca d.st c sk k).1.length:=by omega
       have hgw:=IH _ S KT;clear yO IH;refine aD ?_;refine⟨sk.length-(k+1),by omega,_,_,⟨k+1,N2+1000,rfl,by omega,by omega,rfl,rfl⟩,?_⟩
       rw[Hz.out];exact qC
      ·rw[if_neg hn]at yO
       have Hz:=bB.mk yO;clear yO IH;refine aD ?_;refine⟨sk.length-(k+1),by omega,_,_,⟨k+1,N2+1000,rfl,by omega,by omega,rfl,rfl⟩,?_⟩
       rw[Hz.out];exact qC
     ·obtain rfl:k=sk.length:=by omega
      have iI:(vJ d.ca d.st c sk sk.length).1.take d.st.length=(vJ d.ca d.st c sk sk.length).1:=eD (by omega)
      have cI:=ZF (vJ d.ca d.st c sk sk.length).2 (by omega)
      rw[<-eR.out];clear k8 IH;have IJ:aA iP []=[]:=rfl;refine aD ?_;exact aC
theorem aW5(c:List Int)(hL:c.length<=1000000):PC 59 [.agg (bM ⟨[],[]⟩),.snap (aA bD c)] (.aU [.agg (bM (oO ⟨[],[]⟩ c).1),.snap (aA bD (oO ⟨[],[]⟩ c).2)]):=by
 refine bI Tryz.func59 Tryz.ntmps59 (by simp only[go_sem,bM]) ?_
 have hS:oO ⟨[],[]⟩ c=(⟨[],[]⟩,c):=rfl;rw[hS];have c1:=CZ ⟨[],[]⟩ (iG _) (iG _);have h0:dM ⟨[],[]⟩=0:=rfl;rw[h0]at c1;have e1:aA aS []=[]:=rfl;have e2:aA iP []=[]:=rfl;have ZU:(IntKind.i64==IntKind.i64)=true:=rfl;unfold bM at*;have cS:=U0 [] (iG _);simp only[e1,e2]at*;refine aD ?_;refine kC 1 ?_;refine aD ?_;refine kA Tryz.func134 Tryz.ntmps134 ?_
 refine aD ?_;refine EK (args:=[.fn (.func 185) [] [.ptr 5 0 0]]) (n:=133) rfl rfl ?hc (Wa (bid:=5) (id:=2) (w:=true) (a:=false) (es:=[]) (ks:=[]) ?ha ?hb rfl (fun q hq=>by cases hq) (by simp)) ?hrest
 case hc=>simp(maxSteps:=2000000) (disch:=omega) only[go_sem, *]<;>rfl
 case ha=>simp(maxSteps:=2000000) (disch:=omega) only[go_sem, *]<;>rfl
 case hb=>simp(maxSteps:=2000000) (disch:=omega) only[go_sem, *]<;>rfl
 case hrest=>
  rintro r H' ⟨rfl,rfl⟩;have h9:([]:List Int).mergeSort leI=[]:=by simp
  rw[h9];have cI:=ZF c (by omega)
  have e3:aA bD []=[]:=rfl;refine aD ?_;refine kC 1 ?_;refine aD ?_;exact aC
theorem aW6(d:bL)(c:List Int)(hL:c.length<=1000000)(h1:d.st.length<=1000000)(hC:d.ca.length<=900000):PC 59 [.agg (bM d),.snap (aA bD c)] (.aU [.agg (bM (oO d c).1),.snap (aA bD (oO d c).2)]):=by
 by_cases hc:dM d=0
 ·by_cases hs:d.st=[]
  ·have ZW:d.ca=[]:=by
    have h:=(Ht hc).1;rw[hs]at h;cases hd:d.ca with
    |nil=>rfl
    |cons x l=>have:=h x (by rw[hd];simp);simp at this;omega
   obtain⟨st,ca⟩:=d;simp only at hs ZW;subst ZW hs;exact aW5 c hL
  ·exact aW2 d c hs hL hC hc
 ·exact aW1 d c hL h1 (by omega) hc
def KU(d:bL)(ops:List nH)(a:Int)(c:List Int):bL×List Int×Int:=
 if dM d=0 then
  if a<0\/(ops.length:Int)<a then(nG,[],2)
  else if(oN d (ops.take a.toNat)).2.2=0 then((oO (oN d (ops.take a.toNat)).1 c).1,(oO (oN d (ops.take a.toNat)).1 c).2,0)
  else(nG,[],(oN d (ops.take a.toNat)).2.2)
 else(nG,[],dM d)
theorem aW7(d:bL)(ops:List nH)(a:Int)(c:List Int)(hL:c.length<=1000000)(h1:d.st.length<=1000000)(ho:ops.length<=1000000)(h2:d.ca.length+ops.length*4096<=900000)(h3:(oN d (ops.take a.toNat)).1.st.length<=1000000/\(oN d (ops.take a.toNat)).1.ca.length<=900000):PC 25 [.agg (bM d),.snap (aA bJ ops),zV a,.snap (aA bD c)] (.aU [.agg (bM (KU d ops a c).1),.snap (aA bD (KU d ops a c).2.1),zV (KU d ops a c).2.2]):=by
 refine bI Tryz.func25 Tryz.ntmps25 (by simp only[go_sem,bM]) ?_
 have c1:=CZ d h1 (by omega)
 obtain⟨M,hM⟩:∃M,KU d ops a c=M:=⟨_,rfl⟩;rw[hM];unfold KU at hM;by_cases g1:dM d=0
 ·rw[if_pos g1]at hM
  rw[g1]at c1;clear g1;by_cases g2:a<0
  ·rw[if_pos (by omega)]at hM
   subst hM;unfold nG bM at*;simp only[]at*;refine aD ?_;exact aC
  by_cases g3:(ops.length:Int)<a
  ·rw[if_pos (by omega)]at hM
   subst hM;unfold nG bM at*;simp only[]at*;refine aD ?_;exact aC
  rw[if_neg (by omega)]at hM
  obtain⟨A,rfl⟩:=BA (by omega:0<=a)
  have hA:A<=ops.length:=by omega
  rw[mE]at hM;have bG:(ops.take A).length<=ops.length:=by rw[cU];omega
  have c2:=UF d (ops.take A) h1 (by omega)
  rw[mE]at h3;obtain⟨h4,h5⟩:=h3;have et:(aA bJ ops).take A=aA bJ (ops.take A):=by unfold aA;rw[TH]
  generalize oN d (ops.take A)=R at*;obtain⟨x,n,e⟩:=R;simp only[]at*;have c3:=aW6 x c hL h4 h5;generalize oO x c=Y at*;clear bG;by_cases g4:e=0
  ·rw[if_pos g4]at hM
   subst hM;have g5:(e==0)=true:=by simp[g4]
   have g6:=bB.mk g4;rw[g4]at c2;clear g4 g5;unfold bM at*;refine aD ?_;exact aC
  ·rw[if_neg g4]at hM
   subst hM;unfold nG bM at*;simp only[]at*;refine aD ?_;exact aC
 ·rw[if_neg g1]at hM
  subst hM;generalize dM d=e at*;unfold nG bM at*;simp only[]at*;refine aD ?_;exact aC
def OV(n:Int):bL×Int:=if n<0\/4096<n then(nG,2)else(⟨qR n,[]⟩,0)
theorem Wo(n:Int):PC 18 [zV n] (.aU [.agg (bM (OV n).1),zV (OV n).2]):=by
 refine bI Tryz.func18 Tryz.ntmps18 (by simp only[go_sem,bM]) ?_
 obtain⟨M,hM⟩:∃M,OV n=M:=⟨_,rfl⟩;rw[hM];unfold OV at hM;by_cases g2:n<0
 ·rw[if_pos (by omega)]at hM
  subst hM;unfold nG bM at*;simp only[]at*;refine aD ?_;exact aC
 by_cases g3:4096<n
 ·rw[if_pos (by omega)]at hM
  subst hM;unfold nG bM at*;simp only[]at*;refine aD ?_;exact aC
 rw[if_neg (by omega)]at hM
 subst hM;obtain⟨A,rfl⟩:=BA (by omega:0<=n)
 have hA:A<=4096:=by omega
 have hAl:(List.replicate A aE).length=A:=s6 ..;have hAt:(List.replicate A aE).take A=List.replicate A aE:=eD (by simp)
 have e2:aA iP []=[]:=rfl;unfold qR bM at*;rw[mE];simp only[e2]at*;refine aD ?_;exact aC
end Go.Proofs.YtioafciifiggaaaGreatDoor
namespace Go.Proofs.YtioafciifiggaaaGreatDoor
open Go.Proofs Go.AL
set_option maxRecDepth 100000
theorem aW8{n:Int}(h:0<=n):gb n 0=n % 256/\gb n 1=n/256 % 256/\gb n 2=n/65536 % 256/\gb n 3=n/16777216 % 256:=by
 unfold gb;simp only[IntKind.wrap_u8];refine⟨?_,?_,?_,?_⟩<;>rw[Tk _ (by decide)]
 ·simp
 ·rfl
 ·rfl
 ·rfl
theorem aW9{n:Int}(h0:0<=n)(h1:n<4294967296)(D:List Int)(k:Nat):bN (zR n D k)=n:=by
 obtain⟨g0,g1,g2,g3⟩:=aW8 h0;simp only[bN,zR,g0,g1,g2,g3];omega
theorem Ia{n:Int}(h0:0<=n)(h1:n<4294967296)(p:List Int):∀s∈lK n p,bN s=n:=by
 intro s hs;simp only[lK,cG,jF,or_false]at hs;rcases hs with rfl|rfl|rfl|rfl|rfl|rfl|rfl|rfl<;>exact aW9 h0 h1 _ _
theorem Wp(n:Int){p:List Int}(hp:p.length<=31):gD (lK n p)=tN p:=by
 obtain⟨d0,d1,d2,d3,d4,d5,d6,d7,d8,d9,d10,d11,d12,d13,d14,d15,d16,d17,d18,d19,d20,d21,d22,d23,d24,d25,d26,d27,d28,d29,d30,d31,h⟩:=Uk (Uj hp);unfold lK;rw[h];rfl
theorem OW(n:Int)(p:List Int):(lK n p).length=8:=rfl
theorem Wq{n:Int}(h0:0<=n)(h1:n<4294967296){p:List Int}(hp:p.length<=31):eB (lK n p)=(p,n):=by
 have hg:=Ia h0 h1 p
 have hs:G8 (lK n p)=true:=by
  unfold G8;rw[gK];intro s hs;rw[hg s hs,hg _ (cQ aE (by rw[OW];decide))]
  simp
 have hd:(gD (lK n p)).getD 0 0=(p.length:Int):=by rw[Wp n hp];rfl
 unfold eB;rw[if_pos hs,hd,if_neg (by omega),Wp n hp,hg _ (cQ aE (by rw[OW];decide))]
 have OU:(tN p).drop (p.length+1)=List.replicate (31-p.length) 0:=by
  unfold tN;rw[NZ,aF3]
 have iI:((tN p).drop 1).take p.length=p:=by
  unfold tN;rw[NZ,CO,aF4]
 simp only[mE,OU,iI];rw[if_pos (by rw[gK];intro x hx;rw[(I2.1 hx).2];rfl)]
structure zZ(X Y:List aH)(p:List Int)(K:Int):Prop where
 lX:X.length=8
 lY:Y.length=8
 UU:∀s∈X,dC s
 ZX:∀s∈Y,dC s
 gX:∀s∈X,bN s<=K
 gY:∀s∈Y,bN s<=K
 cur:∃g,1<=g/\eB X=(p,g)/\(eB Y).2<g
def sV(A B:List aH)(p:List Int)(K:Int):Prop:=zZ A B p K\/zZ B A p K
theorem zZ.mono{X Y:List aH}{p:List Int}{K L:Int}(h:zZ X Y p K)(hl:K<=L):zZ X Y p L:=
 ⟨h.lX,h.lY,h.UU,h.ZX,fun s hs=>by have:=h.gX s hs;omega,fun s hs=>by have:=h.gY s hs;omega,h.cur⟩
theorem sV.mono{X Y:List aH}{p:List Int}{K L:Int}(h:sV X Y p K)(hl:K<=L):sV X Y p L:=h.elim (fun h=> .inl (h.mono hl)) fun h=> .inr (h.mono hl)
theorem Ib(l:List aH):(eB l).2=0\/((eB l).2=bN (l.getD 0 aE)/\G8 l=true):=by
 unfold eB;split
 ·rename_i hs
  split
  ·exact .inl rfl
  ·split
   ·exact .inr ⟨rfl,hs⟩
   ·exact .inl rfl
 ·exact .inl rfl
theorem aX0{H N O:List aH}{t:Int}(lH:H.length=8)(lN:N.length=8)(lO:O.length=8)(hm:∀j,j<8->H.getD j aE=N.getD j aE\/H.getD j aE=O.getD j aE)(hN:∀s∈N,bN s=t)(hO:∀s∈O,bN s<t):
  H=N\/H=O\/(eB H).2=0:=by
 have gN:∀j,j<8->bN (N.getD j aE)=t:=fun j hj=>hN _ (cQ aE (by omega))
 have gO:∀j,j<8->bN (O.getD j aE)<t:=fun j hj=>hO _ (cQ aE (by omega))
 have ext:∀L:List aH,L.length=8->(∀j,j<8->H.getD j aE=L.getD j aE)->H=L:=fun L hL h=>by
  refine I3 (by omega) fun i h1 h2=> ?_
  have:=h i (by omega)
  simpa[h1,h2]using this
 by_cases c1:∀j,j<8->H.getD j aE=N.getD j aE
 ·exact .inl (ext N lN c1)
 by_cases c2:∀j,j<8->H.getD j aE=O.getD j aE
 ·exact .inr (.inl (ext O lO c2))
 refine .inr (.inr ?_);rcases Ib H with h|⟨_,hs⟩
 ·exact h
 exfalso;rw[Classical.not_forall]at c1 c2;obtain⟨a,c1⟩:=c1;obtain⟨b,c2⟩:=c2;rw[Classical.not_imp]at c1 c2;have a1:=(hm a c1.1).resolve_left c1.2;have b1:=(hm b c2.1).resolve_right c2.2;unfold G8 at hs;rw[gK]at hs;have ha:=hs _ (cQ aE (show a<H.length by omega))
 have hb:=hs _ (cQ aE (show b<H.length by omega))
 simp only[beq_iff_eq]at ha hb;have:=gN b c2.1;have:=gO a c1.1;rw[a1]at ha;rw[b1]at hb;omega
theorem zZ.mix{X Y H:List aH}{p q:List Int}{K t:Int}(h:zZ X Y p K)(Wr:∀s∈X++Y,bN s<t)(ht:t<=K+1)(Ws:t<4294967296)(hq:q.length<=31)(rJ:∀x∈q,aV x)(lH:H.length=8)
  (hm:∀j,j<8->H.getD j aE=(lK t q).getD j aE\/H.getD j aE=Y.getD j aE):(H≠lK t q/\zZ X H p (K+1))\/(H=lK t q/\zZ H X q (K+1)):=by
 obtain⟨g,g1,g2,g3⟩:=h.cur
 have hgX:g=bN (X.getD 0 aE):=by
  rcases Ib X with e|⟨e,_⟩
  ·rw[g2]at e;simp only[]at e;omega
  ·rw[g2]at e;exact e
 have Ic:g<t:=by
  rw[hgX];exact Wr _ (wB _ (cQ aE (by rw[h.lX];decide)))
 have hN:=Ia (p:=q) (show 0<=t by omega) Ws
 have hNo:=Hn t rJ hq
 have nQ:∀s∈H,s∈lK t q\/s∈Y:=fun s hs=>by
  obtain⟨j,hj,rfl⟩:=wA.1 hs;have:=hm j (by omega)
  rw[eP,eQ hj,vZ]at this;rcases this with e|e
  ·rw[e];exact .inl (cQ aE (by rw[OW];omega))
  ·rw[e];exact .inr (cQ aE (by rw[h.lY];omega))
 have Wt:∀s∈H,dC s:=fun s hs=>(nQ s hs).elim (hNo s) (h.ZX s)
 have gH:∀s∈H,bN s<=K+1:=fun s hs=>(nQ s hs).elim (fun e=>by rw[hN s e];exact ht) fun e=>by have:=h.gY s e;omega
 have Wu:∀s∈X,bN s<=K+1:=fun s hs=>by have:=h.gX s hs;omega
 by_cases c:H=lK t q
 ·refine .inr ⟨c,lH,h.lX,Wt,h.UU,gH,Wu,t,by omega,?_,?_⟩
  ·rw[c];exact Wq (by omega) Ws hq
  ·rw[g2];exact Ic
 refine .inl ⟨c,?_⟩;rcases aX0 lH (OW t q) h.lY hm hN (fun s hs=>Wr s (uE _ hs))with e|e|e
 ·exact absurd e c
 ·rw[e];exact h.mono (by omega)
 ·exact⟨h.lX,lH,h.UU,Wt,Wu,gH,g,g1,g2,by omega⟩
end Go.Proofs.YtioafciifiggaaaGreatDoor
