/- Staging. No condition. -/
import Derived.Test.YtioafciifiggaaaGreatDoorL0
import Derived.Test.YtioafciifiggaaaGreatDoorAd
set_option linter.all false
namespace Go.Proofs.YtioafciifiggaaaGreatDoor
open Go.Proofs Go.AL
set_option maxRecDepth 100000
set_option maxHeartbeats 1000000
attribute [local irreducible] cB AW aX cZ dK hold
def iK(st:List aY)(ca:List (Int×aY)):List aY:=ca.foldl (fun l c=>l.set c.1.toNat c.2) st
theorem A3:∀(ca:List (Int×aY)) (st:List aY),(iK st ca).length=st.length
 |[],st=>rfl
 |c::ca,st=>by
  have:=A3 ca (st.set c.1.toNat c.2);simpa[iK]using this
theorem Kf{st:List aY}{ca:List (Int×aY)}{k n:Nat}(h:k<ca.length)(hn:(ca.getD k (0,aO)).1=(n:Int)):(iK st (ca.take k)).set n (ca.getD k (0,aO)).2=iK st (ca.take (k+1)):=by
 rw[P7 h];have e:ca.getD k (0,aO)=ca[k]:=by rw[lC,fU h];rfl
 rw[e]at hn⊢;simp only[iK,Xy,HC,List.foldl_nil,hn];rfl
theorem Kg{d:fJ}(h:l6 d=0):d.st.length<=4096/\∀c∈d.ca,0<=c.1/\c.1<(d.st.length:Int):=by
 unfold l6 at h;split at h
 ·exact absurd h (by decide)
 ·rename_i h1
  split at h
  ·exact absurd h (by decide)
  ·rename_i h2
   refine⟨by omega,fun c hc=> ?_⟩
   rw[Bool.not_eq_true,TV]at h2;have:=h2 c hc;simp only[mA,ES,decide_eq_true_eq,not_or]at this;omega
theorem ac4(d:fJ)(h2:d.ca.length<=1000000)(h:l6 d=0):PC 178 [.agg (dI d)] (.snap (aA aQ (iK d.st d.ca))):=by
 refine aT Tryz.func178 Tryz.ntmps178 (iJ _) ?_;obtain⟨h0,h3⟩:=Kg h;obtain⟨st,ca⟩:=d;unfold dI;simp only[]at h0 h2 h3⊢;clear h;by_cases g:st=[]
 ·have g2:ca=[]:=by
   cases ca with
   |nil=>rfl
   |cons c ca=>have:=h3 c (by simp);subst g;simp at this;omega
  subst g g2;clear h3;have g3:iK [] []=[]:=rfl;rw[g3];clear g3;refine aD ?_;refine eP 2 ?_;refine eQ ?_;refine aD ?_;exact aB
 ·have g1:=rS g
  have hg:=gC ca;refine aD ?_;refine dP (α:=Unit) ca.length (fun k _=> [(4,true,zV k),(3,true,.own 1 0 st.length),(1,true,.ptr 0 0 0)]) (fun k _=> [(0,some (.cells 25 2 [[.snap (aA aQ st),.snap (aA oM ca)]] true false)),(1,some (.cells 124 8 (aA aQ (iK st (ca.take k))) true true))]) (fun k m _=>2<=m) ⟨2,(),cA _,?_⟩ (fun k m _ hk hR=> ?_) (fun m _ hR=> ?_)
  ·have e0:iK st (ca.take 0)=st:=rfl
   rw[e0];exact aN
  ·obtain⟨h5,h6⟩:=h3 _ (dC (0,aO) hk)
   obtain⟨n,hn⟩:=sK h5;have h7:=Kf (st:=st) hk hn;have h8:n<st.length:=by omega
   have h9:=A3 (ca.take k) st;have cO:=gS (iK st (ca.take k));clear h3 h5 h6;refine aD ?_;exact⟨m+15,(),by omega,aN⟩
  ·have e0:iK st (ca.take ca.length)=iK st ca:=by rw[l4]
   have e1:=A3 ca st;have e2:(iK st ca).take st.length=iK st ca:=cR (by omega)
   rw[e0];clear h3;refine aD ?_;exact aB
def qV(d:fJ)(s n:Int):List aY×Int:=
 if l6 d=0 then
  if s<0\/n<0\/(d.st.length:Int)<n\/(d.st.length:Int)-n<s then([],2)
  else(((iK d.st d.ca).drop s.toNat).take n.toNat,0)
 else([],l6 d)
theorem Kh(d:fJ)(s n:Int)(hs:d.st.length<=1000000)(h2:d.ca.length<=1000000):PC 117 [.agg (dI d),.agg [zV s,zV n]] (.aR [.snap (aA aQ (qV d s n).1),zV (qV d s n).2]):=by
 refine aT Tryz.func117 Tryz.ntmps117 (by simp only[go_sem]) ?_
 have c1:=ZJ d hs h2;unfold qV;by_cases g:l6 d=0
 ·have c2:=ac4 d h2 g
  rw[if_pos g];have e0:=A3 d.ca d.st;rw[g]at c1;clear g;obtain⟨st,ca⟩:=d;simp only[]at c2 e0 hs h2;unfold dI at c1 c2⊢;simp only[]at c1 c2⊢;by_cases g1:s<0
  ·rw[if_pos (by omega)]
   refine aD ?_;exact aB
  by_cases g2:n<0
  ·rw[if_pos (by omega)]
   refine aD ?_;exact aB
  by_cases g3:(st.length:Int)<n
  ·rw[if_pos (by omega)]
   refine aD ?_;exact aB
  have w1:IntKind.i64.wrap ((st.length:Int)-n)=(st.length:Int)-n:=IntWalk.i64_in _ (by omega)
  by_cases g4:(st.length:Int)-n<s
  ·rw[if_pos (by omega)]
   refine aD ?_;exact aB
  rw[if_neg (by omega)]
  obtain⟨S,rfl⟩:=sK (by omega:0<=s)
  obtain⟨N,rfl⟩:=sK (by omega:0<=n)
  have e1:((S:Int)+(N:Int)-(S:Int)).toNat=N:=by omega
  refine aD ?_;exact aB
 ·rw[if_neg g]
  unfold dI at c1⊢;refine aD ?_;exact aB
def fR(d:fJ)(a:Int):List aY:=((iK d.st d.ca).drop a.toNat).take 16
def kO(d:fJ)(a:Int):List aY×Int×List Int×Int×Int:=
 if l6 d=0 then
  if a<0\/(d.st.length:Int)-16<a then([],0,[],0,2)
  else if(gY ((fR d a).take 8)).2=0/\(gY ((fR d a).drop 8)).2=0 then([],0,[],0,9)
  else if(gY ((fR d a).take 8)).2<(gY ((fR d a).drop 8)).2 then(fR d a,1,(gY ((fR d a).drop 8)).1,(gY ((fR d a).drop 8)).2,0)
  else(fR d a,0,(gY ((fR d a).take 8)).1,(gY ((fR d a).take 8)).2,0)
 else([],0,[],0,l6 d)
theorem ac5(d:fJ)(a:Int)(hs:d.st.length<=1000000)(h2:d.ca.length<=1000000)(hk:∀s∈iK d.st d.ca,eR s):PC 165 [.agg (dI d),zV a] (.aR [.snap (aA aQ (kO d a).1),zV (kO d a).2.1,.snap (aA aH (kO d a).2.2.1),.c (.int .u32 (kO d a).2.2.2.1),zV (kO d a).2.2.2.2]):=by
 refine aT Tryz.func165 Tryz.ntmps165 (by simp only[go_sem]) ?_
 have c1:=ZJ d hs h2;unfold kO;by_cases g:l6 d=0
 ·have c2:=Kh d a 16 hs h2
  unfold qV at c2;rw[if_pos g]at c2⊢;rw[g]at c1;by_cases g1:a<0
  ·rw[if_pos (by omega)]
   clear c2;unfold dI at c1⊢;refine aD ?_;exact aB
  have w1:IntKind.i64.wrap ((d.st.length:Int)-16)=(d.st.length:Int)-16:=IntWalk.i64_in _ (by omega)
  by_cases g2:(d.st.length:Int)-16<a
  ·rw[if_pos (by omega)]
   clear c2;unfold dI at c1⊢;refine aD ?_;exact aB
  rw[if_neg (by omega)]at c2⊢
  have e0:=A3 d.ca d.st;have e1:(fR d a).length=16:=by unfold fR;rw[eD,fX];omega
  have ZK:PC 117 [.agg (dI d),.agg [zV a,zV 16]] (.aR [.snap (aA aQ (fR d a)),zV 0]):=c2;have kP:∀s∈fR d a,eR s:=fun s hs=>hk s (l5 (qB hs))
  clear c2 hk g;unfold dI at c1 ZK⊢;generalize fR d a=L at*;have c3:=Ka (L.take 8) (by rw[eD];omega) fun s hs=>kP s (qB hs)
  have c4:=Ka (L.drop 8) (by rw[fX];omega) fun s hs=>kP s (l5 hs)
  have e2:(L.drop 8).take 8=L.drop 8:=cR (by rw[fX];omega)
  clear kP;generalize gY (L.take 8)=A at*;generalize gY (L.drop 8)=B at*;obtain⟨pa,ga⟩:=A;obtain⟨pb,gb⟩:=B;simp only[]at c3 c4⊢;by_cases g3:ga=0
  ·by_cases g4:gb=0
   ·rw[if_pos ⟨g3,g4⟩]
    refine aD ?_;exact aB
   ·rw[if_neg (fun h=>g4 h.2)]
    by_cases g5:ga<gb
    ·rw[if_pos g5]
     rw[g3]at g5 c3;refine aD ?_;exact aB
    ·rw[if_neg g5]
     rw[g3]at g5 c3;refine aD ?_;exact aB
  ·rw[if_neg (fun h=>g3 h.1)]
   by_cases g5:ga<gb
   ·rw[if_pos g5]
    refine aD ?_;exact aB
   ·rw[if_neg g5]
    refine aD ?_;exact aB
 ·rw[if_neg g]
  unfold dI at c1⊢;refine aD ?_;exact aB
theorem US{l:List aY}(h:∀s∈l,eR s):0<=(gY l).2/\(gY l).2<4294967296:=by
 unfold gY;split
 ·split
  ·exact⟨by simp,by simp⟩
  ·split
   ·cases l with
    |nil=>exact⟨by decide,by decide⟩
    |cons s l=>
     obtain⟨⟨a0,a1⟩,⟨b0,b1⟩,⟨c0,c1⟩,⟨d0,d1⟩⟩:=(h s (by simp)).1
     show 0<=cL s/\cL s<4294967296
     unfold cL;omega
   ·exact⟨by simp,by simp⟩
 ·exact⟨by simp,by simp⟩
theorem ac6{d:fJ}{a:Int}(hk:∀s∈iK d.st d.ca,eR s):0<=(kO d a).2.2.2.1/\(kO d a).2.2.2.1<4294967296:=by
 have kP:∀s∈fR d a,eR s:=fun s hs=>hk s (l5 (qB hs))
 have h1:=US (l:=(fR d a).take 8) fun s hs=>kP s (qB hs)
 have h2:=US (l:=(fR d a).drop 8) fun s hs=>kP s (l5 hs)
 unfold kO;split
 ·split
  ·exact⟨by simp,by simp⟩
  ·split
   ·exact⟨by simp,by simp⟩
   ·split
    ·exact h2
    ·exact h1
 ·exact⟨by simp,by simp⟩
theorem ac7(d:fJ)(a:Int)(hs:d.st.length<=1000000)(h2:d.ca.length<=1000000)(hk:∀s∈iK d.st d.ca,eR s):PC 176 [.agg (dI d),zV a] (.aR [.snap (aA aH (kO d a).2.2.1),zV (kO d a).2.2.2.1,zV (kO d a).2.2.2.2]):=by
 refine aT Tryz.func176 Tryz.ntmps176 (by simp only[go_sem]) ?_
 have c1:=ac5 d a hs h2 hk;obtain⟨g1,g2⟩:=ac6 (a:=a) hk;generalize kO d a=F at*;obtain⟨L,m,p,g,e⟩:=F;simp only[]at c1 g1 g2⊢;have w1:IntKind.i64.wrap g=g:=IntWalk.i64_in _ (by omega)
 unfold dI at c1⊢;refine aD ?_;exact aB
def tK(d:fJ)(s n:Int):Bool:=decide (0<=s)&&decide (0<=n)&&decide (n<=(d.st.length:Int))&&decide (s<=(d.st.length:Int)-n)
theorem ac8(d:fJ)(s n:Int)(hs:d.st.length<=1000000):PC 171 [.agg (dI d),zV s,zV n] (bV (tK d s n)):=by
 refine aT Tryz.func171 Tryz.ntmps171 (.c _) ?_;obtain⟨st,ca⟩:=d;unfold dI;simp only[]at hs⊢;by_cases g1:0<=s
 ·by_cases g2:0<=n
  ·by_cases g3:n<=(st.length:Int)
   ·have w1:IntKind.i64.wrap ((st.length:Int)-n)=(st.length:Int)-n:=IntWalk.i64_in _ (by omega)
    by_cases g4:s<=(st.length:Int)-n
    ·have e:tK ⟨st,ca⟩ s n=true:=by unfold tK;rw[rP g1,rP g2,rP g3,rP g4];rfl
     rw[e];refine aD ?_;exact aB
    ·have e:tK ⟨st,ca⟩ s n=false:=by unfold tK;rw[rP g1,rP g2,rP g3,yR g4];rfl
     rw[e];refine aD ?_;exact aB
   ·have e:tK ⟨st,ca⟩ s n=false:=by unfold tK;rw[yR g3];simp
    rw[e];refine aD ?_;exact aB
  ·have e:tK ⟨st,ca⟩ s n=false:=by unfold tK;rw[yR g2];simp
   rw[e];refine aD ?_;exact aB
 ·have e:tK ⟨st,ca⟩ s n=false:=by unfold tK;rw[yR g1];simp
  rw[e];refine aD ?_;exact aB
theorem ac9(d:fJ)(c:Int×aY)(hs:d.st.length<=1000000):PC 84 [.agg (oM c),.dJ [dI d] 0 0] (bV (mA d.st.length c)):=by
 refine aT Tryz.func84 Tryz.ntmps84 (.c _) ?_;obtain⟨st,ca⟩:=d;obtain⟨x,s⟩:=c;have hx:(aA oM [(x,s)])[0]? =some (zV x::aQ s):=rfl;unfold dI;simp only[]at hs⊢;by_cases g1:x<0
 ·have e:mA st.length (x,s)=true:=by unfold mA;rw[PK g1];rfl
  rw[e];refine aD ?_;exact aB
 ·by_cases g2:(st.length:Int)<=x
  ·have e:mA st.length (x,s)=true:=by unfold mA;rw[rP g2];simp
   rw[e];refine aD ?_;exact aB
  ·have e:mA st.length (x,s)=false:=by unfold mA;rw[PL g1,yR g2];rfl
   rw[e];refine aD ?_;exact aB
theorem ad0(l:List aY)(h:l≠[])(hl:l.length<=1000000):rR Tryz.prog 128 [.snap (aA aQ l)] 124 8 (aA aQ l):=by
 refine L3 Tryz.func128 Tryz.ntmps128 (by simp only[go_sem]) (mN l) ?_
 have h1:=rS h;refine aD ?_;exact⟨1,by simp only[go_sem],by simp only[go_sem]⟩
theorem ad1(a:Option Addr)(cap:Nat):PC 128 [.c (.slice a 0 cap)] (.snap (aA aQ [])):=by
 refine aT Tryz.func128 Tryz.ntmps128 (iJ _) ?_;cases a with
 |none=>
  refine aD ?_;simp only[D6];exact aB
 |some a=>
  refine aD ?_;simp only[D6];exact aB
theorem ad2(l:List aY)(hl:l.length<=1000000):PC 128 [.snap (aA aQ l)] (.snap (aA aQ l)):=by
 by_cases h:l=[]
 ·subst h
  exact fD.nil (pre:=[]) (post:=[]) ad1
 ·refine aT Tryz.func128 Tryz.ntmps128 (iJ l) ?_
  have h1:=rS h;refine aD ?_;exact aB
theorem ad3(d:fJ)(h2:d.ca.length<=1000000)(h:l6 d=0):PC 172 [.agg (dI d)] (.snap (aA aQ (iK d.st d.ca))):=by
 refine aT Tryz.func172 Tryz.ntmps172 (iJ _) ?_;obtain⟨h0,h3⟩:=Kg h;obtain⟨st,ca⟩:=d;unfold dI;simp only[]at h0 h2 h3⊢;clear h;by_cases g:st=[]
 ·have g2:ca=[]:=by
   cases ca with
   |nil=>rfl
   |cons c ca=>have:=h3 c (by simp);subst g;simp at this;omega
  subst g g2;clear h3;have g3:iK [] []=[]:=rfl;have c1:=ad2 [] (mT _);rw[g3];clear g3;refine aD ?_;refine eP 2 ?_;refine eQ ?_;refine aD ?_;exact aB
 ·have hg:=gC ca
  have hx:∀(x:Int) (s:aY),(aA oM [(x,s)])[0]? =some (zV x::aQ s):=fun _ _=>rfl
  have hy:∀(x:Int) (s:aY) (r:List AV),(aA oM [(x,s)]).set 0 r=[r]:=fun _ _ _=>rfl
  have c1:=ad0 st g (by omega)
  refine aD ?_;refine dP (α:=Unit) ca.length (fun k _=> [(12,true,zV k),(11,true,zV ca.length),(10,true,.snap (aA oM ca)),(3,true,.own 1 0 st.length),(1,true,.ptr 0 0 0)]) (fun k _=> [(0,some (.cells 25 2 [[.snap (aA aQ st),.snap (aA oM ca)]] true false)),(1,some (.cells 124 8 (aA aQ (iK st (ca.take k))) true true))]) (fun k m _=>2<=m) ⟨2,(),cA _,?_⟩ (fun k m _ hk hR=> ?_) (fun m _ hR=> ?_)
  ·have e0:iK st (ca.take 0)=st:=rfl
   rw[e0];exact aN
  ·obtain⟨h5,h6⟩:=h3 _ (dC (0,aO) hk)
   obtain⟨n,hn⟩:=sK h5;have hz:(ca.getD k (0,aO))=((n:Int),(ca.getD k (0,aO)).2):=by rw[<-hn]
   have h7:=Kf (st:=st) hk hn;have h8:n<st.length:=by omega
   have h9:=A3 (ca.take k) st;have cO:=gS (iK st (ca.take k));clear h3 h5 h6 hz;refine aD ?_;exact⟨m+1+1+1,(),by omega,aN⟩
  ·have e0:iK st (ca.take ca.length)=iK st ca:=by rw[l4]
   have e1:=A3 ca st;have e2:(iK st ca).take st.length=iK st ca:=cR (by omega)
   rw[e0];clear h3;refine aD ?_;exact aB
abbrev PU(d:fJ):AV:= .fn (.func 84) [] [.dJ [dI d] 0 0]
theorem ad4(d:fJ)(hs:d.st.length<=1000000)(hl:d.ca.length<=1000000):PC 160 [.snap (aA oM d.ca),PU d] (zV (pR (d.ca.findIdx? (mA d.st.length)))):=by
 refine aT Tryz.func160 Tryz.ntmps160 (.c _) ?_;unfold pR PU dI;have hg:=gC d.ca;refine aD ?_;refine dP (α:=Unit) d.ca.length (fun k _=> [(8,true,zV k),(7,true,zV d.ca.length),(0,true,.snap (aA oM d.ca)),(1,true,.fn (.func 84) [] [.dJ [[.snap (aA aQ d.st),.snap (aA oM d.ca)]] 0 0])]) (fun _ _=> []) (fun k m _=>∀i,i<k->mA d.st.length (d.ca.getD i (0,aO))=false) ⟨0,(),fun i hi=>by omega,aN⟩ (fun k m _ hk hR=> ?_) (fun m _ hR=> ?_)
 ·have c1:=ac9 d (d.ca.getD k (0,aO)) hs
  unfold oM dI at c1;cases h:mA d.st.length (d.ca.getD k (0,aO))with
  |true=>
   have hf:d.ca.findIdx? (mA d.st.length)=some k:=by
    rw[HA];exact⟨hk,by simpa[hk]using h,fun j hj=>by have:=hR j hj;simp[show j<d.ca.length by omega]at this;simpa using this⟩
   rw[h]at c1;clear hR;refine aD ?_;exact aB
  |false=>
   rw[h]at c1
   have bK:∀i,i<k+1->mA d.st.length (d.ca.getD i (0,aO))=false:=fun i hi=>by
    by_cases fE:i=k
    ·subst fE;exact h
    ·exact hR i (by omega)
   clear hR;refine aD ?_;exact⟨m,(),bK,aN⟩
 ·have hf:d.ca.findIdx? (mA d.st.length)=none:=by
   rw[HB];intro x hx;obtain⟨i,hi⟩:=wX.1 hx;obtain⟨h1,h2⟩:=dS.1 hi;have:=hR i h1;simp[h1,h2]at this;exact this
  clear hR;refine aD ?_;exact aB
theorem ad5(d:fJ):decide (0<=pR (d.ca.findIdx? (mA d.st.length)))=d.ca.any (mA d.st.length):=by
 cases h:d.ca.findIdx? (mA d.st.length)with
 |none=>
  rw[HB]at h;simp only[pR];symm;simpa using h
 |some i=>
  rw[HA]at h;obtain⟨h1,h2,_⟩:=h;simp only[pR];have:d.ca.any (mA d.st.length)=true:=pO.2 ⟨_,D2 h1,h2⟩;rw[this];simp
theorem ad6(d:fJ)(hs:d.st.length<=1000000)(hl:d.ca.length<=1000000):PC 83 [.snap (aA oM d.ca),PU d] (bV (d.ca.any (mA d.st.length))):=by
 refine aT Tryz.func83 Tryz.ntmps83 (.c _) ?_;have c1:=ad4 d hs hl;have h1:=ad5 d;unfold PU dI at c1⊢;refine aD ?_;exact aB
theorem Ki(d:fJ)(h1:d.st.length<=1000000)(h2:d.ca.length<=1000000):PC 34 [.agg (dI d)] (zV (l6 d)):=by
 refine aT Tryz.func34 Tryz.ntmps34 (.c _) ?_;have c1:=ad6 d h1 h2;unfold l6;unfold PU dI at c1;unfold dI;by_cases g1:4096<d.st.length
 ·have g2:(4096:Int)<(d.st.length:Int):=by omega
  clear c1;refine aD ?_;exact aB
 have g2:¬(4096:Int)<(d.st.length:Int):=by omega
 rw[if_neg g1];cases h:d.ca.any (mA d.st.length)with
 |true=>
  rw[h]at c1;refine aD ?_;exact aB
 |false=>
  rw[h]at c1;refine aD ?_;exact aB
theorem ZL(d:fJ)(s n:Int)(hs:d.st.length<=1000000)(h2:d.ca.length<=1000000):PC 108 [.agg (dI d),.agg [zV s,zV n]] (.aR [.snap (aA aQ (qV d s n).1),zV (qV d s n).2]):=by
 refine aT Tryz.func108 Tryz.ntmps108 (by simp only[go_sem]) ?_
 have c1:=Ki d hs h2;have c3:=ac8 d s n hs;unfold qV;by_cases g:l6 d=0
 ·have c2:=ad3 d h2 g
  rw[if_pos g];have e0:=A3 d.ca d.st;rw[g]at c1;clear g;by_cases g1:s<0\/n<0\/(d.st.length:Int)<n\/(d.st.length:Int)-n<s
  ·have e:tK d s n=false:=by
    cases h:tK d s n with
    |false=>rfl
    |true=>
     simp only[tK,jX,decide_eq_true_eq]at h;omega
   rw[if_pos g1];rw[e]at c3;unfold dI at c1 c2 c3⊢;clear g1;refine aD ?_;exact aB
  ·have e:tK d s n=true:=by
    simp only[tK,jX,decide_eq_true_eq];omega
   rw[if_neg g1];rw[e]at c3;unfold dI at c1 c2 c3⊢;obtain⟨S,rfl⟩:=sK (by omega:0<=s)
   obtain⟨N,rfl⟩:=sK (by omega:0<=n)
   have e1:((S:Int)+(N:Int)-(S:Int)).toNat=N:=by omega
   have g2:S+N<=d.st.length:=by omega
   have g3:d.st.length<=1000000:=hs;clear g1;refine aD ?_;exact aB
 ·rw[if_neg g]
  unfold dI at c1⊢;refine aD ?_;exact aB
def C4(A B:List Int×Int)(l m:List aY):List AV:=[zV A.2,.snap (aA aH A.1),.snap (aA aQ l),zV B.2,.snap (aA aH B.1),.snap (aA aQ m)]
def A4(A B:List Int×Int):Int×Int:=if A.2<B.2 then(if B.2=0 then(0,9)else(1,0))else if A.2=0 then(0,9)else(0,0)
theorem ad7(d:fJ)(a:Int)(hs:d.st.length<=1000000)(h2:d.ca.length<=1000000)(hk:∀s∈iK d.st d.ca,eR s)(h0:l6 d=0)(h3:0<=a)(h4:a<=(d.st.length:Int)-16):PC 161 [.agg (dI d),zV a] (.aR [.agg (C4 (gY ((fR d a).take 8)) (gY ((fR d a).drop 8)) ((fR d a).take 8) ((fR d a).drop 8)),zV (A4 (gY ((fR d a).take 8)) (gY ((fR d a).drop 8))).1,zV (A4 (gY ((fR d a).take 8)) (gY ((fR d a).drop 8))).2]):=by
 refine aT Tryz.func161 Tryz.ntmps161 (by simp only[go_sem,C4]) ?_
 have c2:=ZL d a 16 hs h2;unfold qV at c2;rw[if_pos h0,if_neg (by omega)]at c2
 have e0:=A3 d.ca d.st;have e1:(fR d a).length=16:=by unfold fR;rw[eD,fX];omega
 have ZK:PC 108 [.agg (dI d),.agg [zV a,zV 16]] (.aR [.snap (aA aQ (fR d a)),zV 0]):=c2;have kP:∀s∈fR d a,eR s:=fun s hs=>hk s (l5 (qB hs))
 clear c2 hk h0;unfold dI at ZK⊢;generalize fR d a=L at*;have c3:=Kc (L.take 8) (by rw[eD];omega) fun s hs=>kP s (qB hs)
 have c4:=Kc (L.drop 8) (by rw[fX];omega) fun s hs=>kP s (l5 hs)
 have e2:(L.drop 8).take 8=L.drop 8:=cR (by rw[fX];omega)
 clear kP;generalize gY (L.take 8)=A at*;generalize gY (L.drop 8)=B at*;obtain⟨pa,ga⟩:=A;obtain⟨pb,gb⟩:=B;unfold copyV at c3 c4;unfold C4 A4;simp only[]at c3 c4⊢;by_cases g5:ga<gb
 ·rw[if_pos g5]
  by_cases g6:gb=0
  ·rw[if_pos g6]
   refine aD ?_;exact aB
  ·rw[if_neg g6]
   refine aD ?_;exact aB
 ·rw[if_neg g5]
  by_cases g6:ga=0
  ·rw[if_pos g6]
   refine aD ?_;exact aB
  ·rw[if_neg g6]
   refine aD ?_;exact aB
end Go.Proofs.YtioafciifiggaaaGreatDoor
