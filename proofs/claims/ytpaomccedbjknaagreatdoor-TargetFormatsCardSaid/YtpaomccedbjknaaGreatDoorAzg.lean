/- Target: contracts of its functions (Azg). No condition but those named. -/
import Derived.Test.YtpaomccedbjknaaGreatDoorAzf
set_option linter.all false
namespace Go.Proofs.YtpaomccedbjknaaGreatDoor
open Go.Proofs Go.AL Tryz
set_option maxRecDepth 100000
set_option maxHeartbeats 8000000
attribute [local irreducible] bT tN wU tS AW b8 cF dB hold
theorem Sf(im:List (List aQ))(h1:im.length<=1000)(h2:∀v∈im,v.length<=1000000):PC 88 [.agg [.snap (aB bA im),.snap []]] (.agg [.snap (aB bA im),.c (.slice none 0 0)]):=by
 refine iZ func88 ntmps88 (by simp only[go_sem]) ?_
 have hc:∀k,k<im.length->PC 150 [.snap (aB aP (im.getD k []))] (.snap (aB aP (im.getD k []))):=fun k hk=>yM _ (h2 _ (eB [] hk))
 replace hc:=bC.mk hc
 have hg:=gV im;clear h2;refine aE ?_;refine dC (α:=Nat) im.length (fun k id=> [(11,true,zV k),(10,true,zV im.length),(9,true,.snap (aB bA im)),(3,true,.ptr 2 0 0),(2,true,.ptr 1 0 0),(1,true,.ptr 0 0 0)]) (fun k id=>(0,some (.cells 47 2 [[.snap (aB bA im),.snap []]] true false))::(1,some (.cells 47 2 [[.c (.slice none 0 0),.c (.slice none 0 0)]] true false))::(2,some (.cells 47 2 [[lJ k id,.c (.slice none 0 0)]] true false))::lX 58 1 (aB bA (im.take k)) k id) (fun k m id=>3<=m/\(0<k->3<=id/\id<m)) ⟨100,0,⟨oM,fun h=>absurd h oM⟩,aG⟩ (fun k m id hk hR=> ?_) (fun m id hR=> ?_)
 ·obtain⟨hm,hR⟩:=hR
  have bO:(aB bA im)[k]? =some [.snap (aB aP (im.getD k []))]:=hg k hk;have c1:=hc.out k hk;have cI:=kF [] hk;have eR:aB bA (im.take k)++[[.snap (aB aP (im.getD k []))]]=aB bA (im.take k++[im.getD k []]):=kK _ _;have iE:(im.take k).length=k:=by rw[dX];omega
  rw[cI];clear cI hg hc;generalize im.take k=F at*;generalize im.getD k []=x at*;have dM:=LS x;cases k with
  |zero=>
   have jC:F=[]:=eL iE;subst jC;clear hR iE eR;refine aE ?_;exact⟨m+40,m+5,⟨oM,fun _=>by omega⟩,aG⟩
  |succ q=>
   obtain⟨i1,i2⟩:=hR oM
   clear hR dM;refine aE ?_;exact⟨m+40,m+5,⟨oM,fun _=>by omega⟩,aG⟩
 ·obtain⟨hm,hR⟩:=hR
  rw[gP];clear hg hc;refine aE ?_;refine CA [(26,true,zV 0),(25,true,zV 0),(24,true,.snap []),(3,true,.ptr 2 0 0),(2,true,.ptr 1 0 0),(1,true,.ptr 0 0 0)] (m+100) ((0,some (.cells 47 2 [[.snap (aB bA im),.snap []]] true false))::(1,some (.cells 47 2 [[.c (.slice none 0 0),.c (.slice none 0 0)]] true false))::[(2,some (.cells 47 2 [[.snap (aB bA im),.c (.slice none 0 0)]] true false))]) ?_ (fun kH=> ?_)
  case refine_2=>
   cases hh:im.length with
   |zero=>
    have jD:im=[]:=eL hh;subst jD;clear hR hh;refine VV 2 [[.snap (aB bA []),.c (.slice none 0 0)]] (VU (eE .nil (tY _))) ?_;exact kU aG kH
   |succ q=>
    obtain⟨i1,i2⟩:=hR oM
    refine AH id 2 [[.snap (aB bA im),.c (.slice none 0 0)]] eN eN oM (VT (by rw[fK,hh])) ?_
    exact kU aG kH
  refine nS 0 (m+100) ((0,some (.cells 47 2 [[.snap (aB bA im),.snap []]] true false))::(1,some (.cells 47 2 [[.c (.slice none 0 0),.c (.slice none 0 0)]] true false))::[(2,some (.cells 47 2 [[.snap (aB bA im),.c (.slice none 0 0)]] true false))]) (fun k=> [(26,true,zV 0),(25,true,zV 0),(24,true,.snap []),(3,true,.ptr 2 0 0),(2,true,.ptr 1 0 0),(1,true,.ptr 0 0 0)]) aG (fun k m hk hm=>absurd hk oM) (fun m hm=> ?_)
  clear hR;refine aE ?_;exact dS
theorem Da{im:List (List aQ)}(h:cZ (bH im)=0):oG ⟨im,[]⟩=0:=by
 unfold oG;rw[if_pos h];rfl
theorem aS0(im:List (List aQ))(ws:List bR)(h1:im.length<=1000)(h2:∀v∈im,v.length<=1000000)(hw:IL ws)(hz:cZ (bH im)=0)(ha:(kY im ws).2.2=0):PC 147 [.agg [.snap (aB bA im),.snap []],.snap (aB aH ws)] (.aK [.agg [.snap (aB bA (kY im ws).1),.c (.slice none 0 0)],zV 0]):=by
 refine iZ func147 ntmps147 (by simp only[go_sem]) ?_
 have c1:PC 134 [.agg [.snap (aB bA im),.snap []]] (zV (oG ⟨im,[]⟩)):=VR ⟨im,[]⟩ ⟨h1,h2,by simp,fun x hx=>by simp at hx⟩
 rw[Da hz]at c1;have c2:=ao5 im ws h1 h2 (fun w PB=>by have:=hw.2 w PB;omega) (by have:=hw.1;omega)
 rw[ha]at c2;have c3:=Sf im h1 h2;clear h2 hw hz ha;generalize kY im ws=A at*;refine aE ?_;exact dS
theorem aS1(im:List (List aQ))(n t:Int)(h1:im.length<=1000)(h2:∀v∈im,v.length<=1000000)(hz:cZ (bH im)=0)(hn:fY n=true)(ht:fY t=true):PC 148 [.agg [.snap (aB bA im),.snap []],zV n,zV t] (.aK [.agg [.snap (aB bA im),.snap [[zV n,zV t,.snap []]]],zV 0]):=by
 refine iZ func148 ntmps148 (by simp only[go_sem];exact fun _ h=>h.elim) ?_
 have c1:PC 134 [.agg [.snap (aB bA im),.snap []]] (zV (oG ⟨im,[]⟩)):=VR ⟨im,[]⟩ ⟨h1,h2,by simp,fun x hx=>by simp at hx⟩
 rw[Da hz]at c1;have c3:=Sf im h1 h2;have c4:=Ck n;have c5:=Ck t;rw[hn]at c4;rw[ht]at c5;have b1:¬n<= -1:=by unfold fY at hn;simp at hn;omega
 have b2:¬t<0:=by unfold fY at ht;simp at ht;omega
 clear h2 hz hn ht;refine aE ?_;exact dS
end Go.Proofs.YtpaomccedbjknaaGreatDoor
namespace Go.Proofs.YtpaomccedbjknaaGreatDoor
open Go.Proofs Go.AL Tryz
set_option maxRecDepth 100000
set_option maxHeartbeats 8000000
attribute [local irreducible] bT AW b8 cF dB hold
theorem aS2(p:qQ)(hl:p.rules.length<=1000000):PC 36 [.agg (kO p)] (zV (rH p)):=by
 refine aZ func36 ntmps36 (.c _) ?_;obtain⟨n,l⟩:=p;obtain⟨M,hM⟩:∃M,rH ⟨n,l⟩=M:=⟨_,rfl⟩;rw[hM];unfold rH at hM;unfold kO;simp only[]at*;by_cases g1:n<0
 ·rw[if_pos (by unfold lW;simp;omega)]at hM
  subst hM;exact zEa
 by_cases g2:1024<n
 ·rw[if_pos (by unfold lW;simp;omega)]at hM
  subst hM;exact zEa
 rw[if_neg (by unfold lW;simp;omega)]at hM
 by_cases g3:8<l.length
 ·rw[if_pos g3]at hM
  subst hM;have qI:(8:Int)<(l.length:Int):=oM
  exact zEa
 rw[if_neg g3]at hM;have hg:=Ci l;refine aM ?_;refine dC (α:=Unit) l.length (fun k _=> [(3,true,zV k),(1,true,.ptr 0 0 0)]) (fun k _=> [(0,some (.cells 25 2 [[zV n,.snap (aB jY l)]] true false))]) (fun k m _=>100<=m/\II (vV l k) (l.drop k)=M) ⟨100,(),⟨oM,hM⟩,aG⟩ (fun k m _ hk hR=> ?_) (fun m _ hR=> ?_)
 ·obtain⟨hm,hR⟩:=hR
  have bO:=hg k hk;rw[VQ (0,0) hk,Ro]at hR;have qR:vV l (k+1)=(l.getD k (0,0)).1:=by simp[vV]
  have IS:0<k->(aB jY l)[k-1]? =some (jY (l.getD (k-1) (0,0))):=fun h=>hg (k-1) oM
  have IT:0<k->(l.getD (k-1) (0,0)).1=vV l k:=fun h=>by simp[vV,show k≠0 by omega]
  have IU:k=0->vV l k=0:=fun h=>by simp[vV,h]
  generalize Sg:vV l k=last at*;generalize vV l (k+1)=IM at*;clear hg;generalize l.getD k (0,0)=r at*;obtain⟨e,c⟩:=r;simp only[]at*;have yN:(aB jY l)[k]? =some [zV e,zV c]:=bO;clear bO hM;subst qR;by_cases h1:IM<1
  ·rw[if_pos (.inl (by unfold lW;simp;omega))]at hR
   subst hR;clear IS IT IU;exact zEa
  by_cases h2:1073741824<IM
  ·rw[if_pos (.inl (by unfold lW;simp;omega))]at hR
   subst hR;clear IS IT IU;exact zEa
  by_cases h3:c<1
  ·rw[if_pos (.inr (by unfold lW;simp;omega))]at hR
   subst hR;clear IS IT IU;exact zEa
  by_cases h4:1024<c
  ·rw[if_pos (.inr (by unfold lW;simp;omega))]at hR
   subst hR;clear IS IT IU;exact zEa
  rw[if_neg (by unfold lW;simp;omega)]at hR
  cases k with
  |zero=>
   have h5:=IU rfl;subst h5;rw[if_neg oM]at hR
   replace hR:=bC.mk hR
   clear IS IT IU Sg;refine aM ?_;refine⟨m+100,(),⟨oM,hR.out⟩,?_⟩
   exact aG
  |succ q=>
   have h5:=IS oM
   have h6:=IT oM
   simp only[Nat.add_sub_cancel]at h5 h6;generalize l.getD q (0,0)=r' at*;obtain⟨e',c'⟩:=r';have h5':(aB jY l)[q]? =some [zV e',zV c']:=h5;simp only[]at h6;subst h6;have h7:IntKind.i64.wrap (((q+1:Nat):Int)-1)=(q:Int):=by rw[IntWalk.i64_in _ oM];omega
   clear IS IT IU Sg h5;by_cases h8:IM<=e'
   ·rw[if_pos h8]at hR
    subst hR;exact zEa
   ·rw[if_neg h8]at hR
    replace hR:=bC.mk hR
    refine aM ?_;exact⟨m+100,(),⟨oM,hR.out⟩,aG⟩
 ·obtain⟨hm,hR⟩:=hR
  rw[v8]at hR;subst hR;exact zEa
end Go.Proofs.YtpaomccedbjknaaGreatDoor
namespace Go.Proofs.YtpaomccedbjknaaGreatDoor
open Go.Proofs Go.AL Tryz
set_option maxRecDepth 100000
set_option maxHeartbeats 8000000
attribute [local irreducible] bT tN wU tS AW b8 cF dB hold
@[go_sem] theorem bZ1:eX prog 360=some [.c .nilFunc]:=by kernel_rfl
theorem aS3(n t now:Int)(h1:1<=n)(h2:n<=1024):PC 223 [.agg [zV n,.snap []],.snap [[zV t]],zV now] (.snap [[bV true]]):=by
 refine aZ func223 ntmps223 (by simp only[go_sem]) ?_
 have b1:IntKind.i64.wrap (((1:Nat):Int)-n)=((1:Nat):Int)-n:=IntWalk.i64_in _ oM
 have b2:(if(0:Int)>((1:Nat):Int)-n then 0 else((1:Nat):Int)-n)=0:=by split<;>omega
 refine aE ?_;refine eO func258 ntmps258 ?_;refine aE ?_;refine fZ 1 ?_;refine gD ?_;refine aE ?_;refine fZ 2 ?_;refine gD ?_;refine aE ?_;refine eO func282 ntmps282 ?_;refine aE ?_;refine fZ 2 ?_;refine gD ?_;refine aE ?_;exact dS
theorem aS4(im:List (List aQ))(k t n now:Int)(hl:im.length<=1000)(hv:∀v∈im,v.length<=1000000)(h1:1<=n)(h2:n<=1024)(hs:oG ⟨im,[⟨k,t,[]⟩]⟩=0)(hn:fY now=true)(ht:t<=now):PC 149 [.agg [zV n,.snap []],.agg [.snap (aB bA im),.snap [[zV k,zV t,.snap []]]],.c (.slice none 0 0),zV now] (.aK [.agg [.snap (aB bA im),.snap [[zV k,zV t,.snap []]]],.c (.slice none 0 0),zV 0]):=by
 refine iZ func149 ntmps149 (by simp only[go_sem];exact fun _ h=>h.elim) ?_
 have hL:DW ⟨im,[⟨k,t,[]⟩]⟩:=⟨hl,hv,by simp,fun x hx=>by
  simp only[dJ,iI,or_false]at hx;subst hx
  exact⟨by simp,fun w hw=>by simp at hw⟩⟩
 have c1:PC 26 [.agg [zV n,.snap []]] (zV (rH ⟨n,[]⟩)):=Cl ⟨n,[]⟩ (by simp)
 have hp:rH ⟨n,[]⟩=0:=by
  unfold rH lW;simp[II];omega
 rw[hp]at c1;have c2:PC 134 [.agg [.snap (aB bA im),.snap [[zV k,zV t,.snap []]]]] (zV (oG ⟨im,[⟨k,t,[]⟩]⟩)):=VR ⟨im,[⟨k,t,[]⟩]⟩ hL;rw[hs]at c2;have c3:PC 226 [.agg [.snap (aB bA im),.snap [[zV k,zV t,.snap []]]]] (.agg [.snap (aB bA im),.snap [[zV k,zV t,.snap []]]]):=aO6 ⟨im,[⟨k,t,[]⟩]⟩ hL;have c4:=VP now 0 1073741824
 have hi:lW now 0 1073741824=true:=by
  unfold fY at hn;unfold lW;exact hn
 rw[hi]at c4;have c5:=aS3 n t now h1 h2;have b1:¬now<t:=oM
 clear hL hs hv hp hn hi;refine aE ?_;refine fZ 2 ?_;refine gD ?_;refine aE ?_;refine fZ 2 ?_;refine gD ?_;refine aE ?_;exact dS
end Go.Proofs.YtpaomccedbjknaaGreatDoor
namespace Go.Proofs.YtpaomccedbjknaaGreatDoor
open Go.Proofs Go.AL Tryz
set_option maxRecDepth 100000
set_option maxHeartbeats 8000000
attribute [local irreducible] bT tN wU tS AW b8 cF dB hold
attribute [local irreducible] iX
theorem aS5{s:jB}{n:Int}(h:n∈sO s):(pX s n).2=0:=by
 unfold sO at h;split at h
 ·rename_i g
  obtain⟨x,hx,rfl⟩:=mF.1 h;obtain⟨gX,Si⟩:=KM.1 hx;obtain⟨hj,-,iR⟩:=FA g;have yQ:PW s.bI:=(Q9 s.j _ _ _ iR).1;have oC:=HZ s.j _ _ _ iR;obtain⟨b1,b2⟩:=Qm (Qh yQ gX);unfold pX;rw[if_pos g,if_pos b1,b2,if_pos Si];exact(Qp (oC _ gX)).2.2.1 Si
 ·simp at h
theorem aS6{s:jB}:(sO s).length<=s.bI.length:=by
 unfold sO;split
 ·rw[zP]
  exact Zn _ _
 ·simp
theorem aS7:iO mV=[zV 0,zV 0,zV 0,.snap [],.snap []]:=rfl
def W7(o:Option kM):kM×Bool:=match o with|some c=>(c,true)|none=>(mV,false)
def IV(t:fR)(k:Nat):Option kM:=((((sO t.s).drop k).map fun n=>(pX t.s n).1).find? fun c=>decide (c.base<=t.r.dK))
theorem aS8{t:fR}{k:Nat}(hk:k<(sO t.s).length):IV t k=if(pX t.s ((sO t.s).getD k 0)).1.base<=t.r.dK then some (pX t.s ((sO t.s).getD k 0)).1 else IV t (k+1):=by
 unfold IV;rw[VQ 0 hk,qE,List.find?_cons];by_cases g:(pX t.s ((sO t.s).getD k 0)).1.base<=t.r.dK
 ·rw[if_pos g,decide_eq_true g]
 ·rw[if_neg g,decide_eq_false g]
theorem aS9(t:fR)(ht:tT t):PC 65 [.agg (cP t)] (.aK [.agg (iO (W7 (QY t)).1),bV (W7 (QY t)).2]):=by
 refine iZ func65 ntmps65 (by simp only[go_sem,iO]) ?_
 have c1:=ax6 t.s ht.s;have hL:=aS6 (s:=t.s);have hc:=ht.s.bI
 have c2:∀n,n∈sO t.s->PC 60 [.agg (dH t.s),zV n] (.aK [.agg (iO (pX t.s n).1),zV 0]):=fun n hn=>by
  have h1:=No t.s n ht.s;rw[aS5 hn]at h1;exact h1
 replace c2:=bC.mk c2
 have hs:=fun k (hk:k<(sO t.s).length)=>aS8 (t:=t) hk
 replace hs:=bC.mk hs
 have m0:=(sR 0).1 rfl;have hg:=gI (sO t.s)
 replace hg:=bC.mk hg
 obtain⟨M,hM⟩:∃M,QY t=M:=⟨_,rfl⟩;have h0:IV t 0=M:=hM
 have tH:IV t (sO t.s).length=none:=by
  unfold IV;rw[v8];rfl
 rw[hM];clear ht hM;rw[iF];unfold dH at*;generalize hLs:sO t.s=L at*;refine aE ?_;refine dC (α:=Unit) L.length (fun k _=> [(12,true,zV k),(11,true,zV L.length),(10,true,.snap (aB aW L)),(1,true,.ptr 0 0 0),(2,true,.ptr 1 0 0)]) (fun _ _=> [(0,gU (cP t)),(1,some (.cells 72 5 [[zV 0,zV 0,zV 0,.c (.slice none 0 0),.c (.slice none 0 0)]] true false))]) (fun k m _=>100<=m/\IV t k=M) ⟨100,(),⟨oM,h0⟩,by rw[iF];exact aG⟩ (fun k m _ hk hR=> ?_) (fun m _ hR=> ?_)
 ·obtain⟨hm,hR⟩:=hR
  have bO:(aB aW L)[k]? =some [zV (L.getD k 0)]:=hg.out k hk;have c2k:=c2.out (L.getD k 0) (eB 0 hk);rw[hs.out k hk]at hR;clear hg c2 hs h0 tH;generalize L.getD k 0=n at*;generalize pX t.s n=C at*;rw[iF];by_cases g:C.1.base<=t.r.dK
  ·rw[if_pos g]at hR
   subst hR;have e:W7 (some C.1)=(C.1,true):=rfl;rw[e];unfold iO at*;clear e;refine aE ?_;exact dS
  ·rw[if_neg g]at hR
   replace hR:=bC.mk hR
   unfold iO at*;refine aE ?_;exact⟨m+100,(),⟨oM,hR.out⟩,aG⟩
 ·obtain⟨hm,hR⟩:=hR
  rw[tH]at hR;subst hR;have e:W7 none=(mV,false):=rfl;rw[e,aS7,iF];clear hg c2 hs h0 tH e;refine aE ?_;exact dS
theorem aT0(t:fR)(c:kM)(now n:Int)(ht:tT t)(hc:yP c)(hx:t.x.items=[])(hp:t.p=⟨n,[]⟩)(h1:1<=n)(h2:n<=1024)(hz:cZ (bH t.x.cur)=0)(ha:(kY t.x.cur c.writes).2.2=0)(hn:fY c.number=true)(M0:fY now=true):PC 69 [.agg (cP t),.agg (iO c),zV now] (.agg [.snap (aB bA (kY t.x.cur c.writes).1),.snap [[zV c.number,zV now,.snap []]]]):=by
 refine iZ func69 ntmps69 (by simp only[go_sem];exact fun _ h=>h.elim) ?_
 obtain⟨-,a1,-⟩:=aK1 ha
 have hlen:(kY t.x.cur c.writes).1.length<=1000:=by
  have:=congrArg List.length a1;simp only[bH,zP]at this;have:=ht.x.im;omega
 have Db:∀v∈(kY t.x.cur c.writes).1,v.length<=1000000:=fun v hv=>by
  have h3:(v.length:Int)∈bH (kY t.x.cur c.writes).1:=mF.2 ⟨v,hv,rfl⟩;rw[a1]at h3;obtain⟨u,hu,e⟩:=mF.1 h3;have:=ht.x.Rr u hu;omega
 have xT:cZ (bH (kY t.x.cur c.writes).1)=0:=by rw[a1];exact hz
 have c1:=aS0 t.x.cur c.writes ht.x.im ht.x.Rr hc.2 hz ha;have c2:=aS1 (kY t.x.cur c.writes).1 c.number now hlen Db xT hn M0
 have AP:oG ⟨(kY t.x.cur c.writes).1,[⟨c.number,now,[]⟩]⟩=0:=by
  have h3:0<=c.number/\0<=now:=by unfold fY at hn M0;simp at hn M0;omega
  exact(aK2 (s:=⟨(kY t.x.cur c.writes).1,[]⟩) (Da xT) hn (by show(-1:Int)<c.number;omega) M0 (by show(0:Int)<=now;omega) (by simp)).2
 have c3:=aS4 (kY t.x.cur c.writes).1 c.number now n now hlen Db h1 h2 AP M0 oM
 have m0:=(sR 0).1 rfl;have c1':PC 147 [.agg [.snap (aB bA t.x.cur),.snap (aB cX t.x.items)],.snap (aB aH c.writes)] (.aK [.agg [.snap (aB bA (kY t.x.cur c.writes).1),.c (.slice none 0 0)],zV 0]):=by rw[hx];exact c1
 have Kd:PC 148 [.agg [.snap (aB bA (kY t.x.cur c.writes).1),.c (.slice none 0 0)],zV c.number,zV now] (.aK [.agg [.snap (aB bA (kY t.x.cur c.writes).1),.snap [[zV c.number,zV now,.snap []]]],zV 0]):=eA.less c2 (eE (vD (eE (.refl _) (eE .nil mS))) (tY _));have c3':PC 149 [.agg [zV t.p.C7,.snap (aB jY t.p.rules)],.agg [.snap (aB bA (kY t.x.cur c.writes).1),.snap [[zV c.number,zV now,.snap []]]],.c (.slice none 0 0),zV now] (.aK [.agg [.snap (aB bA (kY t.x.cur c.writes).1),.snap [[zV c.number,zV now,.snap []]]],.c (.slice none 0 0),zV 0]):=by rw[hp];exact c3
 clear c1 c2 c3 AP xT Db hlen a1 hz ha hn M0 h1 h2 hp hx ht hc;generalize (kY t.x.cur c.writes).1=im at*;rw[iF];unfold iO;refine aE ?_;exact dS
end Go.Proofs.YtpaomccedbjknaaGreatDoor
namespace Go.Proofs.YtpaomccedbjknaaGreatDoor
open Go.Proofs Go.AL Tryz
set_option maxRecDepth 100000
set_option maxHeartbeats 8000000
def Sj(P:Program)(Q:Exit->AS->Prop)(e:Exit)(σ:AS):Prop:=(e= .normal->tS P σ (Q .normal))/\(e≠ .normal->Q e σ)
theorem Sk{P:Program}{Q:Exit->AS->Prop}{σ:AS}(h:tS P σ (Q .normal)):Sj P Q .normal σ:=⟨fun _=>h,fun g=>absurd rfl g⟩
theorem Sl{P:Program}{σ:AS}{Q:Exit->AS->Prop}{c:Code}(h:AW P c σ (Sj P Q)):AW P c σ Q:=fun ro E W act dP bL=>
 wpIn_mono (h ro E W act dP bL) fun e a w ⟨E',aN,h1,h2,h3,h4⟩=>by
  by_cases g:e= .normal
  ·subst g
   obtain⟨E2,y2,h5,h6,h7,h8⟩:=h4.1 rfl E' w a h2;exact⟨E2,y2,h1.trans h5,h6,h7.trans h3,h8⟩
  ·exact⟨E',aN,h1,h2,h3,h4.2 g⟩
attribute [local irreducible] bT tN wU tS AW b8 cF dB hold
attribute [local irreducible] iX
abbrev FY(d:bQ):Option aI:=some (.cells 61 2 [bD d] true false)
theorem Sm{dd k:Nat}{rows:List (List AV)}(hk:k=rows.length):FL dd rows [[.own dd 0 k]] [[.snap rows]]:=by
 subst hk;refine⟨rfl,fun i r r' hr cG=> ?_⟩
 cases i with
 |succ i=>simp at hr
 |zero=>
  simp only[qX,bM]at hr cG;subst hr cG;refine⟨rfl,fun j x x' h1 h2=> ?_⟩
  cases j with
  |zero=>
   simp only[qX,bM]at h1 h2;subst h1 h2;exact .inr ⟨0,rows.length,rfl,oM,by rw[sZ,gP]⟩
  |succ j=>simp at h1
def Sn(b:fR)(o:List bR)(r:AV)(H:Heap):Prop:=r=zV 0/\∃m,H=⟨m,bN [(3,gU l6),(4,gU (cP b)),(5,sA (.snap (aB aH o))),(6,some (.cells 4 1 [[bV true]] true false))]⟩
structure Sp(d D1:bQ)(t:fR)(now:Int)(c:kM)(A:eD×List bR)(X:jB×List bR)(S:lM)(n:Int):Prop where
 c1:PC 63 [.agg (bD d)] (zV 0)
 c2:PC 64 [.agg (cP t)] (zV 0)
 c3:PC 29 [zV now] (bV true)
 c4:PC 65 [.agg (cP t)] (.aK [.agg (iO c),bV true])
 c5:PC 66 [.agg (bD d),.agg (cC t.r),.agg (iO c)] (.aK [.agg (cC A.1),.snap (aB aH A.2),zV 0])
 c6:PC 48 [.agg (bD d),.snap (aB aH A.2)] (.aK [.agg (bD D1),zV n,zV 0])
 c7:PC 68 [.agg (bD D1),.agg (dH t.s),zV c.number] (.aK [.agg (dH X.1),.snap (aB aH X.2),zV 0])
 c8:PC 69 [.agg (cP t),.agg (iO c),zV now] (.agg (kN S))
 c9:PC 34 [.agg (kO t.p)] (.agg (kO t.p))
 e1:t.x.items=[]
 e2:A.2≠[]
 e3:A.2.length<=100000
 e4:X.2.length<=100000
theorem aT1{d D1:bQ}{t:fR}{now:Int}{c:kM}{A:eD×List bR}{X:jB×List bR}{S:lM}{n:Int}(h:Sp d D1 t now c A X S n):qA prog 62 [.ptr 0 0 0,.ptr 1 0 0,.ptr 2 0 0,.ptr 4 0 0,.ptr 5 0 0,.ptr 6 0 0] ⟨9,bN [(0,FY d),(1,gU (cP t)),(2,some (.cells 3 1 [[zV now]] true false)),(3,gU l6),(4,gU l6),(5,sA (.c (.slice none 0 0))),(6,some (.cells 4 1 [[bV false]] true false)),(8,some (tO 0))]⟩ (fun _ H'=>Ct 8 (Sn ⟨A.1,X.1,S,t.p,t.site⟩ (A.2++X.2)) 0 H') (fun x H'=>∃e,x=uO e/\Ct 8 (Sn ⟨A.1,X.1,S,t.p,t.site⟩ (A.2++X.2)) e H'):=by
 refine LW func62 ntmps62 ?_;obtain⟨c1,c2,c3,c4,c5,c6,c7,c8,c9,e1,e2,e3,e4⟩:=h;have m0:=(sR 0).1 rfl;have d0:=(zB true 24 dE).1 rfl
 have e5:(aB aH A.2).isEmpty=false:=by rw[Dc];exact qF e2
 obtain⟨A1,A2⟩:=A;obtain⟨X1,X2⟩:=X;simp only[]at*;have FF:aB aH A2++aB aH X2=aB aH (A2++X2):=DR _ _;obtain⟨tr,ts,⟨cur,items⟩,tp,aT2⟩:=t;simp only[]at e1;subst e1;rw[iF]at*;simp only[]at*;unfold FY;unfold kO bD cC dH kN iO at*;clear e2;refine dI (gM ?_);refine aE ?_;refine gH.mk (dI (gM ?_));refine aE ?_;refine gH.mk (dI (gM ?_))
 refine aE ?_;refine gH.mk (dI (gM ?_));refine aE ?_;refine gH.mk (dI (gM ?_));refine aE ?_;refine gH.mk (dI (gM ?_));refine aE ?_;refine gH.mk (dI (gM ?_));refine aE ?_;refine gH.mk (dI (gM ?_));refine aE ?_;refine gH.mk (dI (gM ?_));refine aE ?_;refine gH.mk (dI (gM ?_));refine aE ?_;refine eO func67 ntmps67 ?_
 refine dI (gM ?_);refine aE ?_;refine gH.mk (dI (gM ?_));refine aE ?_;refine gH.mk ?_;refine FZ ?_;refine aE ?_;refine gH.mk (dI (gM ?_));refine aE ?_;refine gH.mk (dI (gM ?_));refine aE ?_;refine gH.mk (dI (gM ?_));refine aE ?_;refine gH.mk (dI (gM ?_));refine aE ?_;refine gH.mk (Sl ?_);refine xL ?_
 refine xL ?_;refine Sk ?_;refine LY 79 5 [[.snap (aB aH (A2++X2))]] eN eN dE (Sm (by rw[fK,cU])) ?_
 exact iT (LX (zC (a:= .aK []) (Cq 1000 [(3,gU l6),(4,gU (cP ⟨A1,X1,S,tp,aT2⟩)),(5,sA (.snap (aB aH (A2++X2)))),(6,some (.cells 4 1 [[bV true]] true false))] dE (by rw[iF];exact aG) (by simp) (fun M'=>⟨rfl,M',rfl⟩))))
theorem aT3{d D1:bQ}{t:fR}{now:Int}{c:kM}{A:eD×List bR}{X:jB×List bR}{S:lM}{n:Int}(h:Sp d D1 t now c A X S n):PC 16 [.agg (bD d),.agg (cP t),zV now] (.aK [.agg (cP ⟨A.1,X.1,S,t.p,t.site⟩),.snap (aB aH (A.2++X.2)),bV true,zV 0]):=by
 have c1:=LQ (L:=[(0,FY d),(1,gU (cP t)),(2,some (.cells 3 1 [[zV now]] true false)),(3,gU l6),(4,gU l6),(5,sA (.c (.slice none 0 0))),(6,some (.cells 4 1 [[bV false]] true false))]) (N:=8) (aT1 h);refine iZ func16 ntmps16 (by rw[iF];simp only[go_sem,bD]) ?_
 clear h;unfold FY at c1;rw[iF]at c1⊢;unfold bD at*;refine aE ?_;refine tC c1 (fun r H' hr=> ?_)
 obtain⟨rfl,m,rfl⟩:=hr;rw[iF];refine aE ?_;exact dS
end Go.Proofs.YtpaomccedbjknaaGreatDoor
