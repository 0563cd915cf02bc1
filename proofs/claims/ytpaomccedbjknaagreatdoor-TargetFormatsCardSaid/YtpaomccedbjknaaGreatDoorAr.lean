/- Target: contracts of its functions (Ar). No condition but those named. -/
import Derived.Test.YtpaomccedbjknaaGreatDoorAq
set_option linter.all false
namespace Go.Proofs.YtpaomccedbjknaaGreatDoor
open Go.Proofs Go.AL Tryz
set_option maxRecDepth 100000
set_option maxHeartbeats 8000000
attribute [local irreducible] bT AW b8 cF dB hold
attribute [local irreducible] iX
theorem yZ(l:List Int):∀row∈aB aO l,∀x∈row,bF x:=fun row hr x hx=>by
 obtain⟨v,rfl⟩:=H5 l row hr x hx;exact .c v
theorem LA(b:List Int)(n:Int)(hb:b.length<=100000)(id:Nat):xR prog 178 [.own id 0 b.length,zV n] id 5 1 (aB aO b) 5 1 (aB aO (b++aV n)):=
 Np (yZ b) (yZ _) (fun a ha=>by simp only[dJ,iI,or_false]at ha;subst ha;exact .c _) ((TM b n hb (.own 0 0 b.length) [(0,some (.cells 5 1 (aB aO b) true true))] 1 ⟨KT n,rfl,.inr ⟨0,oM,rfl,rfl⟩⟩).mono fun r H ⟨i,h1,h2⟩=>⟨i,by rw[h1,fK],h2⟩) id
theorem Am{α:Type}(f:α->List Int)(d:α){l:List α}{k:Nat}(h:k<l.length):(l.take (k+1)).flatMap f=(l.take k).flatMap f++f (l.getD k d):=by
 rw[kF d h,Yz];simp
theorem An{α:Type}(f:α->List Int)(l:List α)(k:Nat):((l.take k).flatMap f).length<=(l.flatMap f).length:=by
 conv=>rhs;rw[<-Y4 k l]
 rw[Yz,cU];omega
theorem ax7(b:List Int)(l:List Int)(hb:b.length+(jP aV l).length<=100000)(hl:l.length<=100000)(id:Nat):xR prog 182 [.own id 0 b.length,.snap (aB aW l),.fn (.func 178) [] []] id 5 1 (aB aO b) 5 1 (aB aO (b++jP aV l)):=by
 refine QA func182 ntmps182 (yZ b) (yZ _) (fun a ha=> ?_) ?_ (id:=id)
 ·simp only[dJ,iI,or_false]at ha
  rcases ha with rfl|rfl
  ·exact gJ _
  ·exact .fn _ _ _ (fun x hx=>absurd hx (by simp)) (fun x hx=>absurd hx (by simp))
 have c1:=LA b l.length oM
 have Nq:(jP aV l).length=(aV l.length).length+(l.flatMap aV).length:=by unfold jP;rw[cU]
 have lK:=An aV l;have qK:=fun k (h:k<l.length)=>Am aV 0 h
 have hM:b++jP aV l=(b++aV l.length)++l.flatMap aV:=by unfold jP;rw[nH]
 rw[hM];have U5:(b++aV l.length).length=b.length+(aV l.length).length:=cU;generalize b++aV l.length=B at*;have hg:=gI l;clear hM;refine xS ?_;refine dC (α:=Nat) l.length (fun k id=> [(15,true,zV k),(14,true,zV l.length),(13,true,.snap (aB aW l)),(2,true,.fn (.func 178) [] []),(0,true,.own id 0 (B++(l.take k).flatMap aV).length)]) (fun k id=> [(id,some (.cells 5 1 (aB aO (B++(l.take k).flatMap aV)) true true))]) (fun k m id=>id<m) ⟨100,1,oM,by simp only[ER,Y3,v7];exact aG⟩ (fun k m id hk hR=> ?_) (fun m id hR=> ?_)
 ·have bO:=hg k hk
  have h1:=qK k hk;have h2:=lK (k+1);have h3:=lK k;have c2:=LA (B++(l.take k).flatMap aV) (l.getD k 0) (by rw[cU];omega)
  rw[h1,<-nH];rw[h1,cU]at h2;clear qK lK hg c1 h1;generalize hF:B++(l.take k).flatMap aV=F at*;generalize AB:F++aV (l.getD k 0)=F2 at*;generalize l.getD k 0=v at*;clear hF AB;refine xS ?_;exact⟨m+20,m,oM,aG⟩
 ·rw[gP]
  clear qK lK hg c1;generalize B++l.flatMap aV=F at*;refine xS ?_;exact⟨id,eN,eN⟩
theorem ax8(b:List Int)(x:aQ)(hb:b.length<=100000)(id:Nat):xR prog 235 [.own id 0 b.length,.agg (aP x)] id 5 1 (aB aO b) 5 1 (aB aO (b++pC x)):=by
 refine QA func235 ntmps235 (yZ b) (yZ _) (fun a ha=> ?_) ?_ (id:=id)
 ·simp only[dJ,iI,or_false]at ha
  subst ha;exact eM.2 (TG x)
 have hx:aP x=[uV x.1.1,uV x.1.2.1,uV x.1.2.2.1,uV x.1.2.2.2,uV x.2.1,uV x.2.2.1,uV x.2.2.2.1,uV x.2.2.2.2]:=rfl;have hr:aB aO (b++pC x)=aB aO b++[[uV x.1.1],[uV x.1.2.1],[uV x.1.2.2.1],[uV x.1.2.2.2],[uV x.2.1],[uV x.2.2.1],[uV x.2.2.2.1],[uV x.2.2.2.2]]:=by simp[aB,pC,aO]
 have hl:(aB aO (b++pC x)).length=b.length+8:=by rw[fK];simp[pC]
 rw[hx,hl,hr];refine xS ?_;exact⟨2,eN,eN⟩
theorem ax9(l:List aQ)(k:Nat)(h:k<l.length):(aB aP l)[k]? =some (aP (l.getD k bS)):=tB bS h
theorem Nr(l:List bR)(k:Nat)(h:k<l.length):(aB aH l)[k]? =some (aH (l.getD k (0,0,[]))):=tB (0,0,[]) h
theorem ay0(b:List Int)(l:List aQ)(hb:b.length+(jP pC l).length<=100000)(hl:l.length<=100000)(id:Nat):xR prog 234 [.own id 0 b.length,.snap (aB aP l),.fn (.func 235) [] []] id 5 1 (aB aO b) 5 1 (aB aO (b++jP pC l)):=by
 refine QA func234 ntmps234 (yZ b) (yZ _) (fun a ha=> ?_) ?_ (id:=id)
 ·simp only[dJ,iI,or_false]at ha
  rcases ha with rfl|rfl
  ·exact gJ _
  ·exact .fn _ _ _ (fun x hx=>absurd hx (by simp)) (fun x hx=>absurd hx (by simp))
 have c1:=LA b l.length oM
 have Nq:(jP pC l).length=(aV l.length).length+(l.flatMap pC).length:=by unfold jP;rw[cU]
 have lK:=An pC l;have qK:=fun k (h:k<l.length)=>Am pC bS h
 have hM:b++jP pC l=(b++aV l.length)++l.flatMap pC:=by unfold jP;rw[nH]
 rw[hM];have U5:(b++aV l.length).length=b.length+(aV l.length).length:=cU;generalize b++aV l.length=B at*;have hg:=ax9 l;clear hM;refine xS ?_;refine dC (α:=Nat) l.length (fun k id=> [(15,true,zV k),(14,true,zV l.length),(13,true,.snap (aB aP l)),(2,true,.fn (.func 235) [] []),(0,true,.own id 0 (B++(l.take k).flatMap pC).length)]) (fun k id=> [(id,some (.cells 5 1 (aB aO (B++(l.take k).flatMap pC)) true true))]) (fun k m id=>id<m) ⟨100,1,oM,by simp only[ER,Y3,v7];exact aG⟩ (fun k m id hk hR=> ?_) (fun m id hR=> ?_)
 ·have bO:=hg k hk
  have h1:=qK k hk;have h2:=lK (k+1);have h3:=lK k;have c2:=ax8 (B++(l.take k).flatMap pC) (l.getD k bS) (by rw[cU];omega)
  rw[h1,<-nH];rw[h1,cU]at h2;clear qK lK hg c1 h1;generalize hF:B++(l.take k).flatMap pC=F at*;generalize AB:F++pC (l.getD k bS)=F2 at*;generalize l.getD k bS=v at*;clear hF AB;refine xS ?_;exact⟨m+20,m+1+1,oM,aG⟩
 ·rw[gP]
  clear qK lK hg c1;generalize B++l.flatMap pC=F at*;refine xS ?_;exact⟨id,eN,eN⟩
theorem UY(w:bR):aH w=[zV w.1,zV w.2.1,.snap (aB aP w.2.2)]:=rfl
theorem ay1(b:List Int)(w:bR)(hb:b.length+(mU w).length<=100000)(hw:w.2.2.length<=100000)(id:Nat):xR prog 181 [.own id 0 b.length,.agg (aH w)] id 5 1 (aB aO b) 5 1 (aB aO (b++mU w)):=by
 refine QA func181 ntmps181 (yZ b) (yZ _) (fun a ha=> ?_) ?_ (id:=id)
 ·simp only[dJ,iI,or_false]at ha
  subst ha
  exact eM.2 fun x hx=>by
   rw[UY]at hx;simp only[dJ,iI,or_false]at hx;rcases hx with rfl|rfl|rfl
   ·exact .c _
   ·exact .c _
   ·exact gJ _
 have hlw:(mU w).length=(aV w.1).length+(aV w.2.1).length+(jP pC w.2.2).length:=by unfold mU;rw[cU,cU]
 have I0:b++mU w=(b++aV w.1)++aV w.2.1++jP pC w.2.2:=by unfold mU;simp only[nH]
 have c1:=LA b w.1 oM
 have c2:=LA (b++aV w.1) w.2.1 (by rw[cU];omega)
 have c3:=ay0 (b++aV w.1++aV w.2.1) w.2.2 (by rw[cU,cU];omega) hw
 rw[I0];generalize b++aV w.1=B1 at*;generalize B1++aV w.2.1=B2 at*;generalize B2++jP pC w.2.2=B3 at*;clear hlw I0 hb;rw[UY];refine xS ?_;exact⟨_,eN,eN⟩
theorem ay3(b:List Int)(l:List bR)(hb:b.length+(jP mU l).length<=100000)(hl:l.length<=100000)(hw:∀x∈l,x.2.2.length<=100000)(id:Nat):xR prog 180 [.own id 0 b.length,.snap (aB aH l),.fn (.func 181) [] []] id 5 1 (aB aO b) 5 1 (aB aO (b++jP mU l)):=by
 refine QA func180 ntmps180 (yZ b) (yZ _) (fun a ha=> ?_) ?_ (id:=id)
 ·simp only[dJ,iI,or_false]at ha
  rcases ha with rfl|rfl
  ·exact gJ _
  ·exact .fn _ _ _ (fun x hx=>absurd hx (by simp)) (fun x hx=>absurd hx (by simp))
 have c1:=LA b l.length oM
 have Nq:(jP mU l).length=(aV l.length).length+(l.flatMap mU).length:=by unfold jP;rw[cU]
 have lK:=An mU l;have qK:=fun k (h:k<l.length)=>Am mU (0,0,[]) h
 have hM:b++jP mU l=(b++aV l.length)++l.flatMap mU:=by unfold jP;rw[nH]
 rw[hM];have U5:(b++aV l.length).length=b.length+(aV l.length).length:=cU;generalize b++aV l.length=B at*;have hg:=Nr l;clear hM;refine xS ?_;refine dC (α:=Nat) l.length (fun k id=> [(15,true,zV k),(14,true,zV l.length),(13,true,.snap (aB aH l)),(2,true,.fn (.func 181) [] []),(0,true,.own id 0 (B++(l.take k).flatMap mU).length)]) (fun k id=> [(id,some (.cells 5 1 (aB aO (B++(l.take k).flatMap mU)) true true))]) (fun k m id=>id<m) ⟨100,1,oM,by simp only[ER,Y3,v7];exact aG⟩ (fun k m id hk hR=> ?_) (fun m id hR=> ?_)
 ·have bO:=hg k hk
  have h1:=qK k hk;have h2:=lK (k+1);have h3:=lK k;have h4:=lK (k+1);have c2:=ay1 (B++(l.take k).flatMap mU) (l.getD k (0,0,[])) (by rw[h1,cU]at h4;rw[cU];omega) (hw _ (eB _ hk))
  rw[h1,<-nH];rw[h1,cU]at h2;clear qK lK hg c1 h1 h4;rw[UY]at bO c2;generalize hF:B++(l.take k).flatMap mU=F at*;generalize AB:F++mU (l.getD k (0,0,[]))=F2 at*;generalize l.getD k (0,0,[])=v at*;clear hF AB;refine xS ?_;exact⟨m+20,m+1+1,oM,aG⟩
 ·rw[gP]
  clear qK lK hg c1;generalize B++l.flatMap mU=F at*;refine xS ?_;exact⟨id,eN,eN⟩
theorem ay4(b:List Int)(l:List Int)(aT:b≠[])(hb:b.length+(jP aV l).length<=100000)(hl:l.length<=100000):rP prog 108 [.snap (aB aO b),.snap (aB aW l)] (.own 0 0 (aB aO (b++jP aV l)).length) 5 1 (aB aO (b++jP aV l)) true:=by
 refine KU func108 ntmps108 (H5 _) ?_;have c1:=YK b aT oM
 have c2:=ax7 b l hb hl;generalize b++jP aV l=B at*;refine xS ?_;exact⟨_,eN,eN⟩
theorem ay5(b:List Int)(l:List bR)(aT:b≠[])(hb:b.length+(jP mU l).length<=100000)(hl:l.length<=100000)(hw:∀x∈l,x.2.2.length<=100000):rP prog 107 [.snap (aB aO b),.snap (aB aH l)] (.own 0 0 (aB aO (b++jP mU l)).length) 5 1 (aB aO (b++jP mU l)) true:=by
 refine KU func107 ntmps107 (H5 _) ?_;have c1:=YK b aT oM
 have c2:=ay3 b l hb hl hw;generalize b++jP mU l=B at*;refine xS ?_;exact⟨_,eN,eN⟩
theorem ay6(n:Int):aV n≠[]:=fun h=>by
 unfold aV at h;by_cases g:iY n<128
 ·rw[KR g]at h;simp at h
 ·rw[OY g]at h;simp at h
theorem ay7(c:kM)(hc:yP c)(hp:c.pos.length<=100000)(hn:c.writes.length<=100000)(hw:∀x∈c.writes,x.2.2.length<=100000)(hl:(yS c).length<=100000):PC 49 [.agg (iO c)] (.aK [.snap (aB aO (vK c).1),zV (vK c).2]):=by
 refine aZ func49 ntmps49 (by simp only[go_sem]) ?_
 have c0:=Mr;have c1:=U1 c A4 dE hc
 have hE:vK c=if rT c A4=0 then(if 65536<(yS c).length then([],5)else(yS c,0))else([],rT c A4):=rfl
 have hW:yS c=aV c.base++aV c.number++aV c.time++jP aV c.pos++jP mU c.writes:=rfl;have hlW:(yS c).length=(aV c.base).length+(aV c.number).length+(aV c.time).length+(jP aV c.pos).length+(jP mU c.writes).length:=by rw[hW];simp only[cU]
 have v1:=lR c.base;have v2:=lR c.number;have v3:=lR c.time;have c2:=H6 c.base;have c3:=BE (aV c.base) c.number oM
 have c4:=BE (aV c.base++aV c.number) c.time (by rw[cU];omega)
 have Ao:aV c.base++aV c.number++aV c.time≠[]:=fun h=>by
  have:=(List.append_eq_nil_iff.1 h).2;exact ay6 _ this
 have c5:=ay4 (aV c.base++aV c.number++aV c.time) c.pos Ao (by simp only[cU];omega) hp
 have c6:=ay5 (aV c.base++aV c.number++aV c.time++jP aV c.pos) c.writes (fun h=>Ao (List.append_eq_nil_iff.1 h).1) (by simp only[cU];omega) hn hw
 rw[<-hW]at c6;rw[sF]at c2;generalize hM:vK c=M at*;generalize aV c.base=b1 at*;generalize b1++aV c.number=b2 at*;generalize b2++aV c.time=b3 at*;generalize b3++jP aV c.pos=b4 at*;generalize yS c=b5 at*;generalize rT c A4=e at*;clear hc hw Ao hW hlW hM;obtain⟨cb,cn,ct,cp,cw⟩:=c;unfold iO at*;simp only[]at*;by_cases g1:e=0
 ·rw[if_pos g1]at hE
  subst g1;by_cases g2:65536<b5.length
  ·rw[if_pos g2]at hE
   subst hE;have rC:(65536:Int)<b5.length:=oM
   refine aE ?_;refine fZ 4 ?_;refine gD ?_;exact zE
  ·rw[if_neg g2]at hE
   subst hE;have rC:¬(65536:Int)<b5.length:=oM
   refine aE ?_;refine fZ 4 ?_;refine gD ?_;exact zE
 ·rw[if_neg g1]at hE
  subst hE;clear c2 c3 c4 c5 c6;exact zE
def wO(n i p s:Int):List Int:=aV n++aV i++aV p++aV s
theorem ay9(n i p s:Int):rP prog 52 [.agg [zV n,zV p,zV s,zV i]] (.own 0 0 (aB aO (wO n i p s)).length) 5 1 (aB aO (wO n i p s)) true:=by
 refine KU func52 ntmps52 (H5 _) ?_;unfold wO;have v1:=lR n;have v2:=lR i;have v3:=lR p;have c2:=H6 n;have c3:=BE (aV n) i oM
 have c4:=BE (aV n++aV i) p (by rw[cU];omega)
 have c5:=BE (aV n++aV i++aV p) s (by simp only[cU];omega)
 rw[sF]at c2;generalize aV n=b1 at*;generalize b1++aV i=b2 at*;generalize b2++aV p=b3 at*;generalize b3++aV s=b4 at*;refine aE ?_;refine fZ 5 ?_;refine gD ?_;refine aE ?_;exact⟨_,eN,eN⟩
end Go.Proofs.YtpaomccedbjknaaGreatDoor
