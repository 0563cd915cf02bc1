/- Target: contracts of its functions (Azd). No condition but those named. -/
import Derived.Test.YtpaomccedbjknaaGreatDoorAzb
set_option linter.all false
namespace Go.Proofs.YtpaomccedbjknaaGreatDoor
open Go.Proofs Go.AL Tryz
set_option maxRecDepth 100000
set_option maxHeartbeats 8000000
attribute [local irreducible] bT AW b8 cF dB hold
theorem iF(t:fR):cP t=[.snap (aB aW t.r.aR),zV t.r.gQ,zV t.r.data,zV t.r.dY,zV t.r.dK,zV t.r.jM,zV t.s.j.start,zV t.s.j.count,zV t.s.j.head,zV t.s.j.tail,zV t.s.j.first,.snap (aB aW t.s.j.aR),.snap (aB bX t.s.bI),.snap (aB bA t.x.cur),.snap (aB cX t.x.items),zV t.p.C7,.snap (aB jY t.p.rules),zV t.site]:=rfl
theorem Ru{α:Type}{z:α}{q:α->Bool}{l:List α}(h:∀i,i<l.length->q (l.getD i z)=false):l.findIdx? q=none:=by
 rw[KH];intro x hx;obtain⟨i,hi⟩:=CT.1 hx;obtain⟨h1,h2⟩:=fT.1 hi;have:=h i h1;simp[h1,h2]at this;exact this
theorem Rv{α:Type}{z:α}{q:α->Bool}{l:List α}{k:Nat}(hk:k<l.length)(h:q (l.getD k z)=true)(hR:∀i,i<k->q (l.getD i z)=false):l.findIdx? q=some k:=by
 rw[KG];exact⟨hk,by simpa[hk]using h,fun j hj=>by have:=hR j hj;simp[show j<l.length by omega]at this;simpa using this⟩
def CB(n:Int)(x:bK):Bool:=decide (x.number<=n)
theorem aO7(t:fR)(x:bK):PC 138 [.agg (bX x),.cH [cP t] 0 0] (bV (CB t.r.dK x)):=by
 refine aZ func138 ntmps138 (.c _) ?_;rw[iF,lY];unfold CB;exact zEa
theorem aO8(t:fR)(l:List bK)(hl:l.length<=1000000):PC 213 [.snap (aB bX l),.fn (.func 138) [] [.cH [cP t] 0 0]] (zV (pM (l.findIdx? (CB t.r.dK)))):=by
 refine aZ func213 ntmps213 (.c _) ?_;have hg:=yU l;have c0:=aO7 t;generalize CB t.r.dK=q at*;rw[iF]at*;generalize hv:pM (l.findIdx? q)=v;refine aM ?_;refine dC (α:=Unit) l.length (fun k _=> [(8,true,zV k),(7,true,zV l.length),(0,true,.snap (aB bX l)),(1,true,.fn (.func 138) [] [.cH [[.snap (aB aW t.r.aR),zV t.r.gQ,zV t.r.data,zV t.r.dY,zV t.r.dK,zV t.r.jM,zV t.s.j.start,zV t.s.j.count,zV t.s.j.head,zV t.s.j.tail,zV t.s.j.first,.snap (aB aW t.s.j.aR),.snap (aB bX t.s.bI),.snap (aB bA t.x.cur),.snap (aB cX t.x.items),zV t.p.C7,.snap (aB jY t.p.rules),zV t.site]] 0 0])]) (fun _ _=> []) (fun k m _=>∀i,i<k->q (l.getD i bU)=false) ⟨0,(),fun i hi=>by omega,aG⟩ (fun k m _ hk hR=> ?_) (fun m _ hR=> ?_)
 ·have bO:=hg k hk
  have c1:=c0 (l.getD k bU);clear c0 hg;cases h:q (l.getD k bU)with
  |true=>
   rw[Rv hk h hR]at hv;have hv:(k:Int)=v:=hv;subst hv;rw[h]at c1;clear hR h;generalize l.getD k bU=x at*;rw[lY]at*;exact zEa
  |false=>
   rw[h]at c1
   have cW:bC (∀i,i<k+1->q (l.getD i bU)=false):=⟨fun i hi=>by
    by_cases iJ:i=k
    ·subst iJ;exact h
    ·exact hR i oM⟩
   clear hR h hv;generalize l.getD k bU=x at*;rw[lY]at*;refine aM ?_;exact⟨m,(),cW.out,aG⟩
 ·rw[Ru hR]at hv
  have hv:(-1:Int)=v:=hv;subst hv;clear hR c0 hg;exact zEa
theorem aO9(t:fR)(l:List bK)(hl:l.length<=1000000):PC 137 [.snap (aB bX l),.fn (.func 138) [] [.cH [cP t] 0 0]] (bV (l.any (CB t.r.dK))):=by
 refine aZ func137 ntmps137 (.c _) ?_;have c1:=aO8 t l hl;have h1:=PG (CB t.r.dK) l;generalize pM (l.findIdx? (CB t.r.dK))=v at*;generalize l.any (CB t.r.dK)=b at*;rw[iF]at*;exact zEa
def CC(n:Int)(x:lL):Bool:=decide (n<x.number)
theorem aP0(t:fR)(x:lL):PC 140 [.agg (cX x),.cH [cP t] 0 0] (bV (CC t.r.dK x)):=by
 refine aZ func140 ntmps140 (.c _) ?_;rw[iF,FW];unfold CC;exact zEa
theorem aP1(t:fR)(l:List lL)(hl:l.length<=1000000):PC 214 [.snap (aB cX l),.fn (.func 140) [] [.cH [cP t] 0 0]] (zV (pM (l.findIdx? (CC t.r.dK)))):=by
 refine aZ func214 ntmps214 (.c _) ?_;have hg:=LR l;have c0:=aP0 t;generalize CC t.r.dK=q at*;rw[iF]at*;generalize hv:pM (l.findIdx? q)=v;refine aM ?_;refine dC (α:=Unit) l.length (fun k _=> [(8,true,zV k),(7,true,zV l.length),(0,true,.snap (aB cX l)),(1,true,.fn (.func 140) [] [.cH [[.snap (aB aW t.r.aR),zV t.r.gQ,zV t.r.data,zV t.r.dY,zV t.r.dK,zV t.r.jM,zV t.s.j.start,zV t.s.j.count,zV t.s.j.head,zV t.s.j.tail,zV t.s.j.first,.snap (aB aW t.s.j.aR),.snap (aB bX t.s.bI),.snap (aB bA t.x.cur),.snap (aB cX t.x.items),zV t.p.C7,.snap (aB jY t.p.rules),zV t.site]] 0 0])]) (fun _ _=> []) (fun k m _=>∀i,i<k->q (l.getD i gG)=false) ⟨0,(),fun i hi=>by omega,aG⟩ (fun k m _ hk hR=> ?_) (fun m _ hR=> ?_)
 ·have bO:=hg k hk
  have c1:=c0 (l.getD k gG);clear c0 hg;cases h:q (l.getD k gG)with
  |true=>
   rw[Rv hk h hR]at hv;have hv:(k:Int)=v:=hv;subst hv;rw[h]at c1;clear hR h;generalize l.getD k gG=x at*;rw[FW]at*;exact zEa
  |false=>
   rw[h]at c1
   have cW:bC (∀i,i<k+1->q (l.getD i gG)=false):=⟨fun i hi=>by
    by_cases iJ:i=k
    ·subst iJ;exact h
    ·exact hR i oM⟩
   clear hR h hv;generalize l.getD k gG=x at*;rw[FW]at*;refine aM ?_;exact⟨m,(),cW.out,aG⟩
 ·rw[Ru hR]at hv
  have hv:(-1:Int)=v:=hv;subst hv;clear hR c0 hg;exact zEa
theorem aP2(t:fR)(l:List lL)(hl:l.length<=1000000):PC 139 [.snap (aB cX l),.fn (.func 140) [] [.cH [cP t] 0 0]] (bV (l.any (CC t.r.dK))):=by
 refine aZ func139 ntmps139 (.c _) ?_;have c1:=aP1 t l hl;have h1:=PG (CC t.r.dK) l;generalize pM (l.findIdx? (CC t.r.dK))=v at*;generalize l.any (CC t.r.dK)=b at*;rw[iF]at*;exact zEa
theorem aP3(v:List aQ)(n:Int):PC 136 [.snap (aB aP v),zV n] (bV (decide ((v.length:Int)=n))):=by
 refine aZ func136 ntmps136 (.c _) ?_;exact zEa
theorem aP4(im:List (List aQ))(sz:List Int)(h1:im.length<=1000000)(h2:sz.length<=1000000):PC 135 [.snap (aB bA im),.snap (aB aW sz),.fn (.func 136) [] []] (bV (decide (bH im=sz))):=by
 refine aZ func135 ntmps135 (.c _) ?_;have ga:=gV im;have gb:=gI sz;have sP:=vE im;obtain⟨M,hM⟩:∃M,decide (bH im=sz)=M:=⟨_,rfl⟩;rw[hM];by_cases g1:im.length=sz.length
 case neg=>
  have:¬bH im=sz:=fun h=>g1 (by rw[<-h,sP])
  rw[decide_eq_false this]at hM;subst hM;have rX:((im.length:Int) !=(sz.length:Int))=true:=bne_iff_ne.2 oM
  clear this g1 ga gb sP;exact zEa
 have rX:((im.length:Int) !=(sz.length:Int))=false:=by simp[g1]
 have sP:=bC.mk sP;refine aM ?_;refine dC (α:=Unit) im.length (fun k _=> [(17,true,zV k),(16,true,zV im.length),(15,true,.snap (aB bA im)),(2,true,.fn (.func 136) [] []),(1,true,.snap (aB aW sz)),(0,true,.snap (aB bA im))]) (fun _ _=> []) (fun k m _=>∀i,i<k->(bH im).getD i 0=sz.getD i 0) ⟨100,(),(fun i hi=>absurd hi oM),aG⟩ (fun k m _ hk hR=> ?_) (fun m _ hR=> ?_)
 ·have FJ:(aB bA im)[k]? =some [.snap (aB aP (im.getD k []))]:=ga k hk
  have FK:(aB aW sz)[k]? =some [zV (sz.getD k 0)]:=gb k oM
  have c1:=aP3 (im.getD k []) (sz.getD k 0);have hx:(bH im).getD k 0=((im.getD k []).length:Int):=by simp[bH,hk]
  have VB:k<sz.length:=oM
  clear ga gb;by_cases g:(bH im).getD k 0=sz.getD k 0
  ·have cW:bC (∀i,i<k+1->(bH im).getD i 0=sz.getD i 0):=⟨fun i hi=>by
    rcases qY i k with h1|h1
    ·exact hR i h1
    ·rw[show i=k by omega];exact g⟩
   rw[decide_eq_true (by rw[<-hx];exact g)]at c1
   clear hR hx g hM;generalize im.getD k []=v at*;generalize sz.getD k 0=n at*;refine aM ?_;exact⟨m+20,(),cW.out,aG⟩
  ·have:¬bH im=sz:=fun h=>g (by rw[h])
   rw[decide_eq_false this]at hM;subst hM;rw[decide_eq_false (by rw[<-hx];exact g)]at c1
   clear hR hx g this;generalize im.getD k []=v at*;generalize sz.getD k 0=n at*;exact zEa
 ·have h1:bH im=sz:=QI 0 (by rw[sP.out];exact g1) (fun i hi=>hR i (by rw[sP.out]at hi;exact hi))
  rw[decide_eq_true h1]at hM;subst hM;clear hR h1;exact zEa
theorem VW(sz:List Int)(n:Int)(hl:sz.length<=1000):PC 5 [.snap (aB aW sz),zV n] (.aK [zV (oH sz n).1,zV (oH sz n).2]):=by
 refine aZ func5 ntmps5 (by simp only[go_sem]) ?_
 have c1:=OX sz oM
 have hg:=gI sz;obtain⟨M,hM⟩:∃M,oH sz n=M:=⟨_,rfl⟩;rw[hM];unfold oH at hM;by_cases g1:cZ sz=0
 case neg=>
  rw[if_neg g1]at hM;subst hM;generalize cZ sz=e at*;generalize mG sz=im at*;have rX:(e !=0)=true:=bne_iff_ne.2 g1;clear g1;exact zE
 rw[if_pos g1]at hM;have uK:=GZ g1
 have uP:∀k,k<=sz.length->0<=sum (sz.take k)/\sum (sz.take k)<=k*4096:=fun k=>by
  induction k with
  |zero=>intro _;simp[sum]
  |succ k ih=>
   intro hk;have h1:=ih oM
   have h2:=uK.2.2 _ (eB 0 (show k<sz.length by omega))
   rw[kF 0 (show k<sz.length by omega),Le]
   have h3:sum [sz.getD k 0]=sz.getD k 0:=by simp[sum]
   rw[h3]
   push_cast
   omega
 have Cm:∀k,k<sz.length->sum (sz.take (k+1))=sum (sz.take k)+sz.getD k 0:=fun k hk=>by
  rw[kF 0 hk,Le];simp[sum]
 rw[g1]at c1;generalize mG sz=im at*;have uP:=bC.mk uP;have Cm:=bC.mk Cm;have hl8:=uK.2.1;clear uK g1;refine aE ?_;refine dC (α:=Int) sz.length (fun k s=> [(21,true,zV k),(20,true,zV sz.length),(19,true,.snap (aB aW sz)),(8,true,zV s),(1,true,zV n)]) (fun _ _=> []) (fun k m s=>s=16+sum (sz.take k)) ⟨100,16,by simp[sum],aG⟩ (fun k m s hk hR=> ?_) (fun m s hR=> ?_)
 ·have bO:(aB aW sz)[k]? =some [zV (sz.getD k 0)]:=hg k hk
  have h1:=uP.out k oM
  have h2:=uP.out (k+1) oM
  have h3:=Cm.out k hk;have h4:bC (s+sz.getD k 0=16+sum (sz.take (k+1))):=⟨oM⟩
  have h5:0<=s/\s<=40000:=oM
  have h6:0<=s+sz.getD k 0/\s+sz.getD k 0<=40000:=by push_cast at h2;omega
  clear hR h1 h2 h3 hg hM c1;generalize sz.getD k 0=x at*;have hw:IntKind.i64.wrap (s+x)=s+x:=IntWalk.i64_in _ oM
  clear h5 h6;refine aE ?_;exact⟨m+20,_,h4.out,aG⟩
 ·have h1:=uP.out sz.length (cA _)
  rw[gP]at hR h1;have h2:16<=s/\s<=40000:=oM
  have hs:sum sz=s-16:=oM
  rw[hs]at hM;clear hR h1 hs hg c1;have BV:IntKind.i64.wrap (4096-s)=4096-s:=IntWalk.i64_in _ oM
  by_cases g2:n<20
  ·rw[if_pos (.inl g2)]at hM
   subst hM;exact zE
  by_cases g3:4096-s<n
  ·rw[if_pos (.inr oM)]at hM
   subst hM;exact zE
  ·rw[if_neg oM]at hM
   subst hM;have PB:IntKind.i64.wrap (s+n)=s+n:=IntWalk.i64_in _ oM
   have AP:16+(s-16)+n=s+n:=oM
   rw[AP];clear AP;exact zE
theorem Rw(sz:List Int)(n:Int)(hl:sz.length<=1000):PC 6 [.snap (aB aW sz),zV n] (.aK [zV (oH sz n).1,zV (oH sz n).2]):=by
 refine aZ func6 ntmps6 (by simp only[go_sem]) ?_
 have c1:=TJ sz oM
 have c2:=YG sz oM
 obtain⟨M,hM⟩:∃M,oH sz n=M:=⟨_,rfl⟩;rw[hM];unfold oH at hM;by_cases g1:cZ sz=0
 case neg=>
  rw[if_neg g1]at hM;subst hM;clear c2;generalize cZ sz=e at*;have rX:(e !=0)=true:=bne_iff_ne.2 g1;clear g1;exact zE
 rw[if_pos g1]at hM;obtain⟨h1,h2,h3⟩:=BD g1;rw[g1]at c1;rw[h1]at c2;clear g1 h1;generalize sum sz=s at*;by_cases g2:n<20
 ·rw[if_pos (.inl g2)]at hM
  subst hM;exact zE
 by_cases g4:4096<n
 ·rw[if_pos (.inr oM)]at hM
  subst hM;exact zE
 have BV:IntKind.i64.wrap (16+n)=16+n:=IntWalk.i64_in _ oM
 have PB:IntKind.i64.wrap (16+n+s)=16+n+s:=IntWalk.i64_in _ oM
 by_cases g3:4096<16+n+s
 ·rw[if_pos (.inr oM)]at hM
  subst hM;exact zE
 ·rw[if_neg oM]at hM
  subst hM;have AP:16+s+n=16+n+s:=oM
  rw[AP];clear AP;exact zE
theorem aP5(t:fR)(h:mQ t.r=0)(hj:mH t.s.j.start t.s.j.count=true)(hl:t.r.aR.length<=1000):PC 133 [.agg (cP t)] (bV (IJ t)):=by
 refine aZ func133 ntmps133 (.c _) ?_;have c1:=VW t.r.aR t.s.j.count hl;have hs:=aK7 (t:=t) h hj;have hv:=hj;unfold mH at hv;simp only[jF,decide_eq_true_eq]at hv;have hw:IntKind.i64.wrap (16+t.s.j.count)=16+t.s.j.count:=IntWalk.i64_in _ oM
 have IP:IJ t=(decide (t.s.j.start=16)&&(decide (t.r.gQ=0)&&decide (t.r.data=16+t.s.j.count))):=by
  unfold IJ;cases decide (t.r.gQ=0)<;>cases decide (t.s.j.start=16)<;>rfl
 rw[IP]at hs⊢;clear IP;rw[iF];clear h hj hv hl;generalize (oH t.r.aR t.s.j.count)=S at*;obtain⟨a,e⟩:=S;by_cases g1:e=0
 case neg=>
  have hb:(decide (t.s.j.start=16)&&(decide (t.r.gQ=0)&&decide (t.r.data=16+t.s.j.count)))=false:=by
   cases hh:(decide (t.s.j.start=16)&&(decide (t.r.gQ=0)&&decide (t.r.data=16+t.s.j.count)))with
   |false=>rfl
   |true=>exact absurd (hs hh).1 g1
  rw[hb];simp only[]at c1;clear hs hb;have g2:(e==0)=false:=beq_eq_false_iff_ne.2 g1;clear g1;exact zE
 by_cases g2:0<a
 case neg=>
  have hb:(decide (t.s.j.start=16)&&(decide (t.r.gQ=0)&&decide (t.r.data=16+t.s.j.count)))=false:=by
   cases hh:(decide (t.s.j.start=16)&&(decide (t.r.gQ=0)&&decide (t.r.data=16+t.s.j.count)))with
   |false=>rfl
   |true=>exact absurd (hs hh).2 g2
  rw[hb];simp only[]at c1;clear hs hb;have g3:(e==0)=true:=beq_iff_eq.2 g1;clear g1;exact zE
 simp only[]at c1;clear hs;have g3:(e==0)=true:=beq_iff_eq.2 g1;clear g1;by_cases g4:t.s.j.start=16
 ·by_cases g5:t.r.gQ=0
  ·have IE:=beq_iff_eq.2 g4
   have xM:=beq_iff_eq.2 g5;rw[decide_eq_true g4,decide_eq_true g5];clear g4 g5;exact zE
  ·have IE:=beq_iff_eq.2 g4
   have xM:(t.r.gQ==0)=false:=beq_eq_false_iff_ne.2 g5;rw[decide_eq_true g4,decide_eq_false g5];clear g4 g5;exact zE
 ·have IE:(t.s.j.start==16)=false:=beq_eq_false_iff_ne.2 g4
  rw[decide_eq_false g4];clear g4;exact zE
end Go.Proofs.YtpaomccedbjknaaGreatDoor
namespace Go.Proofs.YtpaomccedbjknaaGreatDoor
open Go.Proofs Go.AL Tryz
set_option maxRecDepth 100000
set_option maxHeartbeats 8000000
attribute [local irreducible] bT tN wU tS AW b8 cF dB hold
structure tT(t:fR):Prop where
 aR:t.r.aR.length<=1000
 s:yV t.s
 x:DW t.x
 rules:t.p.rules.length<=1000000
theorem DX{N:Nat}{R:AV->Heap->Prop}{e:Int}{H':Heap}(h1:N<H'.next)(h2:H'.get N=some (tO 0))(h3:∀M',R (zV e) ⟨M',bN []⟩):Ct N R e H':=
 ⟨H'.next,[],h1,holds_nil (cA _) (fun id b hb=>by
   simp only[bN,pN]at hb;split at hb
   ·rename_i g
    subst g;injection hb with hb
    subst hb;exact h2
   ·cases hb),fun p hp=>by simp at hp,fun M' _=>h3 M'⟩
theorem aP6(t:fR)(ht:tT t):qA prog 131 [.ptr 0 0 0] ⟨2,bN [(0,some (.cells 49 18 [cP t] true false)),(1,some (tO 0))]⟩ (fun _ H'=>Ct 1 (fun a _=>a=zV (sQ t)) 0 H') (fun x H'=>∃e,x=uO e/\Ct 1 (fun a _=>a=zV (sQ t)) e H'):=by
 refine LW func131 ntmps131 ?_;have c1:=af3 t.r (by have:=ht.aR;omega)
 have c2:=L9 t.s ht.s;have c3:=VR t.x ht.x;have c4:=aP4 t.x.cur t.r.aR (by have:=ht.x.im;omega) (by have:=ht.aR;omega)
 have c5:=Cl t.p ht.rules;have c6:=Rm t.site;have c7:=aO9 t t.s.bI (by have:=ht.s.bI;omega)
 have c8:=aP2 t t.x.items ht.x.len;have hl:=ht.aR;obtain⟨M,hM⟩:∃M,sQ t=M:=⟨_,rfl⟩;rw[hM];unfold sQ at hM;have IP:=fun h hj=>aP5 t h hj hl
 have VX:l5 t.s=0->mH t.s.j.start t.s.j.count=true:=fun h=>(DM (FA h).1).1
 have e7:t.s.bI.any (fun x=>decide (x.number<=t.r.dK))=t.s.bI.any (CB t.r.dK):=rfl
 have e8:t.x.items.any (fun x=>decide (t.r.dK<x.number))=t.x.items.any (CC t.r.dK):=rfl
 rw[e7,e8]at hM
 replace hM:=bC.mk hM
 replace IP:=bC.mk IP
 replace VX:=bC.mk VX
 clear e7 e8 hl ht;rw[iF]at*;unfold cC at c1;unfold dH at c2;unfold kN at c3;unfold kO at c5;refine dI (s6 3 ?_);refine aE ?_;refine s8 (l2:=[]) (sR (mQ t.r)) (fun g=> ?_) (fun g=> ?_)
 ·have hN:=hM.out
  rw[if_neg g]at hN;exact pG (iT (s9 ⟨_,rfl,DX (cA 2) rfl fun _=>by rw[hN]⟩))
 replace hM:=bC.mk (by have hN:=hM.out;rw[if_pos g]at hN;exact hN)
 have dG:=IP.out g;clear IP;rw[g]at c1;clear g;refine lP (oI (dI (s6 3 ?_)));refine aE ?_;refine s8 (l2:=[]) (sR (l5 t.s)) (fun g=> ?_) (fun g=> ?_)
 ·have hN:=hM.out
  rw[if_neg g]at hN;exact pG (iT (s9 ⟨_,rfl,DX (cA 2) rfl fun _=>by rw[hN]⟩))
 replace hM:=bC.mk (by have hN:=hM.out;rw[if_pos g]at hN;exact hN)
 have c9:=dG (VX.out g);clear VX dG;rw[g]at c2;clear g;refine lP (oI (dI (s6 2 ?_)));refine aE ?_;refine s8 (l2:=[]) (zB (IJ t) 3 dE) (fun g=> ?_) (fun g=> ?_)
 ·have hN:=hM.out
  rw[if_neg (by simpa using g)]at hN
  exact pG (iT (s9 ⟨_,rfl,DX (cA 2) rfl fun _=>by rw[hN]⟩))
 replace hM:=bC.mk (by have hN:=hM.out;rw[if_pos g]at hN;exact hN)
 rw[g]at c9;clear g;refine lP (oI (dI (s6 3 ?_)));refine aE ?_;refine s8 (l2:=[]) (sR (oG t.x)) (fun g=> ?_) (fun g=> ?_)
 ·have hN:=hM.out
  rw[if_neg g]at hN;exact pG (iT (s9 ⟨_,rfl,DX (cA 2) rfl fun _=>by rw[hN]⟩))
 replace hM:=bC.mk (by have hN:=hM.out;rw[if_pos g]at hN;exact hN)
 rw[g]at c3;clear g;refine lP (oI (dI (s6 7 ?_)));refine aE ?_;refine s8 (l2:=[]) (zB (decide (bH t.x.cur=t.r.aR)) 22 dE) (fun g=> ?_) (fun g=> ?_)
 ·have hN:=hM.out
  rw[if_neg (by simpa using g)]at hN
  exact pG (iT (s9 ⟨_,rfl,DX (cA 2) rfl fun _=>by rw[hN]⟩))
 replace hM:=bC.mk (by have hN:=hM.out;rw[if_pos (of_decide_eq_true g)]at hN;exact hN)
 rw[g]at c4;clear g;refine lP (oI (dI (s6 3 ?_)));refine aE ?_;refine s8 (l2:=[]) (sR (rH t.p)) (fun g=> ?_) (fun g=> ?_)
 ·have hN:=hM.out
  rw[if_neg g]at hN;exact pG (iT (s9 ⟨_,rfl,DX (cA 2) rfl fun _=>by rw[hN]⟩))
 replace hM:=bC.mk (by have hN:=hM.out;rw[if_pos g]at hN;exact hN)
 rw[g]at c5;clear g;refine lP (oI (dI (s6 3 ?_)));refine aE ?_;refine s8 (l2:=[]) (zB (C8 t.site) 2 dE) (fun g=> ?_) (fun g=> ?_)
 ·have hN:=hM.out
  rw[if_neg (by simpa using g)]at hN
  exact pG (iT (s9 ⟨_,rfl,DX (cA 2) rfl fun _=>by rw[hN]⟩))
 replace hM:=bC.mk (by have hN:=hM.out;rw[if_pos g]at hN;exact hN)
 rw[g]at c6;clear g;generalize t.s.bI.any (CB t.r.dK)=b1 at*;generalize t.x.items.any (CC t.r.dK)=b2 at*;refine lP (oI (dI (gM ?_)));refine aE ?_;refine gH.mk (dI (gM ?_));refine aE ?_;refine gH.mk (s6 12 ?_);refine aE ?_;have hP:(t.r.jM=0/\b1=false/\b2=false)↔(t.r.jM==0&& !b1&& !b2)=true:=by simp[and_assoc]
 have hN:=hM.out;clear hM;refine s8 (l2:=[]) (zB (t.r.jM==0&& !b1&& !b2) 12 dE) (fun g=> ?_) (fun g=> ?_)
 ·rw[if_neg (fun h=>g (hP.1 h))]at hN
  exact iT (s9 ⟨_,rfl,DX (cA 2) rfl fun _=>by rw[hN]⟩)
 ·rw[if_pos (hP.2 g)]at hN
  exact lP (iT (LX (zC (a:= .aK []) (DX (cA 2) rfl fun _=>by rw[hN]))))
theorem VY(t:fR)(ht:tT t):PC 64 [.agg (cP t)] (zV (sQ t)):=by
 refine iZ func64 ntmps64 (.c _) ?_;have c1:=LQ (L:=[(0,some (.cells 49 18 [cP t] true false))]) (N:=1) (aP6 t ht);rw[iF]at*;generalize sQ t=M at*;refine aE ?_;refine tC c1 (fun r H' hr=> ?_)
 subst hr;exact zE
end Go.Proofs.YtpaomccedbjknaaGreatDoor
