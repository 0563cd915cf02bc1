/- Target: contracts of its functions (Azh). No condition but those named. -/
import Derived.Test.YtpaomccedbjknaaGreatDoorAzg
set_option linter.all false
namespace Go.Proofs.YtpaomccedbjknaaGreatDoor
open Go.Proofs Go.AL Tryz
set_option maxRecDepth 100000
set_option maxHeartbeats 8000000
attribute [local irreducible] bT tN wU tS AW b8 cF dB hold
attribute [local irreducible] iX
structure Sq(d D1:bQ)(t:fR)(e:Int)(X:jB×List bR)(A:eD×List bR)(n:Int):Prop where
 c1:PC 63 [.agg (bD d)] (zV 0)
 c2:PC 64 [.agg (cP t)] (zV 0)
 c3:PC 68 [.agg (bD d),.agg (dH t.s),zV 1073741824] (.aK [.agg (dH X.1),.snap (aB aH X.2),zV 0])
 c4:PC 48 [.agg (bD d),.snap (aB aH X.2)] (.aK [.agg (bD D1),zV n,zV 0])
 c5:PC 72 [.agg (bD D1),.agg (cC t.r),zV e] (.aK [.agg (cC A.1),.snap (aB aH A.2),zV 0])
 c6:PC 57 [.agg (cP t)] (.agg (cP t))
 e1:t.r.dY<e
 e2:e<=1073741824
 e3:X.2=[]
 e4:A.2≠[]
 e5:A.2.length<=100000
theorem aT4{d D1:bQ}{t:fR}{e:Int}{X:jB×List bR}{A:eD×List bR}{n:Int}(h:Sq d D1 t e X A n):qA prog 71 [.ptr 0 0 0,.ptr 1 0 0,.ptr 2 0 0,.ptr 5 0 0,.ptr 4 0 0] ⟨7,bN [(0,FY d),(1,gU (cP t)),(2,some (.cells 3 1 [[zV e]] true false)),(3,gU l6),(4,gU l6),(5,sA (.c (.slice none 0 0))),(6,some (tO 0))]⟩ (fun _ H'=>Ct 6 (CD 3 4 5 (⟨A.1,X.1,t.x,t.p,t.site⟩,X.2++A.2,0)) 0 H') (fun x H'=>∃e,x=uO e/\Ct 6 (CD 3 4 5 (⟨A.1,X.1,t.x,t.p,t.site⟩,X.2++A.2,0)) e H'):=by
 refine LW func71 ntmps71 ?_;obtain⟨c1,c2,c3,c4,c5,c6,e1,e2,e3,e4,e5⟩:=h;have m0:=(sR 0).1 rfl;have d0:=(zB true 13 dE).1 rfl
 have d1:=(zB true 2 dE).1 rfl
 have e6:(aB aH A.2).isEmpty=false:=by rw[Dc];exact qF e4
 have e7:t.r.dY<=e:=oM
 obtain⟨A1,A2⟩:=A;obtain⟨X1,X2⟩:=X;simp only[]at*;subst e3;have hz:aB aH ([]:List bR)=[]:=rfl;rw[hz]at c3 c4;rw[sF];rw[iF]at*;unfold FY;unfold bD cC dH at*;clear e4 hz;refine dI (gM ?_);refine aE ?_;refine gH.mk (dI (gM ?_));refine aE ?_;refine gH.mk (dI (gM ?_));refine aE ?_;refine gH.mk (dI (gM ?_));refine aE ?_
 refine gH.mk (dI (gM ?_));refine aE ?_;refine gH.mk (dI (dI (gM ?_)));refine aE ?_;refine gH.mk (IW ?_);refine dI (gM ?_);refine aE ?_;refine gH.mk (dI (gM ?_));refine aE ?_;refine gH.mk (dI (gM ?_));refine aE ?_;refine gH.mk (dI (gM ?_));refine aE ?_;refine eO func67 ntmps67 ?_;refine dI (gM ?_)
 refine aE ?_;refine gH.mk (dI (gM ?_));refine aE ?_;refine gH.mk ?_;refine FZ ?_;refine aE ?_;refine gH.mk (dI (gM ?_));refine aE ?_;refine gH.mk (dI (gM ?_));refine aE ?_;refine gH.mk (dI (gM ?_));refine aE ?_;refine gH.mk (gM ?_);refine aE ?_;refine gH.mk (Sl ?_);refine xL ?_;refine xL ?_;refine Sk ?_;refine LY 51 5 [[.snap (aB aH A2)]] eN eN dE (Sm (by rw[fK])) ?_
 exact iT (LX (zC (a:= .aK []) (VZ dE dE rfl _ (by rw[iF];exact aG))))
theorem aT5{d D1:bQ}{t:fR}{e:Int}{X:jB×List bR}{A:eD×List bR}{n:Int}(h:Sq d D1 t e X A n):PC 18 [.agg (bD d),.agg (cP t),zV e] (.aK [.agg (cP ⟨A.1,X.1,t.x,t.p,t.site⟩),.snap (aB aH (X.2++A.2)),zV 0]):=by
 have c1:=LQ (L:=[(0,FY d),(1,gU (cP t)),(2,some (.cells 3 1 [[zV e]] true false)),(3,gU l6),(4,gU l6),(5,sA (.c (.slice none 0 0)))]) (N:=6) (aT4 h);refine iZ func18 ntmps18 (by rw[iF];simp only[go_sem,bD]) ?_
 clear h;unfold FY at c1;rw[iF]at c1⊢;unfold bD at*;refine aE ?_;refine tC c1 (fun r H' hr=> ?_)
 obtain⟨rfl,m,⟨h1,rfl⟩|⟨h1,h2,rfl⟩⟩:=hr
 ·simp only[]
  rw[iF];refine aE ?_;exact dS
 ·exact absurd rfl h1
end Go.Proofs.YtpaomccedbjknaaGreatDoor
namespace Go.Proofs.YtpaomccedbjknaaGreatDoor
open Go.Proofs Go.AL Tryz
set_option maxRecDepth 100000
set_option maxHeartbeats 8000000
attribute [local irreducible] bT AW b8 cF dB hold
theorem aT6:prog.eqGuardType prog.depth 163=false:=by kernel_rfl
theorem aT7(d:Nat)(a b:Int):pA prog (d+2) 163 (.agg [zV a,zV b]) (.agg [zV a,zV b])=some true:=by
 have h5:prog.underlying 3=some (.int .i64):=Tryz.underlying3;simp only[pA,Tryz.underlying163,Ja,HO,qL,Jb,GV,List.range_zero,sF,BB,zR,Nat.mul_one,qX,CX,h5,if_true,DZ];simp[qL,Jb,Ja]
@[go_sem] theorem bZ5(a b:Int):vJ prog 163 (.agg [zV a,zV b]) (.agg [zV a,zV b])=some true:=by
  unfold vJ;rw[aT6,if_neg (by simp)]
  exact aT7 9998 a b
theorem aT8(p:qQ)(hl:p.rules.length<=1000000):PC 46 [.agg (kO p),.agg (kO p)] (bV true):=by
 refine aZ func46 ntmps46 (.c _) ?_;obtain⟨n,l⟩:=p;unfold kO;simp only[]at*;have hg:=Ci l;refine aE ?_;refine nS l.length 100 [(0,some (.cells 25 2 [[zV n,.snap (aB jY l)]] true false)),(1,some (.cells 25 2 [[zV n,.snap (aB jY l)]] true false))] (fun k=> [(5,true,zV k),(2,true,.ptr 0 0 0),(3,true,.ptr 1 0 0)]) aG (fun k m bG hm=> ?_) (fun m hm=> ?_)
 ·have bO:(aB jY l)[k]? =some (jY (l.getD k (0,0))):=hg k bG
  clear hg;generalize l.getD k (0,0)=r at*;obtain⟨e,c⟩:=r;have yN:(aB jY l)[k]? =some [zV e,zV c]:=bO;clear bO;refine aE ?_;refine⟨m+200,oM,aG⟩
 ·clear hg
  exact zE
theorem aT9(l:List bR)(h:IL l):PC 102 [.snap (aB aH l),.snap (aB aH l)] (bV true):=by
 refine aZ func102 ntmps102 (.c _) ?_;have c1:=aF4 l h.1 h.2;clear h;exact zE
theorem aU0(l:List aQ)(hl:l.length<=1000000):PC 73 [.snap (aB aP l),.snap (aB aP l)] (bV true):=by
 refine aZ func73 ntmps73 (.c _) ?_;have hg:=gS l;refine aE ?_;refine nS l.length 0 [] (fun k=> [(5,true,zV k),(0,true,.snap (aB aP l)),(1,true,.snap (aB aP l))]) aG (fun k m bG hm=> ?_) (fun m hm=> ?_)
 ·have bO:=hg k bG
  clear hg;refine aE ?_;refine⟨m+200,oM,aG⟩
 ·clear hg
  exact zE
theorem Sr(l:List (List aQ))(hl:l.length<=1000000)(hs:∀v∈l,v.length<=1000000):PC 19 [.snap (aB bA l),.snap (aB bA l)] (bV true):=by
 refine aZ func19 ntmps19 (.c _) ?_;have hg:=gV l;refine aE ?_;refine nS l.length 0 [] (fun k=> [(5,true,zV k),(0,true,.snap (aB bA l)),(1,true,.snap (aB bA l))]) aG (fun k m bG hm=> ?_) (fun m hm=> ?_)
 ·have bO:(aB bA l)[k]? =some [.snap (aB aP (l.getD k []))]:=hg k bG
  clear hg;have c1:=aU0 (l.getD k []) (hs _ (eB [] bG));clear hs;refine aE ?_;refine⟨m+200,oM,aG⟩
 ·clear hg hs
  exact zE
theorem aU1(s:lM)(h:DW s):PC 45 [.agg (kN s),.agg (kN s)] (bV true):=by
 refine aZ func45 ntmps45 (.c _) ?_;obtain⟨h1,h2,h3,h4⟩:=h;obtain⟨im,l⟩:=s;unfold kN;simp only[]at*;have c1:=Sr im oM h2
 have hc:∀k,k<l.length->PC 102 [.snap (aB aH (l.getD k gG).saved),.snap (aB aH (l.getD k gG).saved)] (bV true):=fun k hk=>aT9 _ (h4 _ (eB gG hk))
 replace hc:=bC.mk hc
 have hg:=LR l;clear h2 h4;refine aE ?_;refine nS l.length 100 [(0,some (.cells 47 2 [[.snap (aB bA im),.snap (aB cX l)]] true false)),(1,some (.cells 47 2 [[.snap (aB bA im),.snap (aB cX l)]] true false))] (fun k=> [(5,true,zV k),(2,true,.ptr 0 0 0),(3,true,.ptr 1 0 0)]) aG (fun k m bG hm=> ?_) (fun m hm=> ?_)
 ·have bO:(aB cX l)[k]? =some (cX (l.getD k gG)):=hg k bG
  have c2:=hc.out k bG;clear hg hc c1;generalize l.getD k gG=x at*;obtain⟨n,t,w⟩:=x;rw[FW]at bO;simp only[]at*;refine aE ?_;refine⟨m+200,oM,aG⟩
 ·clear hg hc
  exact zE
theorem aU2(l:List Int)(hl:l.length<=1000000):PC 99 [.snap (aB aW l),.snap (aB aW l)] (bV true):=by
 refine aZ func99 ntmps99 (.c _) ?_;have hg:=gI l;refine aE ?_;refine nS l.length 0 [] (fun k=> [(5,true,zV k),(0,true,.snap (aB aW l)),(1,true,.snap (aB aW l))]) aG (fun k m bG hm=> ?_) (fun m hm=> ?_)
 ·have bO:=hg k bG
  clear hg;refine aE ?_;refine⟨m+200,oM,aG⟩
 ·clear hg
  exact zE
theorem aU3(r:eD)(hl:r.aR.length<=1000000):PC 43 [.agg (cC r),.agg (cC r)] (bV true):=by
 refine aZ func43 ntmps43 (.c _) ?_;have c1:=aU2 r.aR hl;obtain⟨sz,sp,dt,ep,ap,ag⟩:=r;unfold cC at*;exact zE
structure Dd(t:fR):Prop where
 aR:t.r.aR.length<=1000000
 js:t.s.j.aR.length<=1000000
 cy:t.s.bI.length<=1000000
 one:∀x∈t.s.bI,QU x
 x:DW t.x
 rules:t.p.rules.length<=1000000
theorem aU4(t:fR)(h:Dd t):PC 9 [.agg (cP t),.agg (cP t)] (bV true):=by
 refine aZ func9 ntmps9 (.c _) ?_;have c1:=aU3 t.r h.aR;have c2:=aF3 t.s h.js h.cy h.one;have c3:=aU1 t.x h.x;have c4:=aT8 t.p h.rules;clear h;rw[iF];unfold cC dH kN kO at*;exact zE
theorem aU5(d d':bQ)(ops:List bR)(e n f:Int)(c1:PC 48 [.agg (bD d),.snap (aB aH ops)] (.aK [.agg (bD d'),zV n,zV f])):PC 12 [.agg (bD d),.snap (aB aH ops),zV e] (.aK [.agg (bD d'),bV (decide (e=0)&&decide (f=0))]):=by
 refine iZ func12 ntmps12 (by simp only[go_sem,bD]) ?_
 unfold bD at*;by_cases g1:e=0
 ·subst g1
  by_cases g2:f=0
  ·subst g2
   refine aE ?_;exact dS
  ·have rC:(f==0)=false:=beq_eq_false_iff_ne.2 g2
   rw[decide_eq_false g2];clear g2;refine aE ?_;exact dS
 ·have rX:(e==0)=false:=beq_eq_false_iff_ne.2 g1
  rw[decide_eq_false g1];clear g1;refine aE ?_;exact dS
end Go.Proofs.YtpaomccedbjknaaGreatDoor
namespace Go.Proofs.YtpaomccedbjknaaGreatDoor
open Go.Proofs Go.AL Tryz
set_option maxRecDepth 100000
set_option maxHeartbeats 8000000
attribute [local irreducible] bT AW b8 cF dB hold
attribute [local irreducible] iX
theorem aU6{dd k:Nat}{rows:List (List AV)}{u v:AV}{q:List AV}(hk:k=rows.length):FL dd rows [[u,v,.own dd 0 k],q] [[u,v,.snap rows],q]:=by
 subst hk;refine⟨rfl,fun i r r' hr cG=> ?_⟩
 have same:∀{l:List AV} {j:Nat} {x x':AV},l[j]? =some x->l[j]? =some x'->x=x':=fun h1 h2=>by rw[h1]at h2;exact YC h2
 match i,hr,cG with
 |0,hr,cG=>
  simp only[qX,bM]at hr cG;subst hr cG;refine⟨rfl,fun j x x' h1 h2=> ?_⟩
  match j,h1,h2 with
  |0,h1,h2=>
   simp only[qX,bM]at h1 h2;subst h1 h2;exact .inl rfl
  |1,h1,h2=>
   simp only[CX,qX,bM]at h1 h2;subst h1 h2;exact .inl rfl
  |2,h1,h2=>
   simp only[CX,qX,bM]at h1 h2;subst h1 h2;exact .inr ⟨0,rows.length,rfl,oM,by rw[sZ,gP]⟩
  |j+3,h1,h2=>simp at h1
 |1,hr,cG=>
  simp only[CX,qX,bM]at hr cG;subst hr cG;exact⟨rfl,fun j x x' h1 h2=> .inl (same h1 h2)⟩
 |i+2,hr,cG=>simp at hr
theorem aU7(a c:Int)(h:(nM a c).2.2=0):wJ prog 91 [.agg [zV a,zV c]] (.aK [.agg [zV a,zV c,zV 0,zV 0,zV 1,.c (.slice none 0 0)],.own 0 0 (nM a c).2.1.length,zV 0]) 105 3 (aB aH (nM a c).2.1):=by
 refine TV func91 ntmps91 (by simp only[go_sem]) (YW _ (by simp[eM,fH]) _ _) (PE _) ?_
 have c1:=ap8 a c;have Ss:=aJ1 ⟨a,c,0,0,1,[]⟩
 have c3:PC 165 [.agg [zV a,zV c,zV 0,zV 0,zV 1,.c (.slice none 0 0)]] (.snap (aB aO (aV 0++aV 1))):=
  eA.less Ss (eE (vD (eE (.refl _) (eE (.refl _) (eE (.refl _) (eE (.refl _) (eE (.refl _) (eE (Wk.nil (a:=none) (cap:=0)) mS))))))) mS)
 clear Ss;have c4:=Jt a (aV 0++aV 1) (by have:=lR 0;have:=lR 1;rw[cU];omega)
 have sP:=KY a (aV 0++aV 1);obtain⟨M,hM⟩:∃M,nM a c=M:=⟨_,rfl⟩;rw[hM]at h⊢;unfold nM at hM;have LK:=fun h=>L8 (a:=a) (b:=c) h
 generalize mH a c=v at*;generalize nK a (aV 0++aV 1)=E at*;generalize aV 0++aV 1=V at*;obtain⟨so,se⟩:=E;simp only[]at*;cases v with
 |false=>
  rw[if_neg dE]at hM
  subst hM;exact absurd h dE
 |true=>
  rw[if_pos rfl]at hM;have h5:=LK rfl;by_cases h6:se=0
  case neg=>
   rw[if_neg h6]at hM;subst hM;exact absurd h h6
  rw[if_pos h6]at hM;subst hM;subst h6;have w1:=IntWalk.i64_in (c-16) oM
  have w2:=IntWalk.i64_in (a+16) oM
  clear LK h;obtain⟨n,rfl⟩:∃n:Nat,c=(n:Int)+16:=⟨(c-16).toNat,oM⟩
  have e1:(n:Int)+16-16=n:=oM
  have hz:jG ((n:Int)+16-16)=List.replicate n bS:=by unfold jG;rw[e1,sY]
  rw[hz];rw[e1]at w1;have e:aB aH ([(0,a+16,List.replicate n bS),(1,0,[])]++so)=[zV 0,zV (a+16),.snap (aB aP (List.replicate n bS))]::[zV 1,zV 0,.snap []]::aB aH so:=rfl;rw[e];have el:([(0,a+16,List.replicate n bS),(1,0,[])]++so).length=2+so.length:=by simp;omega
  simp only[];rw[el];clear e hz e1 el;rw[LM 5];refine aE ?_;refine kU (env:=[(6,true,.own 13 0 2),(5,true,.ptr 2 0 0),(1,true,.ptr 0 0 0),(2,true,.ptr 1 0 0)]) (H:=⟨30,bN [(0,some (.cells 37 2 [[zV a,zV ((n:Int)+16)]] true false)),(1,some (.cells 39 6 [[zV 0,zV 0,zV 0,zV 0,zV 0,.c (.slice none 0 0)]] true false)),(2,some (.cells 39 6 [[zV a,zV ((n:Int)+16),zV 0,zV 0,zV 1,.c (.slice none 0 0)]] true false)),(10,some (.cells 67 8 (aB aP (List.replicate n bS)) true true)),(13,some (.cells 105 3 [[zV 0,zV (a+16),.own 10 0 n],[zV 1,zV 0,.c (.slice none 0 0)]] true true))]⟩) aG ?_
  refine AH 10 13 [[zV 0,zV (a+16),.snap (aB aP (List.replicate n bS))],[zV 1,zV 0,.c (.slice none 0 0)]] eN eN dE (aU6 (by rw[fK,yG])) ?_
  rw[<-LM 5];refine aE ?_;refine⟨_,rfl,_,?_,u3 (tY _) (u3 (eE (.refl _) (eE (.refl _) (eE (Wk.nil (a:=none) (cap:=0)) mS))) (EV _))⟩;exact eN
theorem aU8{a c:Int}(h:(nM a c).2.2=0):(nM a c).1=⟨a,c,0,0,1,[]⟩:=by
 unfold nM at h⊢;split at h
 ·rename_i g1
  rw[if_pos g1];split at h
  ·rename_i g2
   rw[if_pos g2]
  ·rename_i g2
   exact absurd h g2
 ·exact absurd h dE
theorem St{a c:Int}(h:(lZ a c).2.2=0):(nM a c).2.2=0/\lZ a c=(⟨⟨a,c,0,0,1,[]⟩,[]⟩,(nM a c).2.1,0):=by
 unfold lZ at h⊢;by_cases g:(nM a c).2.2=0
 ·exact⟨g,by rw[if_pos g,aU8 g]⟩
 ·rw[if_neg g]at h;exact absurd h g
theorem aU9(a c:Int)(h:(lZ a c).2.2=0):wJ prog 38 [.agg [zV a,zV c]] (.aK [.agg [zV a,zV c,zV 0,zV 0,zV 1,.c (.slice none 0 0),.c (.slice none 0 0)],.own 0 0 (lZ a c).2.1.length,zV 0]) 105 3 (aB aH (lZ a c).2.1):=by
 obtain⟨hj,hs⟩:=St h;rw[hs];refine TV func38 ntmps38 (by simp only[go_sem]) (YW _ (by simp[eM,fH]) _ _) (PE _) ?_
 have c1:=aU7 a c hj;clear h hj hs;generalize (nM a c).2.1=o at*;refine aE ?_;refine⟨_,rfl,_,?_,EV _⟩;exact eN
end Go.Proofs.YtpaomccedbjknaaGreatDoor
namespace Go.Proofs.YtpaomccedbjknaaGreatDoor
open Go.Proofs Go.AL Tryz
set_option maxRecDepth 100000
set_option maxHeartbeats 8000000
attribute [local irreducible] bT tN wU tS AW b8 cF dB hold
theorem aV0(im:List (List aQ))(h1:im.length<=1000)(h2:∀v∈im,v.length<=1000000):PC 41 [.snap (aB bA im)] (.aK [.agg (kN (zD im).1),zV (zD im).2]):=by
 refine iZ func41 ntmps41 (by simp only[go_sem,kN]) ?_
 have c1:=aO3 im oM
 have c2:=aQ0 im h1 h2;obtain⟨M,hM⟩:∃M,zD im=M:=⟨_,rfl⟩;rw[hM];unfold zD at hM;unfold kN at*;generalize cZ (bH im)=e at*;clear h2;have xT:aB cX ([]:List lL)=[]:=rfl;by_cases g:e=0
 ·rw[if_pos g]at hM
  subst hM g;simp only[];rw[xT];refine aE ?_;exact dS
 ·rw[if_neg g]at hM
  subst hM;have g':(e !=0)=true:=bne_iff_ne.2 g;have IQ:aB bA oE.cur=[]:=rfl;have QG:aB cX oE.items=[]:=rfl;rw[IQ,QG];clear g;refine aE ?_;exact dS
theorem aV1(l:List Int)(hl:l.length<=1000000):PC 40 [.snap (aB aW l)] (.aK [.snap (aB bA (mG l)),zV (cZ l)]):=by
 refine aZ func40 ntmps40 (by simp only[go_sem]) ?_
 have c1:=TJ l hl;by_cases h:cZ l=0
 case neg=>
  unfold mG;rw[if_neg h];have g':(cZ l !=0)=true:=bne_iff_ne.2 h;generalize cZ l=e at*;clear h;refine aE ?_;simp only[yJ];exact dS
 have nU:mG l=l.map jG:=by unfold mG;rw[if_pos h]
 have dO:bC (∀k,k<l.length->0<=l.getD k 0/\l.getD k 0<=4096):=⟨fun k hk=>by
  have:=YZ h hk
  omega⟩
 have h8:l.length<=1000:=by
  unfold cZ at h;split at h
  ·cases h
  ·omega
 rw[h]at c1⊢;rw[nU];clear h nU;have hg:=gI l;refine aE ?_;refine dC (α:=Nat) l.length (fun k id=> [(6,true,zV k),(5,true,lJ k id),(0,true,.snap (aB aW l))]) (fun k id=>lX 58 1 (aB bA ((l.map jG).take k)) k id) (fun k m id=>(0<k->id<m)) ⟨100,0,fun h=>absurd h oM,aG⟩ (fun k m id hk hR=> ?_) (fun m id hR=> ?_)
 ·have bO:(aB aW l)[k]? =some [zV (l.getD k 0)]:=hg k hk
  obtain⟨b1,b2⟩:=dO.out k hk;have cI:(l.map jG).take (k+1)=(l.map jG).take k++[jG (l.getD k 0)]:=TK jG 0 hk;have iE:((l.map jG).take k).length=k:=by rw[dX,zP];omega
  rw[cI];clear cI hg dO;generalize (l.map jG).take k=F at*;generalize l.getD k 0=x at*;obtain⟨n,rfl⟩:∃n:Nat,x=(n:Int):=⟨x.toNat,oM⟩
  have V4:jG (n:Int)=List.replicate n bS:=by unfold jG;rw[sY]
  rw[V4];have eR:aB bA F++[[.snap (aB aP (List.replicate n bS))]]=aB bA (F++[List.replicate n bS]):=kK (f:=bA) F _;have dM:=LS (List.replicate n bS);clear V4;refine Ry ?_;cases k with
  |zero=>
   have jC:F=[]:=eL iE;subst jC;clear hR iE;refine aE ?_;refine LY (m) (m+1+1) (aB bA ([]++[List.replicate n bS])) eN eN oM (I6 (A:=[]) rfl (by rw[fK,yG])) ?_
   exact⟨m+40,m+1+1,fun _=>by omega,aG⟩
  |succ q=>
   have i2:=hR oM
   clear hR;refine aE ?_;refine LY (m) (m+1+1) (aB bA (F++[List.replicate n bS])) eN eN oM (I6 eR (by rw[fK,yG])) ?_
   exact⟨m+40,m+1+1,fun _=>by omega,aG⟩
 ·have h6:(l.map jG).take l.length=l.map jG:=cN (by simp)
  rw[h6];clear hg dO;cases hh:l.length with
  |zero=>
   have jD:l=[]:=eL hh;subst jD;clear hR hh;refine aE ?_;exact dS
  |succ q=>
   have i2:=hR oM
   have cI:(l.map jG).take (q+1)=l.map jG:=cN (by simp;omega)
   clear hR;refine aE ?_;exact dS
theorem aV2(pl ep:Int)(sz:List Int)(n:Int)(p:qQ)(hz:sz.length<=1000)(hp:p.rules.length<=1000000):PC 8 [zV pl,zV ep,.snap (aB aW sz),zV n,.agg (kO p)] (.aK [.agg (cP (pZ pl ep sz n p).1),.snap (aB aH (pZ pl ep sz n p).2.1),zV (pZ pl ep sz n p).2.2]):=by
 refine iZ func8 ntmps8 (by rw[iF];simp only[go_sem]) ?_
 have c1:=aS2 p hp;have c2:=Rw sz n hz;have c3:=aN6 pl;obtain⟨M,hM⟩:∃M,pZ pl ep sz n p=M:=⟨_,rfl⟩;rw[hM];unfold pZ at hM;by_cases g1:rH p=0
 case neg=>
  rw[if_neg g1]at hM;subst hM;have g':(rH p !=0)=true:=bne_iff_ne.2 g1;generalize rH p=e at*;unfold kO at*;rw[LZ];clear g1 c2 c3;refine aE ?_;exact dS
 rw[if_pos g1]at hM;rw[g1]at c1;by_cases g2:(oH sz n).2=0
 case neg=>
  rw[if_neg g2]at hM;subst hM;have g':((oH sz n).2 !=0)=true:=bne_iff_ne.2 g2;generalize oH sz n=e at*;unfold kO at*;rw[LZ];clear g1 g2 c3;refine aE ?_;exact dS
 rw[if_pos g2]at hM;have q4:=Cy g2;by_cases g3:C8 pl=true/\fY ep=true
 case neg=>
  rw[if_neg g3]at hM;subst hM;rw[g2]at c2
  have g5:C8 pl=false\/ep<0\/1073741824<ep:=by
   cases h:C8 pl
   ·exact .inl rfl
   ·right
    have h2:¬fY ep=true:=fun h3=>g3 ⟨h,h3⟩
    unfold fY at h2;simp at h2;omega
  unfold kO at*;rw[LZ];generalize C8 pl=sb at*;clear g1 g2 g3;cases sb with
  |false=>
   clear g5;refine aE ?_;exact dS
  |true=>
   have g6:ep<0\/1073741824<ep:=g5.resolve_left (by simp)
   clear g5;by_cases g7:ep<0
   ·clear g6
    refine aE ?_;exact dS
   ·have g8:1073741824<ep:=oM
    clear g6;refine aE ?_;exact dS
 rw[if_pos g3]at hM;obtain⟨g4,g5⟩:=g3;obtain⟨q1,q2,q3⟩:=Ri g2 g5 Sc (Sd _);rw[g2]at c2;rw[g4]at c3;have c5:=aU9 16 n q2;have q6:=(St q2).2;have q7:(lZ 16 n).1=⟨⟨16,n,0,0,1,[]⟩,[]⟩:=by rw[q6]
 have c6:=af0 sz 0 (16+n) ep oM
 rw[q3]at c6;have c7:=aV1 sz oM
 rw[q1]at c7;obtain⟨n1,n2⟩:=Cz q1;have c9:=aV0 (mG sz) n1 n2;have q5:zD (mG sz)=(⟨mG sz,[]⟩,0):=by unfold zD;rw[U0 q1,if_pos q1]
 rw[q5]at c9;have C5:=aQ1 p hp;have l1:=Cw 16 n;have l2:=Cx sz 0 (16+n) ep;have w1:IntKind.i64.wrap (16+n)=16+n:=IntWalk.i64_in _ oM
 have b1:¬ep<0:=by unfold fY at g5;simp at g5;omega
 have b2:¬1073741824<ep:=by unfold fY at g5;simp at g5;omega
 rw[q7]at hM;clear q1 q2 q3 q4 q5 q6 q7 n1 n2 hz hp g1 g2 g4 g5;generalize (kW sz 0 (16+n) ep).1=R1 at*;generalize (kW sz 0 (16+n) ep).2.1=R2 at*;generalize (lZ 16 n).2.1=S2 at*;subst hM;have FF:aB aH S2++aB aH R2=aB aH (S2++R2):=DR _ _;have IQ:aB aW ([]:List Int)=[]:=rfl;have xT:aB bX ([]:List bK)=[]:=rfl;have QG:aB cX ([]:List lL)=[]:=rfl;rw[iF]
 unfold cC kN kO at*;simp only[]at*;rw[IQ,xT,QG];rw[QG]at c9;refine aE ?_;exact dS
end Go.Proofs.YtpaomccedbjknaaGreatDoor
