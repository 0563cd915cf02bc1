/- Target: contracts of its functions (Ai). No condition but those named. -/
import Derived.Test.YtpaomccedbjknaaGreatDoorAh
set_option linter.all false
namespace Go.Proofs.YtpaomccedbjknaaGreatDoor
open Go.Proofs Go.AL Tryz
set_option maxRecDepth 100000
set_option maxHeartbeats 8000000
attribute [local irreducible] bT AW b8 cF dB hold
theorem U0{sz:List Int}(h:cZ sz=0):bH (mG sz)=sz:=by
 obtain⟨h1,h2,h3⟩:=GZ h;unfold bH mG;rw[if_pos h,B9]
 have:∀l:List Int,(∀x∈l,1<=x/\x<=4096)->l.map ((fun v:List aQ=>(v.length:Int))∘jG)=l:=by
  intro l
  induction l with
  |nil=>intro _;rfl
  |cons x l ih=>
   intro h;have hx:=h x (by simp)
   rw[qE,ih fun y hy=>h y (by simp[hy])]
   congr 1;simp only[Function.comp,jG,yG];omega
 exact this sz h3
theorem ak3{sz:List Int}(h:cZ sz=0):(mG sz).length<=1000/\∀v∈mG sz,v.length<=1000000:=by
 obtain⟨h1,h2,h3⟩:=GZ h;unfold mG;rw[if_pos h];refine⟨by rw[zP];omega,fun v hv=> ?_⟩
 simp only[mF]at hv;obtain⟨x,hx,rfl⟩:=hv;have:=h3 x hx;simp only[jG,yG];omega
def L2(sz:List Int)(l:List bR):Int:=if cZ sz=0 then qH sz none l else cZ sz
theorem Kw(l:List bR)(sz:List Int)(hl:sz.length<=1000000)(hw:∀w∈l,w.2.2.length<=1000000)(hn:l.length<=1000000):PC 128 [.snap (aB aH l),.snap (aB aW sz)] (zV (L2 sz l)):=by
 refine aZ func128 ntmps128 (.c _) ?_;have c1:=OX sz hl;unfold L2;by_cases g:cZ sz=0
 ·obtain⟨n1,n2⟩:=ak3 g
  have e:=U0 g;have c2:=ak2 (mG sz) l n1 n2 hw hn (by rw[e];exact g)
  rw[e]at c2;rw[if_pos g];rw[g]at c1;clear n2 hw e;generalize qH sz none l=F at*;generalize mG sz=im at*;exact zEa
 ·rw[if_neg g]
  clear hw;generalize mG sz=im at*;exact zEa
structure kM where
 base:Int
 number:Int
 time:Int
 pos:List Int
 writes:List bR
def iO(c:kM):List AV:=[zV c.base,zV c.number,zV c.time,.snap (aB aW c.pos),.snap (aB aH c.writes)]
def rT(c:kM)(sz:List Int):Int:=
 if cZ sz=0 then
  if c.base<0\/c.number<=c.base\/1073741824<c.number then 2
  else if c.time<0\/1073741824<c.time then 24
  else if PH c.pos=0 then L2 sz c.writes else PH c.pos
 else cZ sz
def yP(c:kM):Prop:=c.pos.length<=1000000/\c.writes.length<=1000000/\∀w∈c.writes,w.2.2.length<=1000000
theorem U1(c:kM)(sz:List Int)(hl:sz.length<=1000000)(hc:yP c):PC 61 [.agg (iO c),.snap (aB aW sz)] (zV (rT c sz)):=by
 refine aZ func61 ntmps61 (.c _) ?_;obtain⟨h1,h2,h3⟩:=hc;have c1:=OX sz hl;have c2:=YY c.time 0 1073741824;have c3:=aj3 c.pos h1;have c4:=Kw c.writes sz hl h3 h2;unfold rT;clear h3;obtain⟨b,n,t,p,w⟩:=c;unfold iO;unfold lW at c2;simp only[]at*;generalize mG sz=im at*;generalize L2 sz w=cw at*;generalize PH p=pe at*;generalize cZ sz=se at*;by_cases g1:se=0
 ·rw[if_pos g1]
  subst g1;by_cases g2:b<0
  ·rw[if_pos (.inl g2)]
   exact zEa
  by_cases g3:n<=b
  ·rw[if_pos (.inr (.inl g3))]
   exact zEa
  by_cases g4:1073741824<n
  ·rw[if_pos (.inr (.inr g4))]
   exact zEa
  rw[if_neg oM]
  by_cases g5:t<0
  ·rw[if_pos (.inl g5)]
   rw[zW oM]at c2
   simp only[Bool.false_and]at c2;exact zEa
  by_cases g6:1073741824<t
  ·rw[if_pos (.inr g6)]
   rw[vC oM,zW oM]at c2
   simp only[Zb]at c2;exact zEa
  rw[if_neg oM]
  rw[vC oM,vC oM]at c2
  simp only[Ig]at c2;by_cases g7:pe=0
  ·rw[if_pos g7]
   subst g7;exact zEa
  ·rw[if_neg g7]
   exact zEa
 ·rw[if_neg g1]
  exact zEa
theorem Z1{sz:List Int}:∀(l:List bR) (p:Option bR),qH sz p l=0->∀w∈l,lA sz w=0
 |[],_,_,w,hw=>by simp at hw
 |x::l,p,h,w,hw=>by
  unfold qH at h;by_cases g:lA sz x=0
  ·rw[if_pos g]at h
   simp only[dJ]at hw;rcases hw with rfl|hw
   ·exact g
   ·cases p with
    |none=>exact Z1 l _ h w hw
    |some y=>
     simp only[]at h;split at h
     ·exact absurd h dE
     ·exact Z1 l _ h w hw
  ·rw[if_neg g]at h;exact absurd h g
theorem ak4{c:kM}{sz:List Int}(h:rT c sz=0):cZ sz=0/\0<=c.base/\c.base<c.number/\c.number<=1073741824/\∀w∈c.writes,lA sz w=0:=by
 unfold rT at h;by_cases g1:cZ sz=0
 ·rw[if_pos g1]at h
  split at h
  ·exact absurd h dE
  ·split at h
   ·exact absurd h dE
   ·split at h
    ·unfold L2 at h
     rw[if_pos g1]at h;exact⟨g1,oM,oM,oM,Z1 _ _ h⟩
    ·rename_i g2
     exact absurd h g2
 ·rw[if_neg g1]at h;exact absurd h g1
def vF(r:eD)(w:bR):Int×Int×List aQ:=(0,IntKind.i64.wrap (P4 r w.1.toNat+w.2.1),w.2.2)
def kX(r:eD)(c:kM):List (Int×Int×List aQ)×Int:=
 if mQ r=0 then
  if rT c r.aR=0 then
   if r.jM≠c.number then([],12)
   else if r.dK<c.base then([],15)
   else(c.writes.map (vF r)++[(1,0,[])],0)
  else([],rT c r.aR)
 else([],mQ r)
theorem ak5(a:List (Int×Int×List aQ))(x y:Int)(d:List aQ):aB aH a++[[zV x,zV y,.snap (aB aP d)]]=aB aH (a++[(x,y,d)]):=kK a (x,y,d)
attribute [local go_sem] ak5
theorem ak6{r:eD}{l:List bR}{k:Nat}(h:k<l.length):(l.map (vF r)).take k++[vF r (l.getD k eF)]=(l.map (vF r)).take (k+1):=(TK (vF r) eF h).symm
theorem ak7{a b c d:List (List AV)}(h:r7 a b)(k:r7 c d):r7 (a++c) (b++d):=by
 refine⟨by simp[h.1,k.1],fun i x y hx hy=> ?_⟩
 by_cases hi:i<a.length
 ·rw[rM hi]at hx
  rw[rM (by rw[<-h.1];exact hi)]at hy
  exact h.2 i x y hx hy
 ·rw[nI oM]at hx
  rw[nI (by rw[<-h.1];omega),<-h.1]at hy
  exact k.2 _ x y hx hy
theorem Kx(L:List (Int×Int×List aQ)):r7 (aB aH L++[[zV 1,zV 0,.c (.slice none 0 0)]]) (aB aH (L++[(1,0,[])])):=by
 rw[show aB aH (L++[(1,0,[])])=aB aH L++[[zV 1,zV 0,.snap []]]from(kK L (1,0,[])).symm]
 exact ak7 (EV _) (u3 (eE (.refl _) (eE (.refl _) (eE .nil mS))) BH)
theorem ak8{l:List (Int×Int×List aQ)}(h:aB aH l=[]):l=[]:=by
 cases l with
 |nil=>rfl
 |cons a b=>simp[aB]at h
theorem ak9(G:Nat->Option aI)(id n:Nat)(t:TypeId)(L:List (Int×Int×List aQ))(hG:G id=some (.cells t 3 (aB aH L++[[zV 1,zV 0,.c (.slice none 0 0)]]) true true))(hn:n=L.length+1):
  bF (bJ G 4 (.aK [.own id 0 n,zV 0]))/\Wk (bJ G 4 (.aK [.own id 0 n,zV 0])) (.aK [.snap (aB aH (L++[(1,0,[])])),zV 0]):=by
 have hlen:(aB aH L++[[zV 1,zV 0,AV.c (.slice none 0 0)]]).length=n:=by rw[cU,fK,hn];rfl
 have e1:rowsOf G (.own id 0 n)=some (aB aH L++[[zV 1,zV 0,.c (.slice none 0 0)]],[id]):=by
  simp only[rowsOf,hG];rw[if_pos (by rw[hlen];omega),sZ,cN (by rw[hlen];exact cA _)]
 have e2:(aB aH L++[[zV 1,zV 0,AV.c (.slice none 0 0)]]).map (fun row=>row.map (bJ G 2))=aB aH L++[[zV 1,zV 0,.c (.slice none 0 0)]]:=by
  rw[CV,Ju];rfl
 have e:bJ G 4 (.aK [.own id 0 n,zV 0])= .aK [.snap (aB aH L++[[zV 1,zV 0,.c (.slice none 0 0)]]),zV 0]:=by
  have e3:bJ G 3 (.own id 0 n)= .snap (aB aH L++[[zV 1,zV 0,.c (.slice none 0 0)]]):=by
   rw[bJ,e1];simp only[];rw[e2]
  have e4:bJ G 4 (.aK [.own id 0 n,zV 0])= .aK [bJ G 3 (.own id 0 n),bJ G 3 (zV 0)]:=rfl;rw[e4,e3];rfl
 rw[e];refine⟨fD.2 fun x hx=> ?_,H9 (eE (HA (Kx L)) (tY _))⟩
 simp only[dJ,iI,or_false]at hx;rcases hx with rfl|rfl
 ·refine fC.2 fun row hr y hy=> ?_
  rw[qW]at hr;rcases hr with hr|hr
  ·exact PE L row hr y hy
  ·simp only[dJ,iI,or_false]at hr
   subst hr;simp only[dJ,iI,or_false]at hy;rcases hy with rfl|rfl|rfl<;>exact .c _
 ·exact .c _
theorem al0(r:eD)(c:kM)(hl:r.aR.length<=1000000)(hc:yP c):PC 143 [.agg (cC r),.agg (iO c)] (.aK [.snap (aB aH (kX r c).1),zV (kX r c).2]):=by
 refine iZ func143 ntmps143 (by simp only[go_sem]) ?_
 have c1:=H4 r hl;have c2:=U1 c r.aR hl hc;have c4:=yK r.aR hl;have cp:=fun v hv=>af4 r v hv hl
 obtain⟨M,hM⟩:∃M,kX r c=M:=⟨_,rfl⟩;rw[hM];unfold kX at hM;obtain⟨h1,h2,h3⟩:=hc;have eC:=ak4 (c:=c) (sz:=r.aR);generalize rT c r.aR=ce at*;generalize hre:mQ r=re at*;obtain⟨cb,cn,ct,Ky,cw⟩:=c;obtain⟨sz,sp,dt,ep,ap,ag⟩:=r;unfold cC at c1 cp;unfold cC iO at*;simp only[]at*;by_cases g1:re=0
 ·rw[if_pos g1]at hM
  subst g1;by_cases g2:ce=0
  ·rw[if_pos g2]at hM
   subst g2;obtain⟨k1,k2,k3,k4,k5⟩:=eC rfl;clear eC;by_cases g3:ag≠cn
   ·rw[if_pos g3]at hM
    subst hM;clear cp k5 h3;refine aE ?_;refine eO func80 ntmps80 ?_;exact zE
   rw[if_neg g3]at hM;have qI:ag=cn:=oM
   subst qI;by_cases g4:ap<cb
   ·rw[if_pos g4]at hM
    subst hM;clear cp k5 h3;refine aE ?_;refine eO func80 ntmps80 ?_;exact zE
   rw[if_neg g4]at hM;subst hM;have Z2:=gW cw;refine aE ?_;refine eO func80 ntmps80 ?_;refine aE ?_;refine dC (α:=AV×List (Nat×Option aI)) cw.length (fun k x=> [(50,true,zV k),(49,true,zV cw.length),(48,true,.snap (aB aH cw)),(9,true,x.1),(6,true,.ptr 4 0 0)]) (fun k x=>(4,some (.cells 171 6 [[.snap (aB aW sz),zV sp,zV dt,zV ep,zV ap,zV ag]] true false))::x.2) (fun k m x=>31<=m/\ag5 105 3 (aB aH ((cw.map (vF ⟨sz,sp,dt,ep,ap,ag⟩)).take k)) 31 0 m x.1 x.2) ⟨31,(.c (.slice none 0 0),[]),⟨cA _,.inl ⟨rfl,rfl,rfl⟩⟩,aG⟩ (fun k m x hk hR=> ?_) (fun m x hR=> ?_)
   ·obtain⟨cv,T⟩:=x
    obtain⟨hm,hS⟩:=hR;have bO:=Z2 k hk;have hf:=k5 _ (eB eF hk);obtain⟨f1,f2,f3,f4,f5,f6⟩:=Z0 k1 hf;have hd:=h3 _ (eB eF hk);have h5:=ak6 (r:=⟨sz,sp,dt,ep,ap,ag⟩) hk;have h6:((cw.map (vF ⟨sz,sp,dt,ep,ap,ag⟩)).take k).length=k:=by rw[dX,zP];omega
    have cp2:=cp (cw.getD k eF).1.toNat oM
    have cl:=yM (cw.getD k eF).2.2 hd;clear k5 h3 Z2 cp hf;generalize cw.getD k eF=w at*;obtain⟨v,t,d⟩:=w;have yN:(aB aH cw)[k]? =some [zV v,zV t,.snap (aB aP d)]:=bO;clear bO;simp only[]at*;obtain⟨n,rfl⟩:=xD f1;simp only[sY]at cp2 f2 f5;have U2:(cw.map (vF ⟨sz,sp,dt,ep,ap,ag⟩)).take k++[(0,IntKind.i64.wrap (P4 ⟨sz,sp,dt,ep,ap,ag⟩ n+t),d)]=(cw.map (vF ⟨sz,sp,dt,ep,ap,ag⟩)).take (k+1):=h5
    clear h5;generalize P4 ⟨sz,sp,dt,ep,ap,ag⟩ n=pe at*;rcases hS with⟨e1,e2,e3⟩|⟨id,aC,U3,P9,e1,e2⟩
    ·subst e1 e2
     have h9:bC ((cw.map (vF ⟨sz,sp,dt,ep,ap,ag⟩)).take (k+1)=[(0,IntKind.i64.wrap (pe+t),d)]):=⟨by
      rw[<-U2,ak8 e3];rfl⟩
     clear e3 U2 h6;refine aE ?_;refine⟨m+40,⟨.own (m+1+1+13) 0 1,[(m+1+1+13,some (.cells 105 3 [[zV 0,zV (IntKind.i64.wrap (pe+t)),.snap (aB aP d)]] true true))]⟩,⟨oM,.inr ⟨m+1+1+13,oM,oM,oM,by rw[h9.out];rfl,by rw[h9.out];rfl⟩⟩,?_⟩
     exact aG
    ·subst e1 e2
     have h9:bC ((cw.map (vF ⟨sz,sp,dt,ep,ap,ag⟩)).take k++[(0,IntKind.i64.wrap (pe+t),d)]=(cw.map (vF ⟨sz,sp,dt,ep,ap,ag⟩)).take (k+1)):=⟨U2⟩;clear U2;generalize (cw.map (vF ⟨sz,sp,dt,ep,ap,ag⟩)).take k=L at*;rw[fK,h6];refine aE ?_;refine⟨m+40,⟨.own (m+1+1+13) 0 (k+1),[(m+1+1+13,some (.cells 105 3 (aB aH (L++[(0,IntKind.i64.wrap (pe+t),d)])) true true))]⟩,⟨oM,.inr ⟨m+1+1+13,oM,oM,oM,by rw[<-h9.out,fK,cU,h6];rfl,by rw[<-h9.out]⟩⟩,?_⟩
     exact aG
   ·obtain⟨cv,T⟩:=x
    obtain⟨hm,hS⟩:=hR;rw[cN (by rw[zP];omega)]at hS
    have h6:(cw.map (vF ⟨sz,sp,dt,ep,ap,ag⟩)).length=cw.length:=zP _;clear k5 h3 Z2 cp;generalize cw.map (vF ⟨sz,sp,dt,ep,ap,ag⟩)=L at*;rcases hS with⟨e1,e2,e3⟩|⟨id,aC,U3,P9,e1,e2⟩
    ·simp only[]at e1 e2
     subst e1 e2
     have e4:L=[]:=by
      cases L with
      |nil=>rfl
      |cons a b=>simp[aB]at e3
     rw[e4];clear e3 e4;exact zE
    ·simp only[]at e1 e2
     subst e1 e2;rw[fK];refine aE ?_;exact ak9 _ _ _ _ _ eN oM
  ·rw[if_neg g2]at hM
   subst hM;clear cp eC h3;refine aE ?_;refine eO func80 ntmps80 ?_;exact zE
 ·rw[if_neg g1]at hM
  subst hM;clear cp eC h3;refine aE ?_;refine eO func80 ntmps80 ?_;exact zE
end Go.Proofs.YtpaomccedbjknaaGreatDoor
namespace Go.Proofs.YtpaomccedbjknaaGreatDoor
open Go.Proofs Go.AL Tryz
set_option maxRecDepth 100000
set_option maxHeartbeats 8000000
attribute [local irreducible] bT AW b8 cF dB hold
def DA(d:bQ):Prop:=(∀s∈d.st,kL s)/\∀c∈d.ca,kL c.2
def DB(l:List nL):Prop:=∀o∈l,∀s∈o.2.2,kL s
theorem PK:∀(ca:List (Int×aQ)) (st:List aQ),(∀s∈st,kL s)->(∀c∈ca,kL c.2)->∀s∈k9 st ca,kL s
 |[],st,h,_,s,hs=>h s hs
 |c::ca,st,h,h2,s,hs=>PK ca (st.set c.1.toNat c.2) (fun x hx=>by
   grind) (fun x hx=>h2 x (by simp[hx])) s hs
theorem DA.new{d:bQ}(h:DA d):∀s∈k9 d.st d.ca,kL s:=PK _ _ h.1 h.2
theorem Kz:∀(a:Int) (l:List aQ),(∀s∈l,kL s)->∀c∈iC a l,kL c.2
 |_,[],_,c,hc=>by simp[iC]at hc
 |a,s::l,h,c,hc=>by
  simp only[iC,dJ]at hc;rcases hc with rfl|hc
  ·grind
  ·exact Kz (a+1) l (fun x hx=>h x (by simp[hx])) c hc
theorem Z3:∀(ops:List nL) (d:bQ) (i:Nat),DA d->DB ops->DA (mT ops d i).1/\(mT ops d i).1.st.length<=d.st.length/\(gE d=0->(mT ops d i).1.ca.length<=d.ca.length+ops.length*4096)
 |[],d,i,h,_=>⟨h,cA _,fun _=>by simp[mT]⟩
 |o::r,d,i,h,ho=>by
  have h0:DA oP:=⟨fun s hs=>by simp[oP]at hs,fun s hs=>by simp[oP]at hs⟩
  have hr:DB r:=fun x hx=>ho x (by simp[hx])
  have e0:oP.st.length<=d.st.length:=qV _;have e1:gE d=0->oP.ca.length<=d.ca.length+(o::r).length*4096:=fun _=>qV _
  simp only[mT];split
  ·split
   ·rename_i h1 h2
    by_cases h3:gE d=0
    ·unfold HE at h2⊢
     rw[if_pos h3]at h2⊢;cases h4:lF d o.2.1 o.2.2.length with
     |false=>grind
     |true=>
      rw[if_pos rfl];obtain⟨q1,q2⟩:=HB h3;obtain⟨q3,q4⟩:=P7 h4;have h5:=Kn h3 h4
      have ih:=Z3 r ⟨d.st,d.ca++iC o.2.1 o.2.2⟩ (i+1) ⟨h.1,fun c hc=>by
       rcases qW.1 hc with hc|hc
       ·exact h.2 c hc
       ·exact Kz _ _ (ho o (by simp)) c hc⟩ hr
      grind [D7]
    simp_all [HE]
   grind
  ·split
   ·have ih:=Z3 r ⟨k9 d.st d.ca,[]⟩ (i+1) ⟨h.new,fun c hc=>by simp at hc⟩ hr
    grind [BI,Ko,HB]
   grind
theorem al2{d:bQ}{ops:List nL}(h:DA d)(ho:DB ops):DA (fQ d ops).1/\(fQ d ops).1.st.length<=d.st.length/\(fQ d ops).1.ca.length<=d.ca.length+ops.length*4096:=by
 unfold fQ;split
 ·grind [Z3]
 ·exact⟨⟨fun s hs=>by simp[oP]at hs,fun s hs=>by simp[oP]at hs⟩,qV _,qV _⟩
theorem La(n:Nat):∀x∈vg n,bZ x:=by
 induction n using Nat.strongRecOn with
 |ind n ih=>
  intro x hx;by_cases h:n<128
  ·rw[KR h]at hx
   simp only[dJ,iI,or_false]at hx;subst hx;exact⟨oM,oM⟩
  ·rw[OY h]at hx
   simp only[dJ]at hx;rcases hx with rfl|hx
   ·exact⟨oM,oM⟩
   grind
theorem al3(r:eD):∀x∈gR r,bZ x:=by
 grind [gR,aV,La]
theorem U4(n:Int)(i:Nat):bZ (gb n i):=by
 unfold gb;rw[IntKind.wrap_u8];exact⟨oM,oM⟩
theorem al4{p:List Int}(hp:∀x∈p,bZ x)(hl:p.length<=31):∀x∈tZ p,bZ x:=by
 intro x hx;unfold tZ at hx;simp only[dJ,qW,Ih]at hx;rcases hx with rfl|hx|⟨_,rfl⟩
 ·exact⟨oM,oM⟩
 ·grind
 ·exact⟨dE,dE⟩
theorem al5{l:List Int}(h:∀x∈l,bZ x)(i:Nat):bZ (l.getD i 0):=by
 by_cases hi:i<l.length
 ·grind
 ·rw[rL,ES oM]
  exact⟨dE,dE⟩
theorem al6(n:Int){D:List Int}(h:∀x∈D,bZ x)(k:Nat):kL (yL n D k):=by
 refine⟨⟨U4 n 0,U4 n 1,U4 n 2,U4 n 3⟩,fun x hx=> ?_⟩
 simp only[d4,yL,dJ,iI,or_false]at hx;rcases hx with rfl|rfl|rfl|rfl<;>exact al5 h _
theorem al7(n:Int){p:List Int}(hp:∀x∈p,bZ x)(hl:p.length<=31):∀s∈tD n p,kL s:=by
 intro s hs;have hd:=al4 hp hl;simp only[tD,dJ,iI,or_false]at hs;rcases hs with rfl|rfl|rfl|rfl|rfl|rfl|rfl|rfl<;>exact al6 n hd _
theorem al8(d:bQ)(a:Int){p:List Int}(hp:∀x∈p,bZ x)(hl:p.length<=31):DB (iN d a p).1:=by
 unfold iN;split
 ·split
  ·omega
  ·split
   ·intro o ho;grind
   ·intro o ho s hs
    simp only[dJ,iI,or_false]at ho;rcases ho with rfl|rfl
    ·grind [al7]
    grind
 ·intro o ho;grind
theorem al9(d:bQ)(r:eD):DB (xF d r).2.1:=by
 unfold xF;split
 ·grind [al8,al3,PF]
 ·intro o ho;grind
theorem PL:DB []:=fun o ho=>by simp at ho
theorem am0(d:bQ)(r:eD)(n:Int):DB (dZ d r n).2.1:=by
 grind [dZ,PL,al9]
theorem am1(r:eD)(c:kM)(h:∀w∈c.writes,∀s∈w.2.2,kL s):DB (kX r c).1:=by
 unfold kX;split
 ·split
  ·split
   ·exact PL
   ·split
    ·exact PL
    ·intro o ho s hs
     simp only[qW,mF,dJ,iI,or_false]at ho;rcases ho with⟨w,hw,rfl⟩|rfl
     ·exact h w hw s hs
     grind
  ·exact PL
 ·exact PL
theorem am2(r:eD)(c:kM):(kX r c).1.length<=c.writes.length+1:=by
 grind [kX]
def wK(d:bQ)(r:eD)(c:kM):eD×List nL×Int:=
 if(dZ d r c.number).2.2=0 then
  if(kX (dZ d r c.number).1 c).2=0 then
   if(fQ d ((dZ d r c.number).2.1++(kX (dZ d r c.number).1 c).1)).2.2=0 then
    if(zY (fQ d ((dZ d r c.number).2.1++(kX (dZ d r c.number).1 c).1)).1 (dZ d r c.number).1).2.2=0 then
     ((zY (fQ d ((dZ d r c.number).2.1++(kX (dZ d r c.number).1 c).1)).1 (dZ d r c.number).1).1,((dZ d r c.number).2.1++(kX (dZ d r c.number).1 c).1)++(zY (fQ d ((dZ d r c.number).2.1++(kX (dZ d r c.number).1 c).1)).1 (dZ d r c.number).1).2.1,0)
    else(iK,[],(zY (fQ d ((dZ d r c.number).2.1++(kX (dZ d r c.number).1 c).1)).1 (dZ d r c.number).1).2.2)
   else(iK,[],(fQ d ((dZ d r c.number).2.1++(kX (dZ d r c.number).1 c).1)).2.2)
  else(iK,[],(kX (dZ d r c.number).1 c).2)
 else(iK,[],(dZ d r c.number).2.2)
def Z4(b:eD×List nL×Int)(k:List nL×Int)(x:bQ×Int×Int)(e:eD×List nL×Int):eD×List nL×Int:=
 if b.2.2=0 then(if k.2=0 then(if x.2.2=0 then(if e.2.2=0 then(e.1,(b.2.1++k.1)++e.2.1,0)else(iK,[],e.2.2))else(iK,[],x.2.2))else(iK,[],k.2))else(iK,[],b.2.2)
theorem am3(d:bQ)(r:eD)(c:kM):wK d r c=Z4 (dZ d r c.number) (kX (dZ d r c.number).1 c) (fQ d ((dZ d r c.number).2.1++(kX (dZ d r c.number).1 c).1)) (zY (fQ d ((dZ d r c.number).2.1++(kX (dZ d r c.number).1 c).1)).1 (dZ d r c.number).1):=rfl
theorem Lb(d:bQ)(r:eD):(xF d r).2.1.length<=2:=by
 unfold xF;split
 ·simp_all [YX]
 ·simp
theorem am4(d:bQ)(r:eD)(n:Int):(dZ d r n).2.1.length<=2:=by
 grind [dZ,Lb]
theorem am5(d:bQ)(r:eD)(n:Int):(dZ d r n).1.aR=r.aR\/(dZ d r n).1.aR=[]:=by
 unfold dZ xF iK
 grind
end Go.Proofs.YtpaomccedbjknaaGreatDoor
