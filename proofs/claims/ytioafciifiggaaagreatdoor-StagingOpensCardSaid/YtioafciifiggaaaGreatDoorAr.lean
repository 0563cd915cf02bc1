/- Staging. No condition. -/
import Derived.Test.YtioafciifiggaaaGreatDoorL0
import Derived.Test.YtioafciifiggaaaGreatDoorAq
set_option linter.all false
namespace Go.Proofs.YtioafciifiggaaaGreatDoor
open Go.Proofs Go.AL
set_option maxRecDepth 100000
set_option maxHeartbeats 1000000
attribute [local irreducible] cB AW aX cZ dK hold
attribute [local irreducible] eV
def yX(own:List Int):List (Value×AV):=own.map fun n=>(.int .i64 n,bV true)
theorem VJ(own:List Int):yY (.int .i64) (yX own)=true:=by
 unfold yY yX;rw[gK];intro p hp;obtain⟨n,_,rfl⟩:=mS.1 hp;rfl
theorem Bb:∀{own:List Int} {n:Int},n∈own->s8 (.int .i64 n) (yX own)=some (bV true)
 |m::own,n,h=>by
  simp only[yX,jW,s8];by_cases he:m=n
  ·subst he
   rw[if_pos (by simp[pX])]
  ·rw[if_neg (by simp[pX,he])]
   rcases fB.1 h with h|h
   ·exact absurd h.symm he
   ·exact Bb h
theorem Mq{own:List Int}{n:Int}(h:n∉own):∀p∈yX own,pX p.1 (.int .i64 n)=false:=fun p hp=>by
 obtain⟨m,hm,rfl⟩:=mS.1 hp;have:m≠n:=fun e=>h (e▸hm)
 simp[pX,this]
theorem Mr{own:List Int}{n:Int}(h:n∉own):s8 (.int .i64 n) (yX own)=none:=Bc (Mq h)
theorem Ms{own:List Int}{n:Int}(h:n∉own):tN (.int .i64 n) (bV true) (yX own)=yX (own++[n]):=by
 rw[Bd (Mq h)];simp[yX]
def VK(l:List bI):Nat->Option Int
 |0=>none
 |k+1=>some (l.getD k b8).number
theorem ap3{j:Jr}{x:bI}(h:uR j x=true):uQ (j.first-1) (jN j) x.records=true:=by
 unfold uR at h;split at h
 ·split at h
  ·exact absurd h (by decide)
  ·split at h
   ·exact absurd h (by decide)
   ·split at h
    ·rename_i g;exact g
    ·exact absurd h (by decide)
 ·exact absurd h (by decide)
theorem Mt{r:List Int}(h:r.Nodup){q:Nat}(hq:q<r.length):r.getD q 0∉r.take q:=fun hm=>by
 obtain⟨i,hi,he⟩:=ER.1 hm;rw[eD]at hi;rw[List.getElem_take]at he;have h1:r.getD q 0=r[q]:=by simp[hq]
 rw[h1]at he;exact Z0.1 h i q (by omega) hq (by omega) he
theorem VL(s:l8)(hs:xI s):PC 21 [.agg (fO s)] (zV (s7 s)):=by
 refine aT Tryz.func21 Tryz.ntmps21 (.c _) ?_;have c1:=ao6 s.j hs.cD;obtain⟨M,hM⟩:∃M,s7 s=M:=⟨_,rfl⟩;rw[hM];unfold s7 at hM;obtain⟨j,l⟩:=s;have hl:=hs.cN;have eM:=hs.one;have oS:=hs.cD;simp only[]at*;have QI:eG j=[zV j.start,zV j.count,zV j.head,zV j.tail,zV j.first,.snap (aA bA j.cD)]:=rfl
 rw[QI]at c1;unfold fO;simp only[];by_cases g1:jE j=0
 case neg=>
  rw[if_neg g1]at hM;subst hM;clear eM QI;generalize jE j=e at*;refine aD ?_;exact aB
 rw[if_pos g1]at hM;rw[g1]at c1;by_cases g2:1024<l.length
 ·rw[if_pos g2]at hM
  subst hM;have CB:(1024:Int)<l.length:=by omega
  clear eM QI g1;refine aD ?_;exact aB
 rw[if_neg g2]at hM;have CB:¬(1024:Int)<l.length:=by omega
 have hg:=uP l;have wB:∀k,k<l.length->PC 55 [.agg (eG j),.agg (cG (l.getD k b8))] (bV (uR j (l.getD k b8))):=fun k hk=>ap1 j _ g1 oS (eM _ (dC b8 hk))
 rw[QI]at wB;clear g2 g1 QI hs;refine aD ?_;refine dP (α:=List Int) l.length (fun k own=> [(23,true,zV k),(22,true,zV l.length),(21,true,.snap (aA cG l)),(4,true,.omap 1),(1,true,.ptr 0 0 0)]) (fun k own=> [(0,some (.cells 33 7 [[zV j.start,zV j.count,zV j.head,zV j.tail,zV j.first,.snap (aA bA j.cD),.snap (aA cG l)]] true false)),(1,some (.map (yX own)))]) (fun k m own=>2<=m/\uT j (VK l k) own (l.drop k)=uT j none [] l) ⟨100,[],⟨by omega,rfl⟩,aN⟩ (fun k m own hk hR=> ?_) (fun m own hR=> ?_)
 ·obtain⟨hm,hR⟩:=hR
  rw[tL b8 hk,Mk]at hR;have hF:uT j none [] l=false->M=3:=fun h=>by rw[if_neg (by rw[h];decide)]at hM;exact hM.symm
  have cV:=hg k hk;have ck:=wB k hk;have gH:=(eM _ (dC b8 hk)).records;have VI:= @ap3 j (l.getD k b8);have lE:VK l (k+1)=some (l.getD k b8).number:=rfl;rw[iP]at ck cV;by_cases g3:uR j (l.getD k b8)=true
  case neg=>
   rw[if_neg g3]at hR;obtain rfl:=hF hR.symm;have uO:uR j (l.getD k b8)=false:=by simpa using g3
   rw[uO]at ck;clear hR hF hM hg wB eM VI gH lE;generalize l.getD k b8=x at*;refine aE ?_;exact aB
  rw[if_pos g3]at hR;have sS:=Mm _ _ _ (VI g3);rw[g3]at ck;clear VI hM wB eM g3;cases k with
  |zero=>
   have F3:VK l 0=none:=rfl;rw[F3]at hR;rw[if_neg (by simp)]at hR
   clear F3;clear hg;have lE:=aU.mk lE;generalize l.getD 0 b8=x at*;obtain⟨xn,xp,xs,xh,xe,r,xc⟩:=x;simp only[]at*;have sR:=gI r;have hF:=aU.mk hF;have hR:=aU.mk hR;have sS:=aU.mk sS;refine aE ?_;refine dP (α:=Unit) r.length (fun q _=> [(52,true,zV q),(51,true,zV r.length),(50,true,.snap (aA bA r)),(23,true,zV 0),(22,true,zV l.length),(21,true,.snap (aA cG l)),(4,true,.omap 1),(1,true,.ptr 0 0 0)]) (fun q _=> [(0,some (.cells 33 7 [[zV j.start,zV j.count,zV j.head,zV j.tail,zV j.first,.snap (aA bA j.cD),.snap (aA cG l)]] true false)),(1,some (.map (yX (own++r.take q))))]) (fun q m' _=>2<=m'/\∀i,i<q->r.getD i 0∉own) ⟨m+200,(),⟨by omega,fun i hi=>absurd hi (by omega)⟩,aN⟩ (fun q m' _ hq bK=> ?_) (fun m' _ bK=> ?_)
   ·obtain⟨r4,bK⟩:=bK
    have QH:=sR q hq;have iD:=vZ 0 hq;rw[iD,<-kA];clear iD sR cV ck;obtain⟨v,hv⟩:∃v,r.getD q 0=v:=⟨_,rfl⟩;rw[hv]at QH⊢;by_cases g5:v∈own
    ·have hR:=hR.out
     rw[if_pos (pO.2 ⟨v,by rw[<-hv];exact dC 0 hq,by simpa using g5⟩)]at hR
     obtain rfl:=hF.out hR.symm;have I3:=Bb (own:=own++r.take q) (BV _ g5);have h3:=VJ (own++r.take q);unfold yY s9 at h3;have sA:(IntKind.i64==IntKind.i64)=true:=rfl;clear hR hF bK lE sS g5 hv;refine aE ?_;exact aB
    ·have I4:v∉own++r.take q:=fun h=>by
      rcases BR.1 h with h|h
      ·exact g5 h
      ·rw[<-hv]at h
       exact Mt sS.out hq h
     have h1:=Mr I4;have h2:=Ms I4;have h3:=VJ (own++r.take q);unfold yY s9 at h3;have sA:(IntKind.i64==IntKind.i64)=true:=rfl
     have lM:aU (∀i,i<q+1->r.getD i 0∉own):=⟨fun i hi=>by
      rcases lU i q with h4|h4
      ·exact bK i h4
      ·rw[show i=q by omega,hv];exact g5⟩
     clear I4 g5 bK hv;generalize own++r.take q=O at*;refine aE ?_;exact⟨m'+20,(),⟨by omega,lM.out⟩,aN⟩
   ·obtain⟨r4,bK⟩:=bK
    rw[l4];have hR:=hR.out
    rw[if_neg (fun h=>by
     obtain⟨v,h1,h2⟩:=pO.1 h;obtain⟨i,h3,rfl⟩:=ER.1 h1
     exact bK i h3 (by simpa[h3]using h2))]at hR
    have hR:=aU.mk hR;clear sR bK sS hF;refine aE ?_;exact⟨m'+20,own++r,⟨by omega,by rw[lE.out];exact hR.out⟩,aN⟩
  |succ p0=>
   have hgp:=hg p0 (by omega)
   rw[iP]at hgp;have w1:IntKind.i64.wrap ((p0:Int)+1-1)=p0:=by rw[IntWalk.i64_in _ (by omega)];omega
   have w2:(0:Int)<(p0:Int)+1:=by omega
   have w3:IntKind.i64.wrap (((p0+1:Nat):Int)-1)=p0:=by rw[IntWalk.i64_in _ (by omega)];omega
   have w4:(0:Int)<((p0+1:Nat):Int):=by omega
   have w5:p0<l.length:=by omega
   have Be:VK l (p0+1)=some (l.getD p0 b8).number:=rfl;rw[Be]at hR;generalize l.getD p0 b8=y at*;by_cases g4:(l.getD (p0+1) b8).number<=y.number
   ·rw[if_pos (by simpa using g4)]at hR
    obtain rfl:=hF hR.symm;clear hR hF hg gH lE Be sS;generalize l.getD (p0+1) b8=x at*;refine aE ?_;exact aB
   rw[if_neg (by simpa using g4)]at hR
   clear Be;clear hg;have lE:=aU.mk lE;generalize l.getD (p0+1) b8=x at*;obtain⟨xn,xp,xs,xh,xe,r,xc⟩:=x;simp only[]at*;have sR:=gI r;have hF:=aU.mk hF;have hR:=aU.mk hR;have sS:=aU.mk sS;refine aE ?_;refine dP (α:=Unit) r.length (fun q _=> [(52,true,zV q),(51,true,zV r.length),(50,true,.snap (aA bA r)),(23,true,zV (p0+1)),(22,true,zV l.length),(21,true,.snap (aA cG l)),(4,true,.omap 1),(1,true,.ptr 0 0 0)]) (fun q _=> [(0,some (.cells 33 7 [[zV j.start,zV j.count,zV j.head,zV j.tail,zV j.first,.snap (aA bA j.cD),.snap (aA cG l)]] true false)),(1,some (.map (yX (own++r.take q))))]) (fun q m' _=>2<=m'/\∀i,i<q->r.getD i 0∉own) ⟨m+200,(),⟨by omega,fun i hi=>absurd hi (by omega)⟩,aN⟩ (fun q m' _ hq bK=> ?_) (fun m' _ bK=> ?_)
   ·obtain⟨r4,bK⟩:=bK
    have QH:=sR q hq;have iD:=vZ 0 hq;rw[iD,<-kA];clear iD sR cV ck;obtain⟨v,hv⟩:∃v,r.getD q 0=v:=⟨_,rfl⟩;rw[hv]at QH⊢;by_cases g5:v∈own
    ·have hR:=hR.out
     rw[if_pos (pO.2 ⟨v,by rw[<-hv];exact dC 0 hq,by simpa using g5⟩)]at hR
     obtain rfl:=hF.out hR.symm;have I3:=Bb (own:=own++r.take q) (BV _ g5);have h3:=VJ (own++r.take q);unfold yY s9 at h3;have sA:(IntKind.i64==IntKind.i64)=true:=rfl;clear hR hF bK lE sS g5 hv;refine aE ?_;exact aB
    ·have I4:v∉own++r.take q:=fun h=>by
      rcases BR.1 h with h|h
      ·exact g5 h
      ·rw[<-hv]at h
       exact Mt sS.out hq h
     have h1:=Mr I4;have h2:=Ms I4;have h3:=VJ (own++r.take q);unfold yY s9 at h3;have sA:(IntKind.i64==IntKind.i64)=true:=rfl
     have lM:aU (∀i,i<q+1->r.getD i 0∉own):=⟨fun i hi=>by
      rcases lU i q with h4|h4
      ·exact bK i h4
      ·rw[show i=q by omega,hv];exact g5⟩
     clear I4 g5 bK hv;generalize own++r.take q=O at*;refine aE ?_;exact⟨m'+20,(),⟨by omega,lM.out⟩,aN⟩
   ·obtain⟨r4,bK⟩:=bK
    rw[l4];have hR:=hR.out
    rw[if_neg (fun h=>by
     obtain⟨v,h1,h2⟩:=pO.1 h;obtain⟨i,h3,rfl⟩:=ER.1 h1
     exact bK i h3 (by simpa[h3]using h2))]at hR
    have hR:=aU.mk hR;clear sR bK sS hF;refine aE ?_;exact⟨m'+20,own++r,⟨by omega,by rw[lE.out];exact hR.out⟩,aN⟩
 ·obtain⟨hm,hR⟩:=hR
  rw[wZ]at hR;have tJ:uT j none [] l=true:=by rw[<-hR];rfl
  rw[if_pos tJ]at hM;subst hM;clear hR tJ eM wB hg;refine aD ?_;exact aB
set_option maxHeartbeats 4000000
theorem Bf{e:List Bool}(h:∀i,i<e.length->e.getD i false=true):e.all id=true:=by
 rw[gK];intro b hb;obtain⟨i,hi,rfl⟩:=ER.1 hb;have:=h i hi;simpa[hi]using this
theorem ap5{e:List Bool}{i:Nat}(hi:i<e.length)(h:e.getD i false=false):¬e.all id=true:=fun ha=>by
 rw[gK]at ha;have h1:=ha (e.getD i false) (dC false hi);rw[h]at h1;exact absurd h1 (by decide)
theorem ap6(a:mO)(hA:I0 a):PC 123 [.agg (eL a)] (.aR [.agg (gT (oA a).1),zV (oA a).2]):=by
 refine aT Tryz.func123 Tryz.ntmps123 (by simp only[go_sem,gT]) ?_
 have c1:=Ly a (by have:=hA.cI;omega) (by have:=hA.seen;omega) (fun x hx=>by have:=(hA.one x hx).1;omega)
 have CA:=Mj fun x hx=>(hA.one x hx).2
 have lY:=HX a.cI;have h0:=hA.all;have c4:=Lq a.cI.flatten CA (by omega)
 have c5:=am1 a.cI.flatten CA (by omega)
 have qG:=HR a.cI.flatten;have h3:=QD (a:=a);have cK:=Ay (a:=a);have Ak:gT p9=[zV 0,zV 0,zV 0,.snap (aA bA []),.snap (aA bC [])]:=rfl;have QJ:=hA.cI;have QK:=hA.seen;obtain⟨M,hM⟩:∃M,oA a=M:=⟨_,rfl⟩;rw[hM];unfold oA at hM;clear hA CA;obtain⟨n,p,s,h,e⟩:=a;unfold eL at*;simp only[]at*;generalize qZ ⟨n,p,s,h,e⟩=ae at*;by_cases g1:ae=0
 case neg=>
  rw[if_neg g1]at hM;subst hM;have h3:=h3 g1;subst h3;clear c4 c5;refine aD ?_;exact aB
 obtain⟨-,-,-,-,-,-,o7,o8,-⟩:=cK g1;rw[if_pos g1]at hM;subst g1;clear h3 cK;have o9:h.length=e.length:=by omega
 subst o7;have mP:=AB e;have kJ:∀k,k<h.length->(aA bW h)[k]? =some [.snap (aA aH (h.getD k []))]:=fun k hk=>pQ (f:=bW) [] hk
 have eW:=fun k=>V9 h k
 refine aD ?_;refine dP (α:=Unit) h.length (fun k _=> [(5,true,zV k),(4,true,.c (.slice none 0 0)),(2,true,.ptr 1 0 0),(1,true,.ptr 0 0 0)]) (fun _ _=> [(0,some (.cells 161 5 [[zV n,zV h.length,zV s,.snap (aA bW h),.snap (aA cM e)]] true false)),(1,some (.cells 79 5 [[zV 0,zV 0,zV 0,.c (.slice none 0 0),.c (.slice none 0 0)]] true false))]) (fun k m _=>2<=m/\∀i,i<k->e.getD i false=true) ⟨100,(),⟨by omega,fun i hi=>absurd hi (by omega)⟩,aN⟩ (fun k m _ hk hR=> ?_) (fun m _ hR=> ?_)
 ·obtain⟨hm,hR⟩:=hR
  have cV:=mP k (by omega)
  have xK:=ap5 (e:=e) (i:=k) (by omega)
  generalize hb:e.getD k false=b at*;clear c1 c4 c5 qG mP kJ eW;cases b with
  |true=>
   have bK:aU (∀i,i<k+1->e.getD i false=true):=⟨fun i hi=>by
    rcases lU i k with h1|h1
    ·exact hR i h1
    ·rw[show i=k by omega];exact hb⟩
   clear hR hb xK;refine aD ?_;exact⟨m+20,(),⟨by omega,bK.out⟩,aN⟩
  |false=>
   rw[if_neg (xK rfl)]at hM;subst hM;clear hR hb xK;refine aD ?_;exact aB
 ·obtain⟨hm,hR⟩:=hR
  rw[if_pos (Bf fun i hi=>hR i (by omega))]at hM
  clear hR mP c1;have s6:∀k,(h.take k).flatten.length<=h.flatten.length:=fun k=>by rw[HX,HX];exact eW k
  refine aD ?_;refine dP (α:=Nat) h.length (fun k id=> [(6,true,zV k),(4,true,nG (h.take k).flatten.length id),(2,true,.ptr 1 0 0),(1,true,.ptr 0 0 0)]) (fun k id=>(0,some (.cells 161 5 [[zV n,zV h.length,zV s,.snap (aA bW h),.snap (aA cM e)]] true false))::(1,some (.cells 79 5 [[zV 0,zV 0,zV 0,.c (.slice none 0 0),.c (.slice none 0 0)]] true false))::oB 5 1 (aA aH (h.take k).flatten) (h.take k).flatten.length id) (fun k m id=>(2<=m/\(h.take k).flatten.length<=65536)/\(0<(h.take k).flatten.length->2<=id/\id<m)) ⟨m,0,⟨⟨by omega,by simp⟩,fun h=>absurd h (by simp)⟩,aN⟩ (fun k m id hk hR=> ?_) (fun m id hR=> ?_)
  ·obtain⟨⟨hm,hR⟩,aC⟩:=hR
   have k1:=kJ k hk;have k2:=Mh h hk;have k3:=s6 (k+1);have fS:65536<h.flatten.length->M=(p9,5):=fun h=>by rw[if_pos h]at hM;exact hM.symm
   clear hM kJ eW s6 c4 c5 qG;rw[k2]at k3⊢;rw[cP]at k3;clear k2;generalize (h.take k).flatten=F at*;generalize h.getD k []=x at*;by_cases hF:F=[]
   ·subst hF
    clear aC hR;rw[x8]at*;cases x with
    |nil=>
     refine aD ?_;exact⟨m+20,0,⟨⟨by omega,by simp⟩,fun h=>absurd h (by simp)⟩,aN⟩
    |cons y x=>
     have k4:x.length<=99999:=by rw[eI,gL]at k3;omega
     rw[eI]at k3;by_cases g5:65536<(y::x).length
     ·obtain rfl:=fS (by rw[eI]at g5;rw[gL]at k3;omega)
      have uN:(65536:Int)<(y::x).length:=by omega
      clear fS;refine aD ?_;exact aB
     ·have uN:¬(65536:Int)<(y::x).length:=by omega
      clear fS;refine aD ?_;exact⟨m+20,m,⟨⟨by omega,by omega⟩,fun h=>by omega⟩,aN⟩
   ·obtain⟨q,hq⟩:∃q,F.length=q+1:=⟨F.length-1,by have:=BP.2 hF;omega⟩
    obtain⟨i1,i2⟩:=aC (by omega)
    rw[hq]at k3;have VM:(F++x).length=q+1+x.length:=by rw[cP,hq]
    by_cases g5:65536<(F++x).length
    ·obtain rfl:=fS (by omega)
     have uN:(65536:Int)<((q+1+x.length:Nat):Int):=by omega
     clear fS hF VM;refine aD ?_;exact aB
    ·have uN:¬(65536:Int)<((q+1+x.length:Nat):Int):=by omega
     clear fS hF;have oC:q+1+x.length=(q+x.length)+1:=by omega
     rw[VM]at g5;rw[VM,oC];clear VM;refine aD ?_;exact⟨m+20,m,⟨⟨by omega,by omega⟩,fun h=>by omega⟩,aN⟩
  ·rw[l4]at hR⊢
   obtain⟨⟨hm,hR⟩,aC⟩:=hR;rw[if_neg (by omega)]at hM
   clear s6 eW kJ;generalize h.flatten=F at*;have w1:IntKind.i64.wrap (eO F)=eO F:=IntWalk.i64_in _ (by omega)
   by_cases hF:F=[]
   ·subst hF
    clear aC lY h0;simp only[gL]at*;have c4:=fD.less c4 (Mu (xs:=[]) (ys:=[]));have c5:=fD.less c5 (Mu (xs:=[]) (ys:=[]));simp only[x8]at c4 c5;by_cases g4:eO ([]:List Int)=s
    ·rw[if_pos g4]at hM
     subst g4;generalize uM ([]:List Int)=D at*;obtain⟨⟨cb,cn,ct,cp,cw⟩,de⟩:=D;unfold gT at c5;simp only[]at*;by_cases g5:de=0
     ·rw[if_pos g5]at hM
      subst g5;by_cases g6:cn=n
      ·rw[if_pos g6]at hM
       subst hM g6;unfold gT;refine aE ?_;exact aB
      ·rw[if_neg g6]at hM
       subst hM;refine aE ?_;exact aB
     ·rw[if_neg g5]at hM
      subst hM;refine aE ?_;exact aB
    ·rw[if_neg g4]at hM
     subst hM;clear c5;refine aE ?_;exact aB
   ·obtain⟨q,hq⟩:∃q,F.length=q+1:=⟨F.length-1,by have:=BP.2 hF;omega⟩
    obtain⟨i1,i2⟩:=aC (by omega)
    have iD:F.take (q+1)=F:=cR (by omega)
    rw[hq];by_cases g4:eO F=s
    ·rw[if_pos g4]at hM
     subst g4;generalize uM F=D at*;obtain⟨⟨cb,cn,ct,cp,cw⟩,de⟩:=D;unfold gT at c5;simp only[]at*;by_cases g5:de=0
     ·rw[if_pos g5]at hM
      subst g5;by_cases g6:cn=n
      ·rw[if_pos g6]at hM
       subst hM g6;unfold gT;refine aE ?_;refine xL ?_;refine aE ?_;exact aB
      ·rw[if_neg g6]at hM
       subst hM;refine aE ?_;refine xL ?_;refine aE ?_;exact aB
     ·rw[if_neg g5]at hM
      subst hM;refine aE ?_;refine xL ?_;refine aE ?_;exact aB
    ·rw[if_neg g4]at hM
     subst hM;clear c5;refine aE ?_;refine xL ?_;refine aE ?_;exact aB
end Go.Proofs.YtioafciifiggaaaGreatDoor
