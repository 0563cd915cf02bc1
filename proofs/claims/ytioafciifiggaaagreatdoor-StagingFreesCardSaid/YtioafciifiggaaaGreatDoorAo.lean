/- Staging. No condition. -/
import Derived.Test.YtioafciifiggaaaGreatDoorL0
import Derived.Test.YtioafciifiggaaaGreatDoorAn
set_option linter.all false
namespace Go.Proofs.YtioafciifiggaaaGreatDoor
open Go.Proofs Go.AL
set_option maxRecDepth 100000
set_option maxHeartbeats 8000000
attribute [local irreducible] cH AW b9 dR eH hold
def sJ(n:Int):List Int->Int->Int×Bool
 |[],u=>(u,true)
 |x::l,u=>if x<2\/1026<x\/n<u+x then(u,false)else sJ n l (u+x)
theorem L2(n x:Int)(l:List Int)(u:Int):sJ n (x::l) u=if x<2\/1026<x\/n<u+x then(u,false)else sJ n l (u+x):=rfl
theorem V6(n:Int):∀(l:List Int) (u:Int),u<=n->((sJ n l u).2=true↔(l.any vK=false/\u+l.sum<=n))/\((sJ n l u).2=true->(sJ n l u).1=u+l.sum)
 |[],u,h=>by simp[sJ];exact h
 |x::l,u,h=>by
  rw[L2];by_cases g:x<2\/1026<x\/n<u+x
  ·rw[if_pos g]
   refine⟨⟨fun h=>by simp at h,fun⟨h1,h2⟩=> ?_⟩,fun h=>by simp at h⟩
   exfalso;have h3:=GM h1;have h4:=h3 x (by simp)
   have h5:=GN l fun y hy=>h3 y (by simp[hy])
   rw[qP]at h2;rcases g with g|g|g<;>omega
  ·rw[if_neg g]
   have ih:=V6 n l (u+x) (by omega)
   have hx:vK x=false:=by unfold vK;simp;omega
   have he:(x::l).any vK=l.any vK:=by rw[Ts,hx,Tt]
   rw[he,qP,<-Fy];exact ih
def jU(j:Jr):Int:=if qY j.start j.count=true then(sJ (j.count-16) j.b8 0).1 else 0
theorem An(j:Jr)(hv:qY j.start j.count=true):jE j=0↔(0<=j.head/\j.head<j.count-16/\1<=j.first/\j.first<=1073741824/\(j.b8.length:Int)<=1073741824-j.first)/\(sJ (j.count-16) j.b8 0).2=true/\j.tail=(j.head+(sJ (j.count-16) j.b8 0).1) % (j.count-16):=by
 have hr:=IS hv;have ht:=V6 (j.count-16) j.b8 0 (by omega)
 rw[Tq]at ht;unfold jE;constructor
 ·intro h
  split at h
  ·exact absurd h (by decide)
  rename_i g1;split at h
  ·exact absurd h (by decide)
  rename_i g2;split at h
  ·exact absurd h (by decide)
  rename_i g3;have h2:j.b8.any vK=false:=by simpa using g2
  have h3:(sJ (j.count-16) j.b8 0).2=true:=ht.1.2 ⟨h2,by omega⟩
  have h4:=ht.2 h3;refine⟨⟨by omega,by omega,by omega,by omega,by omega⟩,h3,?_⟩
  rw[h4];exact KD.1 fun e=>g3 (.inr (.inl e))
 ·rintro⟨⟨h1,h2,h3,h4,h5⟩,h6,h7⟩
  obtain⟨h8,h9⟩:=ht.1.1 h6;have dY:=ht.2 h6;have oC:=GN j.b8 (GM h8);rw[dY]at h7
  rw[if_neg (by
   rintro(k|k|k|k|k|k)
   ·rw[hv]at k;exact absurd k (by decide)
   ·omega
   ·omega
   ·omega
   ·omega
   ·omega),if_neg (by rw[h8];decide),if_neg (by
   rintro(k|k|k)
   ·omega
   ·exact k h7
   ·omega)]
def encS(j:Jr)(u:Int):List AV:=[zV j.start,zV j.count,zV j.start,zV j.count,zV j.head,zV j.tail,zV j.first,.snap (aA bD j.b8),zV u]
theorem P6(j:Jr)(hl:j.b8.length<=100000):PC 57 [.agg (eZ j)] (.aU [.agg (encS j (jU j)),bV (decide (jE j=0))]):=by
 refine bI Tryz.func57 Tryz.ntmps57 (by simp only[go_sem,encS]) ?_
 have qG:=An j;obtain⟨s,c,h,t,f,z⟩:=j;have c1:=Ij s c;have c2:=UZ 4096;have e2:D5 4096=1026:=by decide
 rw[e2]at c2;have hg:=gI z;have hu:jU ⟨s,c,h,t,f,z⟩=if qY s c=true then(sJ (c-16) z 0).1 else 0:=rfl
 have yP:qY s c=false->jE ⟨s,c,h,t,f,z⟩=3:=fun e=>by unfold jE;rw[if_pos (.inl e)]
 generalize jU ⟨s,c,h,t,f,z⟩=U at*;generalize jE ⟨s,c,h,t,f,z⟩=M at*;unfold eZ encS;simp only[]at*;by_cases g1:qY s c=false
 ·have hM:=yP g1
  rw[if_neg (by rw[g1];decide)]at hu
  subst hu hM;rw[g1]at c1;clear qG hg yP;refine aG ?_;exact aC
 have GO:qY s c=true:=by simpa using g1
 obtain⟨v1,v2,v3,v4,v5⟩:=IS GO;have qG:=qG GO;rw[if_pos GO]at hu;rw[GO]at c1;have c3:=aY2 s c v2 v4;have w1:IntKind.i64.wrap (c-16)=c-16:=IntWalk.i64_in _ (by omega)
 clear g1 GO yP;generalize hF:sJ (c-16) z 0=F at*;subst hu;by_cases g2:0<=h
 case neg=>
  have iB:¬M=0:=fun e=>g2 (qG.1 e).1.1
  clear qG;refine aD ?_;refine fK (α:=Int) z.length (fun k u=> [(53,true,zV k),(52,true,zV z.length),(51,true,.snap (aA bD z)),(6,true,zV 1026),(5,true,bV false),(4,true,.ptr 2 0 0),(2,true,.ptr 1 0 0),(1,true,.ptr 0 0 0)]) (fun k u=> [(0,some (.cells 30 6 [[zV s,zV c,zV h,zV t,zV f,.snap (aA bD z)]] true false)),(1,some (.cells 134 9 [[zV 0,zV 0,zV 0,zV 0,zV 0,zV 0,zV 0,.c (.slice none 0 0),zV 0]] true false)),(2,some (.cells 134 9 [[zV s,zV c,zV s,zV c,zV h,zV t,zV f,.snap (aA bD z),zV u]] true false))]) (fun k m u=>3<=m/\(0<=u/\u<=c-16)/\sJ (c-16) (z.drop k) u=F) ⟨100,0,⟨by omega,⟨by omega,by omega⟩,hF⟩,aT⟩ (fun k m u hk hR=> ?_) (fun m u hR=> ?_)
  ·obtain⟨hm,⟨DE,DF⟩,hR⟩:=hR
   have fD:=hg k hk;rw[uL 0 hk,L2]at hR;generalize z.getD k 0=v at*;clear hg hF;by_cases g7:v<2
   ·rw[if_pos (.inl g7)]at hR
    subst hR;have hd:decide (M=0)=false:=by simpa using iB
    rw[hd];clear iB hd;refine aD ?_;exact aC
   by_cases g8:1026<v
   ·rw[if_pos (.inr (.inl g8))]at hR
    subst hR;have hd:decide (M=0)=false:=by simpa using iB
    rw[hd];clear iB hd;refine aD ?_;exact aC
   have V7:IntKind.i64.wrap (u+v)=u+v:=IntWalk.i64_in _ (by omega)
   by_cases g9:c-16<u+v
   ·rw[if_pos (.inr (.inr g9))]at hR
    subst hR;have hd:decide (M=0)=false:=by simpa using iB
    rw[hd];clear iB hd;refine aD ?_;exact aC
   rw[if_neg (by omega)]at hR
   have qZ:=bB.mk hR;clear hR;refine aD ?_;exact⟨m+60,u+v,⟨by omega,⟨by omega,by omega⟩,qZ.out⟩,aT⟩
  ·obtain⟨hm,⟨DE,DF⟩,hR⟩:=hR
   rw[BB]at hR;have cP:F=(u,true):=hR.symm;clear hR hF hg;subst cP;have hd:decide (M=0)=false:=by simpa using iB
   rw[hd];clear iB hd;refine aD ?_;exact aC
 by_cases g3:h<c-16
 case neg=>
  have iB:¬M=0:=fun e=>g3 (qG.1 e).1.2.1
  clear qG;refine aD ?_;refine fK (α:=Int) z.length (fun k u=> [(53,true,zV k),(52,true,zV z.length),(51,true,.snap (aA bD z)),(6,true,zV 1026),(5,true,bV false),(4,true,.ptr 2 0 0),(2,true,.ptr 1 0 0),(1,true,.ptr 0 0 0)]) (fun k u=> [(0,some (.cells 30 6 [[zV s,zV c,zV h,zV t,zV f,.snap (aA bD z)]] true false)),(1,some (.cells 134 9 [[zV 0,zV 0,zV 0,zV 0,zV 0,zV 0,zV 0,.c (.slice none 0 0),zV 0]] true false)),(2,some (.cells 134 9 [[zV s,zV c,zV s,zV c,zV h,zV t,zV f,.snap (aA bD z),zV u]] true false))]) (fun k m u=>3<=m/\(0<=u/\u<=c-16)/\sJ (c-16) (z.drop k) u=F) ⟨100,0,⟨by omega,⟨by omega,by omega⟩,hF⟩,aT⟩ (fun k m u hk hR=> ?_) (fun m u hR=> ?_)
  ·obtain⟨hm,⟨DE,DF⟩,hR⟩:=hR
   have fD:=hg k hk;rw[uL 0 hk,L2]at hR;generalize z.getD k 0=v at*;clear hg hF;by_cases g7:v<2
   ·rw[if_pos (.inl g7)]at hR
    subst hR;have hd:decide (M=0)=false:=by simpa using iB
    rw[hd];clear iB hd;refine aD ?_;exact aC
   by_cases g8:1026<v
   ·rw[if_pos (.inr (.inl g8))]at hR
    subst hR;have hd:decide (M=0)=false:=by simpa using iB
    rw[hd];clear iB hd;refine aD ?_;exact aC
   have V7:IntKind.i64.wrap (u+v)=u+v:=IntWalk.i64_in _ (by omega)
   by_cases g9:c-16<u+v
   ·rw[if_pos (.inr (.inr g9))]at hR
    subst hR;have hd:decide (M=0)=false:=by simpa using iB
    rw[hd];clear iB hd;refine aD ?_;exact aC
   rw[if_neg (by omega)]at hR
   have qZ:=bB.mk hR;clear hR;refine aD ?_;exact⟨m+60,u+v,⟨by omega,⟨by omega,by omega⟩,qZ.out⟩,aT⟩
  ·obtain⟨hm,⟨DE,DF⟩,hR⟩:=hR
   rw[BB]at hR;have cP:F=(u,true):=hR.symm;clear hR hF hg;subst cP;have hd:decide (M=0)=false:=by simpa using iB
   rw[hd];clear iB hd;refine aD ?_;exact aC
 by_cases g4:1<=f
 case neg=>
  have iB:¬M=0:=fun e=>g4 (qG.1 e).1.2.2.1
  clear qG;refine aD ?_;refine fK (α:=Int) z.length (fun k u=> [(53,true,zV k),(52,true,zV z.length),(51,true,.snap (aA bD z)),(6,true,zV 1026),(5,true,bV false),(4,true,.ptr 2 0 0),(2,true,.ptr 1 0 0),(1,true,.ptr 0 0 0)]) (fun k u=> [(0,some (.cells 30 6 [[zV s,zV c,zV h,zV t,zV f,.snap (aA bD z)]] true false)),(1,some (.cells 134 9 [[zV 0,zV 0,zV 0,zV 0,zV 0,zV 0,zV 0,.c (.slice none 0 0),zV 0]] true false)),(2,some (.cells 134 9 [[zV s,zV c,zV s,zV c,zV h,zV t,zV f,.snap (aA bD z),zV u]] true false))]) (fun k m u=>3<=m/\(0<=u/\u<=c-16)/\sJ (c-16) (z.drop k) u=F) ⟨100,0,⟨by omega,⟨by omega,by omega⟩,hF⟩,aT⟩ (fun k m u hk hR=> ?_) (fun m u hR=> ?_)
  ·obtain⟨hm,⟨DE,DF⟩,hR⟩:=hR
   have fD:=hg k hk;rw[uL 0 hk,L2]at hR;generalize z.getD k 0=v at*;clear hg hF;by_cases g7:v<2
   ·rw[if_pos (.inl g7)]at hR
    subst hR;have hd:decide (M=0)=false:=by simpa using iB
    rw[hd];clear iB hd;refine aD ?_;exact aC
   by_cases g8:1026<v
   ·rw[if_pos (.inr (.inl g8))]at hR
    subst hR;have hd:decide (M=0)=false:=by simpa using iB
    rw[hd];clear iB hd;refine aD ?_;exact aC
   have V7:IntKind.i64.wrap (u+v)=u+v:=IntWalk.i64_in _ (by omega)
   by_cases g9:c-16<u+v
   ·rw[if_pos (.inr (.inr g9))]at hR
    subst hR;have hd:decide (M=0)=false:=by simpa using iB
    rw[hd];clear iB hd;refine aD ?_;exact aC
   rw[if_neg (by omega)]at hR
   have qZ:=bB.mk hR;clear hR;refine aD ?_;exact⟨m+60,u+v,⟨by omega,⟨by omega,by omega⟩,qZ.out⟩,aT⟩
  ·obtain⟨hm,⟨DE,DF⟩,hR⟩:=hR
   rw[BB]at hR;have cP:F=(u,true):=hR.symm;clear hR hF hg;subst cP;have hd:decide (M=0)=false:=by simpa using iB
   rw[hd];clear iB hd;refine aD ?_;exact aC
 by_cases g5:f<=1073741824
 case neg=>
  have iB:¬M=0:=fun e=>g5 (qG.1 e).1.2.2.2.1
  clear qG;refine aD ?_;refine fK (α:=Int) z.length (fun k u=> [(53,true,zV k),(52,true,zV z.length),(51,true,.snap (aA bD z)),(6,true,zV 1026),(5,true,bV false),(4,true,.ptr 2 0 0),(2,true,.ptr 1 0 0),(1,true,.ptr 0 0 0)]) (fun k u=> [(0,some (.cells 30 6 [[zV s,zV c,zV h,zV t,zV f,.snap (aA bD z)]] true false)),(1,some (.cells 134 9 [[zV 0,zV 0,zV 0,zV 0,zV 0,zV 0,zV 0,.c (.slice none 0 0),zV 0]] true false)),(2,some (.cells 134 9 [[zV s,zV c,zV s,zV c,zV h,zV t,zV f,.snap (aA bD z),zV u]] true false))]) (fun k m u=>3<=m/\(0<=u/\u<=c-16)/\sJ (c-16) (z.drop k) u=F) ⟨100,0,⟨by omega,⟨by omega,by omega⟩,hF⟩,aT⟩ (fun k m u hk hR=> ?_) (fun m u hR=> ?_)
  ·obtain⟨hm,⟨DE,DF⟩,hR⟩:=hR
   have fD:=hg k hk;rw[uL 0 hk,L2]at hR;generalize z.getD k 0=v at*;clear hg hF;by_cases g7:v<2
   ·rw[if_pos (.inl g7)]at hR
    subst hR;have hd:decide (M=0)=false:=by simpa using iB
    rw[hd];clear iB hd;refine aD ?_;exact aC
   by_cases g8:1026<v
   ·rw[if_pos (.inr (.inl g8))]at hR
    subst hR;have hd:decide (M=0)=false:=by simpa using iB
    rw[hd];clear iB hd;refine aD ?_;exact aC
   have V7:IntKind.i64.wrap (u+v)=u+v:=IntWalk.i64_in _ (by omega)
   by_cases g9:c-16<u+v
   ·rw[if_pos (.inr (.inr g9))]at hR
    subst hR;have hd:decide (M=0)=false:=by simpa using iB
    rw[hd];clear iB hd;refine aD ?_;exact aC
   rw[if_neg (by omega)]at hR
   have qZ:=bB.mk hR;clear hR;refine aD ?_;exact⟨m+60,u+v,⟨by omega,⟨by omega,by omega⟩,qZ.out⟩,aT⟩
  ·obtain⟨hm,⟨DE,DF⟩,hR⟩:=hR
   rw[BB]at hR;have cP:F=(u,true):=hR.symm;clear hR hF hg;subst cP;have hd:decide (M=0)=false:=by simpa using iB
   rw[hd];clear iB hd;refine aD ?_;exact aC
 by_cases g6:(z.length:Int)<=1073741824-f
 case neg=>
  have iB:¬M=0:=fun e=>g6 (qG.1 e).1.2.2.2.2
  clear qG;refine aD ?_;refine fK (α:=Int) z.length (fun k u=> [(53,true,zV k),(52,true,zV z.length),(51,true,.snap (aA bD z)),(6,true,zV 1026),(5,true,bV false),(4,true,.ptr 2 0 0),(2,true,.ptr 1 0 0),(1,true,.ptr 0 0 0)]) (fun k u=> [(0,some (.cells 30 6 [[zV s,zV c,zV h,zV t,zV f,.snap (aA bD z)]] true false)),(1,some (.cells 134 9 [[zV 0,zV 0,zV 0,zV 0,zV 0,zV 0,zV 0,.c (.slice none 0 0),zV 0]] true false)),(2,some (.cells 134 9 [[zV s,zV c,zV s,zV c,zV h,zV t,zV f,.snap (aA bD z),zV u]] true false))]) (fun k m u=>3<=m/\(0<=u/\u<=c-16)/\sJ (c-16) (z.drop k) u=F) ⟨100,0,⟨by omega,⟨by omega,by omega⟩,hF⟩,aT⟩ (fun k m u hk hR=> ?_) (fun m u hR=> ?_)
  ·obtain⟨hm,⟨DE,DF⟩,hR⟩:=hR
   have fD:=hg k hk;rw[uL 0 hk,L2]at hR;generalize z.getD k 0=v at*;clear hg hF;by_cases g7:v<2
   ·rw[if_pos (.inl g7)]at hR
    subst hR;have hd:decide (M=0)=false:=by simpa using iB
    rw[hd];clear iB hd;refine aD ?_;exact aC
   by_cases g8:1026<v
   ·rw[if_pos (.inr (.inl g8))]at hR
    subst hR;have hd:decide (M=0)=false:=by simpa using iB
    rw[hd];clear iB hd;refine aD ?_;exact aC
   have V7:IntKind.i64.wrap (u+v)=u+v:=IntWalk.i64_in _ (by omega)
   by_cases g9:c-16<u+v
   ·rw[if_pos (.inr (.inr g9))]at hR
    subst hR;have hd:decide (M=0)=false:=by simpa using iB
    rw[hd];clear iB hd;refine aD ?_;exact aC
   rw[if_neg (by omega)]at hR
   have qZ:=bB.mk hR;clear hR;refine aD ?_;exact⟨m+60,u+v,⟨by omega,⟨by omega,by omega⟩,qZ.out⟩,aT⟩
  ·obtain⟨hm,⟨DE,DF⟩,hR⟩:=hR
   rw[BB]at hR;have cP:F=(u,true):=hR.symm;clear hR hF hg;subst cP;have hd:decide (M=0)=false:=by simpa using iB
   rw[hd];clear iB hd;refine aD ?_;exact aC
 refine aD ?_;refine fK (α:=Int) z.length (fun k u=> [(53,true,zV k),(52,true,zV z.length),(51,true,.snap (aA bD z)),(6,true,zV 1026),(5,true,bV true),(4,true,.ptr 2 0 0),(2,true,.ptr 1 0 0),(1,true,.ptr 0 0 0)]) (fun k u=> [(0,some (.cells 30 6 [[zV s,zV c,zV h,zV t,zV f,.snap (aA bD z)]] true false)),(1,some (.cells 134 9 [[zV 0,zV 0,zV 0,zV 0,zV 0,zV 0,zV 0,.c (.slice none 0 0),zV 0]] true false)),(2,some (.cells 134 9 [[zV s,zV c,zV s,zV c,zV h,zV t,zV f,.snap (aA bD z),zV u]] true false))]) (fun k m u=>3<=m/\(0<=u/\u<=c-16)/\sJ (c-16) (z.drop k) u=F) ⟨100,0,⟨by omega,⟨by omega,by omega⟩,hF⟩,aT⟩ (fun k m u hk hR=> ?_) (fun m u hR=> ?_)
 ·obtain⟨hm,⟨DE,DF⟩,hR⟩:=hR
  have fD:=hg k hk;rw[uL 0 hk,L2]at hR;generalize z.getD k 0=v at*;clear hg hF;by_cases g7:v<2
  ·rw[if_pos (.inl g7)]at hR
   subst hR
   have hd:decide (M=0)=false:=by
    have:¬M=0:=fun e=>by have:=(qG.1 e).2.1;simp at this
    simpa using this
   rw[hd];clear qG hd;refine aD ?_;exact aC
  by_cases g8:1026<v
  ·rw[if_pos (.inr (.inl g8))]at hR
   subst hR
   have hd:decide (M=0)=false:=by
    have:¬M=0:=fun e=>by have:=(qG.1 e).2.1;simp at this
    simpa using this
   rw[hd];clear qG hd;refine aD ?_;exact aC
  have V7:IntKind.i64.wrap (u+v)=u+v:=IntWalk.i64_in _ (by omega)
  by_cases g9:c-16<u+v
  ·rw[if_pos (.inr (.inr g9))]at hR
   subst hR
   have hd:decide (M=0)=false:=by
    have:¬M=0:=fun e=>by have:=(qG.1 e).2.1;simp at this
    simpa using this
   rw[hd];clear qG hd;refine aD ?_;exact aC
  rw[if_neg (by omega)]at hR
  have qZ:=bB.mk hR;clear hR;refine aD ?_;exact⟨m+60,u+v,⟨by omega,⟨by omega,by omega⟩,qZ.out⟩,aT⟩
 ·obtain⟨hm,⟨DE,DF⟩,hR⟩:=hR
  rw[BB]at hR;have cP:F=(u,true):=hR.symm;clear hR hF hg;subst cP;have w2:IntKind.i64.wrap (h+u)=h+u:=IntWalk.i64_in _ (by omega)
  have w3:(h+u).tmod (c-16)=(h+u) % (c-16):=EF (by omega)
  have w5:¬c-16=0:=by omega
  have w6:=BC (h+u) (show c-16≠0 by omega)
  have w7:=zM (h+u) (show 0<c-16 by omega)
  have w8:IntKind.i64.wrap ((h+u) % (c-16))=(h+u) % (c-16):=IntWalk.i64_in _ (by omega)
  simp only[]at qG;generalize (h+u) % (c-16)=R at*;by_cases g8:t=R
  ·have hd:decide (M=0)=true:=by simpa using qG.2 ⟨⟨g2,g3,g4,g5,g6⟩,trivial,g8⟩
   rw[hd];subst g8;clear qG hd;refine aD ?_;exact aC
  ·have hd:decide (M=0)=false:=by
    have:¬M=0:=fun e=>g8 (qG.1 e).2.2
    simpa using this
   rw[hd];clear qG hd;refine aD ?_;exact aC
set_option maxHeartbeats 1000000
theorem be8{j:Jr}(h:¬jE j=0):jE j=3:=by
 unfold jE at h⊢;split
 ·rfl
 ·split
  ·rfl
  ·split
   ·rfl
   ·rename_i h1 h2 h3
    rw[if_neg h1,if_neg h2,if_neg h3]at h;exact absurd rfl h
theorem uP{j:Jr}(h:jE j=0):qY j.start j.count=true/\0<=j.head/\j.head<j.count-16/\1<=j.first/\j.first+(j.b8.length:Int)<=1073741824/\j.tail=(j.head+j.b8.sum) % (j.count-16)/\j.b8.sum<=j.count-16/\j.b8.any vK=false:=by
 unfold jE at h;split at h
 ·exact absurd h (by decide)
 rename_i h1;split at h
 ·exact absurd h (by decide)
 rename_i h2;split at h
 ·exact absurd h (by decide)
 rename_i h3
 have hv:qY j.start j.count=true:=by
  cases hb:qY j.start j.count with
  |true=>rfl
  |false=>exact absurd (.inl hb) h1
 exact⟨hv,by omega,by omega,by omega,by omega,KD.1 fun e=>h3 (.inr (.inl e)),by omega,by simpa using h2⟩
theorem be9(j:Jr)(hl:j.b8.length<=100000):PC 54 [.agg (eZ j)] (zV (jE j)):=by
 refine bI Tryz.func54 Tryz.ntmps54 (.c _) ?_;have c1:=P6 j hl;have h3:=be8 (j:=j);generalize jU j=u at*;generalize jE j=M at*;unfold eZ encS at*;by_cases g:M=0
 ·subst g
  clear h3;rw[show decide ((0:Int)=0)=true from rfl]at c1
  refine aG ?_;exact aC
 ·have h4:=h3 g
  subst h4;clear h3 g;rw[show decide ((3:Int)=0)=false from rfl]at c1
  refine aG ?_;exact aC
theorem Ao(j:Jr)(hl:j.b8.length<=100000):PC 35 [.agg (eZ j)] (zV (if jE j=0 then j.first+j.b8.length else 0)):=by
 refine bI Tryz.func35 Tryz.ntmps35 (.c _) ?_;have c1:=P6 j hl;have dO:=uP (j:=j);generalize jU j=u at*;generalize jE j=M at*;obtain⟨s,c,h,t,f,z⟩:=j;unfold eZ encS at*;simp only[]at*;by_cases g:M=0
 ·obtain⟨-,-,-,k1,k2,-⟩:=dO g
  subst g;clear dO;rw[show decide ((0:Int)=0)=true from rfl]at c1
  rw[if_pos rfl];refine aG ?_;refine kA Tryz.func85 Tryz.ntmps85 ?_;refine aG ?_;exact aC
 ·rw[show decide (M=0)=false from by simpa using g]at c1
  rw[if_neg g];clear dO;refine aG ?_;exact aC
end Go.Proofs.YtioafciifiggaaaGreatDoor
namespace Go.Proofs.YtioafciifiggaaaGreatDoor
open Go.Proofs Go.AL
set_option maxRecDepth 100000
set_option maxHeartbeats 1000000
attribute [local irreducible] cH AW b9 dR eH hold
attribute [local irreducible] jI
structure V8(a:nT):Prop where
 bS:a.bS.length<=100000
 seen:a.seen.length<=100000
 one:∀x∈a.bS,x.length<=100000/\∀y∈x,aV y
 all:fO a.bS<=100000
theorem Je{a:nT}(h:¬qF a=0):qF a=3:=by
 unfold qF at h⊢;split
 ·rfl
 ·split
  ·rename_i h1 h2
   rw[if_neg h1,if_pos h2]at h;exact absurd rfl h
  ·rfl
theorem Yp{a:nT}(h:qF a=0):1<=a.number/\a.number<=1073741824/\1<=a.parts/\a.parts<=65536/\0<=a.sum/\a.sum<=4294967295/\(a.bS.length:Int)=a.parts/\(a.seen.length:Int)=a.parts/\∀i,i<a.bS.length->D9 a i=true:=by
 unfold qF at h;split at h
 ·exact absurd h (by decide)
 rename_i h1;split at h
 ·rename_i h2
  have a7:(a.bS.length:Int)=a.parts:=KD.1 fun e=>h1 (.inr (.inr (.inr (.inr (.inr (.inr (.inl e)))))))
  have a8:(a.seen.length:Int)=a.parts:=KD.1 fun e=>h1 (.inr (.inr (.inr (.inr (.inr (.inr (.inr e)))))))
  exact⟨by omega,by omega,by omega,by omega,by omega,by omega,a7,a8,fun i hi=>gK.1 h2 i (by simpa using hi)⟩
 ·exact absurd h (by decide)
theorem bf0{h:List (List Int)}(hb:∀x∈h,∀y∈x,aV y):∀y∈h.flatten,aV y:=fun y hy=>by
 obtain⟨x,hx,hy⟩:=List.mem_flatten.1 hy;exact hb x hx y hy
theorem Ap(a:nT)(hA:V8 a):PC 79 [.agg (iZ a)] (.aU [.agg (mI (rM a).1),zV (rM a).2]):=by
 refine bI Tryz.func79 Tryz.ntmps79 (by simp only[go_sem,mI]) ?_
 have c1:=Iz a (by have:=hA.bS;omega) (by have:=hA.seen;omega) (fun x hx=>by have:=(hA.one x hx).1;omega)
 have c2:=be3 a.seen (by have:=hA.seen;omega)
 have c3:=be5 a.bS hA.bS (by have:=hA.all;omega)
 have P7:=bf0 fun x hx=>(hA.one x hx).2
 have oI:=Am a.bS;have h0:=hA.all;have c4:=V4 a.bS.flatten P7 (by omega)
 have c5:=bd2 a.bS.flatten P7 (by omega)
 have wN:=KV a.bS.flatten;have h3:=Je (a:=a);have Yj:mI sX=[zV 0,zV 0,zV 0,.snap (aA bD []),.snap (aA bJ [])]:=rfl;obtain⟨M,hM⟩:∃M,rM a=M:=⟨_,rfl⟩;rw[hM];unfold rM at hM;clear hA P7;obtain⟨n,p,s,h,e⟩:=a;unfold iZ at*;simp only[]at*;generalize qF ⟨n,p,s,h,e⟩=ae at*;by_cases g1:ae=0
 ·rw[if_pos g1]at hM
  subst g1;by_cases g2:e.all id=true
  ·rw[if_pos g2]at hM
   rw[g2]at c2;generalize h.flatten=F at*;by_cases g3:65536<F.length
   ·rw[if_pos g3]at hM
    subst hM;have xW:(65536:Int)<F.length:=by omega
    clear c4 c5 wN;refine aG ?_;exact aC
   ·rw[if_neg g3]at hM
    have xW:¬(65536:Int)<F.length:=by omega
    have w1:IntKind.i64.wrap (fV F)=fV F:=IntWalk.i64_in _ (by omega)
    by_cases g4:fV F=s
    ·rw[if_pos g4]at hM
     subst g4;generalize D8 F=D at*;obtain⟨⟨cb,cn,ct,cp,cw⟩,de⟩:=D;unfold mI at c5;simp only[]at*;by_cases g5:de=0
     ·rw[if_pos g5]at hM
      subst g5;by_cases g6:cn=n
      ·rw[if_pos g6]at hM
       subst hM g6;unfold mI;refine aD ?_;exact aC
      ·rw[if_neg g6]at hM
       subst hM;refine aD ?_;exact aC
     ·rw[if_neg g5]at hM
      subst hM;refine aD ?_;exact aC
    ·rw[if_neg g4]at hM
     subst hM;clear c5;refine aD ?_;exact aC
  ·rw[if_neg g2]at hM
   subst hM;have ER:e.all id=false:=by simpa using g2
   rw[ER]at c2;clear c3 c4 c5;refine aG ?_;exact aC
 ·rw[if_neg g1]at hM
  subst hM;have h3:=h3 g1;subst h3;clear c2 c3 c4 c5;refine aG ?_;exact aC
end Go.Proofs.YtioafciifiggaaaGreatDoor
