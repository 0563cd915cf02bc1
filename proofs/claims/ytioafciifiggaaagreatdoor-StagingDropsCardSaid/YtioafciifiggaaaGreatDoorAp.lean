/- Staging: contracts of its functions (Ap). No condition but those named. -/
import Derived.Test.YtioafciifiggaaaGreatDoorAo
set_option linter.unusedVariables false
set_option linter.unusedSimpArgs false
namespace Go.Proofs.YtioafciifiggaaaGreatDoor
open Go.Proofs Go.AL
set_option maxRecDepth 100000
set_option maxHeartbeats 8000000
attribute [local irreducible] endA AW aops thenA blockA hold
def useG(n:Int):List Int→Int→Int×Bool
 |[],u=>(u,true)
 |x::l,u=>if x<2∨1026<x∨n<u+x then(u,false)else useG n l (u+x)
theorem useG_cons(n x:Int)(l:List Int)(u:Int):useG n (x::l) u=if x<2∨1026<x∨n<u+x then(u,false)else useG n l (u+x):=rfl
theorem useG_t(n:Int):∀(l:List Int) (u:Int),u≤n→((useG n l u).2=true↔(l.any badJz=false∧u+l.sum≤n))∧((useG n l u).2=true→(useG n l u).1=u+l.sum)
 |[],u,h=>by simp[useG];exact h
 |x::l,u,h=>by
  rw[useG_cons];by_cases g:x<2∨1026<x∨n<u+x
  ·rw[if_pos g]
   refine⟨⟨fun h=>by simp at h,fun⟨h1,h2⟩=> ?_⟩,fun h=>by simp at h⟩
   exfalso;have h3:=any_f h1;have h4:=h3 x (by simp)
   have h5:=sum_len l fun y hy=>h3 y (by simp[hy])
   rw[List.sum_cons]at h2;rcases g with g|g|g<;>omega
  ·rw[if_neg g]
   have ih:=useG_t n l (u+x) (by omega)
   have hx:badJz x=false:=by unfold badJz;simp;omega
   have he:(x::l).any badJz=l.any badJz:=by rw[List.any_cons,hx,Bool.false_or]
   rw[he,List.sum_cons,←Int.add_assoc];exact ih
def jU(j:Jr):Int:=if validB j.start j.count=true then(useG (j.count-16) j.sizes 0).1 else 0
theorem jE_iff(j:Jr)(hv:validB j.start j.count=true):jE j=0↔(0≤j.head∧j.head<j.count-16∧1≤j.first∧j.first≤1073741824∧(j.sizes.length:Int)≤1073741824-j.first)∧(useG (j.count-16) j.sizes 0).2=true∧j.tail=(j.head+(useG (j.count-16) j.sizes 0).1) % (j.count-16):=by
 have hr:=validB_rng hv;have ht:=useG_t (j.count-16) j.sizes 0 (by omega)
 rw[Int.zero_add]at ht;unfold jE;constructor
 ·intro h
  split at h
  ·exact absurd h (by decide)
  rename_i g1;split at h
  ·exact absurd h (by decide)
  rename_i g2;split at h
  ·exact absurd h (by decide)
  rename_i g3;have h2:j.sizes.any badJz=false:=by simpa using g2
  have h3:(useG (j.count-16) j.sizes 0).2=true:=ht.1.2 ⟨h2,by omega⟩
  have h4:=ht.2 h3;refine⟨⟨by omega,by omega,by omega,by omega,by omega⟩,h3,?_⟩
  rw[h4];exact Classical.not_not.1 fun e=>g3 (.inr (.inl e))
 ·rintro⟨⟨h1,h2,h3,h4,h5⟩,h6,h7⟩
  obtain⟨h8,h9⟩:=ht.1.1 h6;have h10:=ht.2 h6;have h11:=sum_len j.sizes (any_f h8);rw[h10]at h7
  rw[if_neg (by
   rintro(k|k|k|k|k|k)
   ·rw[hv]at k;exact absurd k (by decide)
   ·omega
   ·omega
   ·omega
   ·omega
   ·omega),if_neg (by rw[h8];decide),if_neg (by
   rintro(k|k|k)
   ·omega
   ·exact k h7
   ·omega)]
def encS(j:Jr)(u:Int):List AV:=[zV j.start,zV j.count,zV j.start,zV j.count,zV j.head,zV j.tail,zV j.first,.snap (encL intRow j.sizes),zV u]
theorem examine_p(j:Jr)(hl:j.sizes.length≤100000):PC 57 [.agg (encJ j)] (.tup [.agg (encS j (jU j)),bV (decide (jE j=0))]):=by
 refine pstart Tryz.func57 Tryz.ntmps57 (by simp only[go_sem,encS]) ?_
 have hiff:=jE_iff j;obtain⟨s,c,h,t,f,z⟩:=j;have c1:=valid_p s c;have c2:=size_p 4096;have e2:sizeR 4096=1026:=by decide
 rw[e2]at c2;have hg:=gI z;have hu:jU ⟨s,c,h,t,f,z⟩=if validB s c=true then(useG (c-16) z 0).1 else 0:=rfl
 have hv0:validB s c=false→jE ⟨s,c,h,t,f,z⟩=3:=fun e=>by unfold jE;rw[if_pos (.inl e)]
 generalize jU ⟨s,c,h,t,f,z⟩=U at*;generalize jE ⟨s,c,h,t,f,z⟩=M at*;unfold encJ encS;simp only[]at*;by_cases g1:validB s c=false
 ·have hM:=hv0 g1
  rw[if_neg (by rw[g1];decide)]at hu
  subst hu hM;rw[g1]at c1;clear hiff hg hv0;refine zgo ?_;exact zfin
 have g1':validB s c=true:=by simpa using g1
 obtain⟨v1,v2,v3,v4,v5⟩:=validB_rng g1';have hiff:=hiff g1';rw[if_pos g1']at hu;rw[g1']at c1;have c3:=rlen_p s c v2 v4;have w1:IntKind.i64.wrap (c-16)=c-16:=IntWalk.i64_in _ (by omega)
 clear g1 g1' hv0;generalize hF:useG (c-16) z 0=F at*;subst hu;by_cases g2:0≤h
 case neg=>
  have hok1:¬M=0:=fun e=>g2 (hiff.1 e).1.1
  clear hiff;refine zgo2 ?_;refine zfor (α:=Int) z.length (fun k u=> [(53,true,zV k),(52,true,zV z.length),(51,true,.snap (encL intRow z)),(6,true,zV 1026),(5,true,bV false),(4,true,.ptr 2 0 0),(2,true,.ptr 1 0 0),(1,true,.ptr 0 0 0)]) (fun k u=> [(0,some (.cells 30 6 [[zV s,zV c,zV h,zV t,zV f,.snap (encL intRow z)]] true false)),(1,some (.cells 134 9 [[zV 0,zV 0,zV 0,zV 0,zV 0,zV 0,zV 0,.c (.slice none 0 0),zV 0]] true false)),(2,some (.cells 134 9 [[zV s,zV c,zV s,zV c,zV h,zV t,zV f,.snap (encL intRow z),zV u]] true false))]) (fun k m u=>3≤m∧(0≤u∧u≤c-16)∧useG (c-16) (z.drop k) u=F) ⟨100,0,⟨by omega,⟨by omega,by omega⟩,hF⟩,zholds⟩ (fun k m u hk hR=> ?_) (fun m u hR=> ?_)
  ·obtain⟨hm,⟨hu0,hu1⟩,hR⟩:=hR
   have hgk:=hg k hk;rw[drop_at 0 hk,useG_cons]at hR;generalize z.getD k 0=v at*;clear hg hF;by_cases g7:v<2
   ·rw[if_pos (.inl g7)]at hR
    subst hR;have hd:decide (M=0)=false:=by simpa using hok1
    rw[hd];clear hok1 hd;refine zgo2 ?_;exact zfin
   by_cases g8:1026<v
   ·rw[if_pos (.inr (.inl g8))]at hR
    subst hR;have hd:decide (M=0)=false:=by simpa using hok1
    rw[hd];clear hok1 hd;refine zgo2 ?_;exact zfin
   have w1':IntKind.i64.wrap (u+v)=u+v:=IntWalk.i64_in _ (by omega)
   by_cases g9:c-16<u+v
   ·rw[if_pos (.inr (.inr g9))]at hR
    subst hR;have hd:decide (M=0)=false:=by simpa using hok1
    rw[hd];clear hok1 hd;refine zgo2 ?_;exact zfin
   rw[if_neg (by omega)]at hR
   have hR3:=Lat.mk hR;clear hR;refine zgo2 ?_;exact⟨m+60,u+v,⟨by omega,⟨by omega,by omega⟩,hR3.out⟩,zholds⟩
  ·obtain⟨hm,⟨hu0,hu1⟩,hR⟩:=hR
   rw[List.drop_length]at hR;have hR2:F=(u,true):=hR.symm;clear hR hF hg;subst hR2;have hd:decide (M=0)=false:=by simpa using hok1
   rw[hd];clear hok1 hd;refine zgo2 ?_;exact zfin
 by_cases g3:h<c-16
 case neg=>
  have hok1:¬M=0:=fun e=>g3 (hiff.1 e).1.2.1
  clear hiff;refine zgo2 ?_;refine zfor (α:=Int) z.length (fun k u=> [(53,true,zV k),(52,true,zV z.length),(51,true,.snap (encL intRow z)),(6,true,zV 1026),(5,true,bV false),(4,true,.ptr 2 0 0),(2,true,.ptr 1 0 0),(1,true,.ptr 0 0 0)]) (fun k u=> [(0,some (.cells 30 6 [[zV s,zV c,zV h,zV t,zV f,.snap (encL intRow z)]] true false)),(1,some (.cells 134 9 [[zV 0,zV 0,zV 0,zV 0,zV 0,zV 0,zV 0,.c (.slice none 0 0),zV 0]] true false)),(2,some (.cells 134 9 [[zV s,zV c,zV s,zV c,zV h,zV t,zV f,.snap (encL intRow z),zV u]] true false))]) (fun k m u=>3≤m∧(0≤u∧u≤c-16)∧useG (c-16) (z.drop k) u=F) ⟨100,0,⟨by omega,⟨by omega,by omega⟩,hF⟩,zholds⟩ (fun k m u hk hR=> ?_) (fun m u hR=> ?_)
  ·obtain⟨hm,⟨hu0,hu1⟩,hR⟩:=hR
   have hgk:=hg k hk;rw[drop_at 0 hk,useG_cons]at hR;generalize z.getD k 0=v at*;clear hg hF;by_cases g7:v<2
   ·rw[if_pos (.inl g7)]at hR
    subst hR;have hd:decide (M=0)=false:=by simpa using hok1
    rw[hd];clear hok1 hd;refine zgo2 ?_;exact zfin
   by_cases g8:1026<v
   ·rw[if_pos (.inr (.inl g8))]at hR
    subst hR;have hd:decide (M=0)=false:=by simpa using hok1
    rw[hd];clear hok1 hd;refine zgo2 ?_;exact zfin
   have w1':IntKind.i64.wrap (u+v)=u+v:=IntWalk.i64_in _ (by omega)
   by_cases g9:c-16<u+v
   ·rw[if_pos (.inr (.inr g9))]at hR
    subst hR;have hd:decide (M=0)=false:=by simpa using hok1
    rw[hd];clear hok1 hd;refine zgo2 ?_;exact zfin
   rw[if_neg (by omega)]at hR
   have hR3:=Lat.mk hR;clear hR;refine zgo2 ?_;exact⟨m+60,u+v,⟨by omega,⟨by omega,by omega⟩,hR3.out⟩,zholds⟩
  ·obtain⟨hm,⟨hu0,hu1⟩,hR⟩:=hR
   rw[List.drop_length]at hR;have hR2:F=(u,true):=hR.symm;clear hR hF hg;subst hR2;have hd:decide (M=0)=false:=by simpa using hok1
   rw[hd];clear hok1 hd;refine zgo2 ?_;exact zfin
 by_cases g4:1≤f
 case neg=>
  have hok1:¬M=0:=fun e=>g4 (hiff.1 e).1.2.2.1
  clear hiff;refine zgo2 ?_;refine zfor (α:=Int) z.length (fun k u=> [(53,true,zV k),(52,true,zV z.length),(51,true,.snap (encL intRow z)),(6,true,zV 1026),(5,true,bV false),(4,true,.ptr 2 0 0),(2,true,.ptr 1 0 0),(1,true,.ptr 0 0 0)]) (fun k u=> [(0,some (.cells 30 6 [[zV s,zV c,zV h,zV t,zV f,.snap (encL intRow z)]] true false)),(1,some (.cells 134 9 [[zV 0,zV 0,zV 0,zV 0,zV 0,zV 0,zV 0,.c (.slice none 0 0),zV 0]] true false)),(2,some (.cells 134 9 [[zV s,zV c,zV s,zV c,zV h,zV t,zV f,.snap (encL intRow z),zV u]] true false))]) (fun k m u=>3≤m∧(0≤u∧u≤c-16)∧useG (c-16) (z.drop k) u=F) ⟨100,0,⟨by omega,⟨by omega,by omega⟩,hF⟩,zholds⟩ (fun k m u hk hR=> ?_) (fun m u hR=> ?_)
  ·obtain⟨hm,⟨hu0,hu1⟩,hR⟩:=hR
   have hgk:=hg k hk;rw[drop_at 0 hk,useG_cons]at hR;generalize z.getD k 0=v at*;clear hg hF;by_cases g7:v<2
   ·rw[if_pos (.inl g7)]at hR
    subst hR;have hd:decide (M=0)=false:=by simpa using hok1
    rw[hd];clear hok1 hd;refine zgo2 ?_;exact zfin
   by_cases g8:1026<v
   ·rw[if_pos (.inr (.inl g8))]at hR
    subst hR;have hd:decide (M=0)=false:=by simpa using hok1
    rw[hd];clear hok1 hd;refine zgo2 ?_;exact zfin
   have w1':IntKind.i64.wrap (u+v)=u+v:=IntWalk.i64_in _ (by omega)
   by_cases g9:c-16<u+v
   ·rw[if_pos (.inr (.inr g9))]at hR
    subst hR;have hd:decide (M=0)=false:=by simpa using hok1
    rw[hd];clear hok1 hd;refine zgo2 ?_;exact zfin
   rw[if_neg (by omega)]at hR
   have hR3:=Lat.mk hR;clear hR;refine zgo2 ?_;exact⟨m+60,u+v,⟨by omega,⟨by omega,by omega⟩,hR3.out⟩,zholds⟩
  ·obtain⟨hm,⟨hu0,hu1⟩,hR⟩:=hR
   rw[List.drop_length]at hR;have hR2:F=(u,true):=hR.symm;clear hR hF hg;subst hR2;have hd:decide (M=0)=false:=by simpa using hok1
   rw[hd];clear hok1 hd;refine zgo2 ?_;exact zfin
 by_cases g5:f≤1073741824
 case neg=>
  have hok1:¬M=0:=fun e=>g5 (hiff.1 e).1.2.2.2.1
  clear hiff;refine zgo2 ?_;refine zfor (α:=Int) z.length (fun k u=> [(53,true,zV k),(52,true,zV z.length),(51,true,.snap (encL intRow z)),(6,true,zV 1026),(5,true,bV false),(4,true,.ptr 2 0 0),(2,true,.ptr 1 0 0),(1,true,.ptr 0 0 0)]) (fun k u=> [(0,some (.cells 30 6 [[zV s,zV c,zV h,zV t,zV f,.snap (encL intRow z)]] true false)),(1,some (.cells 134 9 [[zV 0,zV 0,zV 0,zV 0,zV 0,zV 0,zV 0,.c (.slice none 0 0),zV 0]] true false)),(2,some (.cells 134 9 [[zV s,zV c,zV s,zV c,zV h,zV t,zV f,.snap (encL intRow z),zV u]] true false))]) (fun k m u=>3≤m∧(0≤u∧u≤c-16)∧useG (c-16) (z.drop k) u=F) ⟨100,0,⟨by omega,⟨by omega,by omega⟩,hF⟩,zholds⟩ (fun k m u hk hR=> ?_) (fun m u hR=> ?_)
  ·obtain⟨hm,⟨hu0,hu1⟩,hR⟩:=hR
   have hgk:=hg k hk;rw[drop_at 0 hk,useG_cons]at hR;generalize z.getD k 0=v at*;clear hg hF;by_cases g7:v<2
   ·rw[if_pos (.inl g7)]at hR
    subst hR;have hd:decide (M=0)=false:=by simpa using hok1
    rw[hd];clear hok1 hd;refine zgo2 ?_;exact zfin
   by_cases g8:1026<v
   ·rw[if_pos (.inr (.inl g8))]at hR
    subst hR;have hd:decide (M=0)=false:=by simpa using hok1
    rw[hd];clear hok1 hd;refine zgo2 ?_;exact zfin
   have w1':IntKind.i64.wrap (u+v)=u+v:=IntWalk.i64_in _ (by omega)
   by_cases g9:c-16<u+v
   ·rw[if_pos (.inr (.inr g9))]at hR
    subst hR;have hd:decide (M=0)=false:=by simpa using hok1
    rw[hd];clear hok1 hd;refine zgo2 ?_;exact zfin
   rw[if_neg (by omega)]at hR
   have hR3:=Lat.mk hR;clear hR;refine zgo2 ?_;exact⟨m+60,u+v,⟨by omega,⟨by omega,by omega⟩,hR3.out⟩,zholds⟩
  ·obtain⟨hm,⟨hu0,hu1⟩,hR⟩:=hR
   rw[List.drop_length]at hR;have hR2:F=(u,true):=hR.symm;clear hR hF hg;subst hR2;have hd:decide (M=0)=false:=by simpa using hok1
   rw[hd];clear hok1 hd;refine zgo2 ?_;exact zfin
 by_cases g6:(z.length:Int)≤1073741824-f
 case neg=>
  have hok1:¬M=0:=fun e=>g6 (hiff.1 e).1.2.2.2.2
  clear hiff;refine zgo2 ?_;refine zfor (α:=Int) z.length (fun k u=> [(53,true,zV k),(52,true,zV z.length),(51,true,.snap (encL intRow z)),(6,true,zV 1026),(5,true,bV false),(4,true,.ptr 2 0 0),(2,true,.ptr 1 0 0),(1,true,.ptr 0 0 0)]) (fun k u=> [(0,some (.cells 30 6 [[zV s,zV c,zV h,zV t,zV f,.snap (encL intRow z)]] true false)),(1,some (.cells 134 9 [[zV 0,zV 0,zV 0,zV 0,zV 0,zV 0,zV 0,.c (.slice none 0 0),zV 0]] true false)),(2,some (.cells 134 9 [[zV s,zV c,zV s,zV c,zV h,zV t,zV f,.snap (encL intRow z),zV u]] true false))]) (fun k m u=>3≤m∧(0≤u∧u≤c-16)∧useG (c-16) (z.drop k) u=F) ⟨100,0,⟨by omega,⟨by omega,by omega⟩,hF⟩,zholds⟩ (fun k m u hk hR=> ?_) (fun m u hR=> ?_)
  ·obtain⟨hm,⟨hu0,hu1⟩,hR⟩:=hR
   have hgk:=hg k hk;rw[drop_at 0 hk,useG_cons]at hR;generalize z.getD k 0=v at*;clear hg hF;by_cases g7:v<2
   ·rw[if_pos (.inl g7)]at hR
    subst hR;have hd:decide (M=0)=false:=by simpa using hok1
    rw[hd];clear hok1 hd;refine zgo2 ?_;exact zfin
   by_cases g8:1026<v
   ·rw[if_pos (.inr (.inl g8))]at hR
    subst hR;have hd:decide (M=0)=false:=by simpa using hok1
    rw[hd];clear hok1 hd;refine zgo2 ?_;exact zfin
   have w1':IntKind.i64.wrap (u+v)=u+v:=IntWalk.i64_in _ (by omega)
   by_cases g9:c-16<u+v
   ·rw[if_pos (.inr (.inr g9))]at hR
    subst hR;have hd:decide (M=0)=false:=by simpa using hok1
    rw[hd];clear hok1 hd;refine zgo2 ?_;exact zfin
   rw[if_neg (by omega)]at hR
   have hR3:=Lat.mk hR;clear hR;refine zgo2 ?_;exact⟨m+60,u+v,⟨by omega,⟨by omega,by omega⟩,hR3.out⟩,zholds⟩
  ·obtain⟨hm,⟨hu0,hu1⟩,hR⟩:=hR
   rw[List.drop_length]at hR;have hR2:F=(u,true):=hR.symm;clear hR hF hg;subst hR2;have hd:decide (M=0)=false:=by simpa using hok1
   rw[hd];clear hok1 hd;refine zgo2 ?_;exact zfin
 refine zgo2 ?_;refine zfor (α:=Int) z.length (fun k u=> [(53,true,zV k),(52,true,zV z.length),(51,true,.snap (encL intRow z)),(6,true,zV 1026),(5,true,bV true),(4,true,.ptr 2 0 0),(2,true,.ptr 1 0 0),(1,true,.ptr 0 0 0)]) (fun k u=> [(0,some (.cells 30 6 [[zV s,zV c,zV h,zV t,zV f,.snap (encL intRow z)]] true false)),(1,some (.cells 134 9 [[zV 0,zV 0,zV 0,zV 0,zV 0,zV 0,zV 0,.c (.slice none 0 0),zV 0]] true false)),(2,some (.cells 134 9 [[zV s,zV c,zV s,zV c,zV h,zV t,zV f,.snap (encL intRow z),zV u]] true false))]) (fun k m u=>3≤m∧(0≤u∧u≤c-16)∧useG (c-16) (z.drop k) u=F) ⟨100,0,⟨by omega,⟨by omega,by omega⟩,hF⟩,zholds⟩ (fun k m u hk hR=> ?_) (fun m u hR=> ?_)
 ·obtain⟨hm,⟨hu0,hu1⟩,hR⟩:=hR
  have hgk:=hg k hk;rw[drop_at 0 hk,useG_cons]at hR;generalize z.getD k 0=v at*;clear hg hF;by_cases g7:v<2
  ·rw[if_pos (.inl g7)]at hR
   subst hR
   have hd:decide (M=0)=false:=by
    have:¬M=0:=fun e=>by have:=(hiff.1 e).2.1;simp at this
    simpa using this
   rw[hd];clear hiff hd;refine zgo2 ?_;exact zfin
  by_cases g8:1026<v
  ·rw[if_pos (.inr (.inl g8))]at hR
   subst hR
   have hd:decide (M=0)=false:=by
    have:¬M=0:=fun e=>by have:=(hiff.1 e).2.1;simp at this
    simpa using this
   rw[hd];clear hiff hd;refine zgo2 ?_;exact zfin
  have w1':IntKind.i64.wrap (u+v)=u+v:=IntWalk.i64_in _ (by omega)
  by_cases g9:c-16<u+v
  ·rw[if_pos (.inr (.inr g9))]at hR
   subst hR
   have hd:decide (M=0)=false:=by
    have:¬M=0:=fun e=>by have:=(hiff.1 e).2.1;simp at this
    simpa using this
   rw[hd];clear hiff hd;refine zgo2 ?_;exact zfin
  rw[if_neg (by omega)]at hR
  have hR3:=Lat.mk hR;clear hR;refine zgo2 ?_;exact⟨m+60,u+v,⟨by omega,⟨by omega,by omega⟩,hR3.out⟩,zholds⟩
 ·obtain⟨hm,⟨hu0,hu1⟩,hR⟩:=hR
  rw[List.drop_length]at hR;have hR2:F=(u,true):=hR.symm;clear hR hF hg;subst hR2;have w2:IntKind.i64.wrap (h+u)=h+u:=IntWalk.i64_in _ (by omega)
  have w3:(h+u).tmod (c-16)=(h+u) % (c-16):=Int.tmod_eq_emod_of_nonneg (by omega)
  have w5:¬c-16=0:=by omega
  have w6:=Int.emod_nonneg (h+u) (show c-16≠0 by omega)
  have w7:=Int.emod_lt_of_pos (h+u) (show 0<c-16 by omega)
  have w8:IntKind.i64.wrap ((h+u) % (c-16))=(h+u) % (c-16):=IntWalk.i64_in _ (by omega)
  simp only[]at hiff;generalize (h+u) % (c-16)=R at*;by_cases g8:t=R
  ·have hd:decide (M=0)=true:=by simpa using hiff.2 ⟨⟨g2,g3,g4,g5,g6⟩,trivial,g8⟩
   rw[hd];subst g8;clear hiff hd;refine zgo2 ?_;exact zfin
  ·have hd:decide (M=0)=false:=by
    have:¬M=0:=fun e=>g8 (hiff.1 e).2.2
    simpa using this
   rw[hd];clear hiff hd;refine zgo2 ?_;exact zfin
end Go.Proofs.YtioafciifiggaaaGreatDoor
namespace Go.Proofs.YtioafciifiggaaaGreatDoor
open Go.Proofs Go.AL
set_option maxRecDepth 100000
set_option maxHeartbeats 1000000
attribute [local irreducible] endA AW aops thenA blockA hold
theorem jE_3{j:Jr}(h:¬jE j=0):jE j=3:=by
 unfold jE at h⊢;split
 ·rfl
 ·split
  ·rfl
  ·split
   ·rfl
   ·rename_i h1 h2 h3
    rw[if_neg h1,if_neg h2,if_neg h3]at h;exact absurd rfl h
theorem jE_ok{j:Jr}(h:jE j=0):validB j.start j.count=true∧0≤j.head∧j.head<j.count-16∧1≤j.first∧j.first+(j.sizes.length:Int)≤1073741824∧j.tail=(j.head+j.sizes.sum) % (j.count-16)∧j.sizes.sum≤j.count-16∧j.sizes.any badJz=false:=by
 unfold jE at h;split at h
 ·exact absurd h (by decide)
 rename_i h1;split at h
 ·exact absurd h (by decide)
 rename_i h2;split at h
 ·exact absurd h (by decide)
 rename_i h3
 have hv:validB j.start j.count=true:=by
  cases hb:validB j.start j.count with
  |true=>rfl
  |false=>exact absurd (.inl hb) h1
 exact⟨hv,by omega,by omega,by omega,by omega,Classical.not_not.1 fun e=>h3 (.inr (.inl e)),by omega,by simpa using h2⟩
theorem jchk_p(j:Jr)(hl:j.sizes.length≤100000):PC 54 [.agg (encJ j)] (zV (jE j)):=by
 refine pstart Tryz.func54 Tryz.ntmps54 (.c _) ?_;have c1:=examine_p j hl;have h3:=jE_3 (j:=j);generalize jU j=u at*;generalize jE j=M at*;unfold encJ encS at*;by_cases g:M=0
 ·subst g
  clear h3;rw[show decide ((0:Int)=0)=true from rfl]at c1
  refine zgo ?_;exact zfin
 ·have h4:=h3 g
  subst h4;clear h3 g;rw[show decide ((3:Int)=0)=false from rfl]at c1
  refine zgo ?_;exact zfin
theorem jnext_p(j:Jr)(hl:j.sizes.length≤100000):PC 35 [.agg (encJ j)] (zV (if jE j=0 then j.first+j.sizes.length else 0)):=by
 refine pstart Tryz.func35 Tryz.ntmps35 (.c _) ?_;have c1:=examine_p j hl;have hok:=jE_ok (j:=j);generalize jU j=u at*;generalize jE j=M at*;obtain⟨s,c,h,t,f,z⟩:=j;unfold encJ encS at*;simp only[]at*;by_cases g:M=0
 ·obtain⟨-,-,-,k1,k2,-⟩:=hok g
  subst g;clear hok;rw[show decide ((0:Int)=0)=true from rfl]at c1
  rw[if_pos rfl];refine zgo ?_;refine zin Tryz.func85 Tryz.ntmps85 ?_;refine zgo ?_;exact zfin
 ·rw[show decide (M=0)=false from by simpa using g]at c1
  rw[if_neg g];clear hok;refine zgo ?_;exact zfin
end Go.Proofs.YtioafciifiggaaaGreatDoor
namespace Go.Proofs.YtioafciifiggaaaGreatDoor
open Go.Proofs Go.AL
set_option maxRecDepth 100000
set_option maxHeartbeats 1000000
attribute [local irreducible] endA AW aops thenA blockA hold
attribute [local irreducible] numG
structure AsmLen(a:Asm):Prop where
 have_:a.have_.length≤100000
 seen:a.seen.length≤100000
 one:∀x∈a.have_,x.length≤100000∧∀y∈x,ByteOK y
 all:sumL a.have_≤100000
theorem asmE_3{a:Asm}(h:¬asmE a=0):asmE a=3:=by
 unfold asmE at h⊢;split
 ·rfl
 ·split
  ·rename_i h1 h2
   rw[if_neg h1,if_pos h2]at h;exact absurd rfl h
  ·rfl
theorem asmE_ok{a:Asm}(h:asmE a=0):1≤a.number∧a.number≤1073741824∧1≤a.parts∧a.parts≤65536∧0≤a.sum∧a.sum≤4294967295∧(a.have_.length:Int)=a.parts∧(a.seen.length:Int)=a.parts∧∀i,i<a.have_.length→pieceOK a i=true:=by
 unfold asmE at h;split at h
 ·exact absurd h (by decide)
 rename_i h1;split at h
 ·rename_i h2
  have a7:(a.have_.length:Int)=a.parts:=Classical.not_not.1 fun e=>h1 (.inr (.inr (.inr (.inr (.inr (.inr (.inl e)))))))
  have a8:(a.seen.length:Int)=a.parts:=Classical.not_not.1 fun e=>h1 (.inr (.inr (.inr (.inr (.inr (.inr (.inr e)))))))
  exact⟨by omega,by omega,by omega,by omega,by omega,by omega,a7,a8,fun i hi=>List.all_eq_true.1 h2 i (by simpa using hi)⟩
 ·exact absurd h (by decide)
theorem flat_ok{h:List (List Int)}(hb:∀x∈h,∀y∈x,ByteOK y):∀y∈h.flatten,ByteOK y:=fun y hy=>by
 obtain⟨x,hx,hy⟩:=List.mem_flatten.1 hy;exact hb x hx y hy
theorem bcyc_p(a:Asm)(hA:AsmLen a):PC 79 [.agg (encA a)] (.tup [.agg (encC (acyE a).1),zV (acyE a).2]):=by
 refine pstart Tryz.func79 Tryz.ntmps79 (by simp only[go_sem,encC]) ?_
 have c1:=bchk_p a (by have:=hA.have_;omega) (by have:=hA.seen;omega) (fun x hx=>by have:=(hA.one x hx).1;omega)
 have c2:=bcont_p a.seen (by have:=hA.seen;omega)
 have c3:=concat_p a.have_ hA.have_ (by have:=hA.all;omega)
 have hfo:=flat_ok fun x hx=>(hA.one x hx).2
 have hfl:=sumL_flat a.have_;have h0:=hA.all;have c4:=sum_p a.have_.flatten hfo (by omega)
 have c5:=decode_p a.have_.flatten hfo (by omega)
 have hcr:=crc_rng a.have_.flatten;have h3:=asmE_3 (a:=a);have hzc:encC zCyc=[zV 0,zV 0,zV 0,.snap (encL intRow []),.snap (encL opRow [])]:=rfl;obtain⟨M,hM⟩:∃M,acyE a=M:=⟨_,rfl⟩;rw[hM];unfold acyE at hM;clear hA hfo;obtain⟨n,p,s,h,e⟩:=a;unfold encA at*;simp only[]at*;generalize asmE ⟨n,p,s,h,e⟩=ae at*;by_cases g1:ae=0
 ·rw[if_pos g1]at hM
  subst g1;by_cases g2:e.all id=true
  ·rw[if_pos g2]at hM
   rw[g2]at c2;generalize h.flatten=F at*;by_cases g3:65536<F.length
   ·rw[if_pos g3]at hM
    subst hM;have g3':(65536:Int)<F.length:=by omega
    clear c4 c5 hcr;refine zgo ?_;exact zfin
   ·rw[if_neg g3]at hM
    have g3':¬(65536:Int)<F.length:=by omega
    have w1:IntKind.i64.wrap (crc F)=crc F:=IntWalk.i64_in _ (by omega)
    by_cases g4:crc F=s
    ·rw[if_pos g4]at hM
     subst g4;generalize decE F=D at*;obtain⟨⟨cb,cn,ct,cp,cw⟩,de⟩:=D;unfold encC at c5;simp only[]at*;by_cases g5:de=0
     ·rw[if_pos g5]at hM
      subst g5;by_cases g6:cn=n
      ·rw[if_pos g6]at hM
       subst hM g6;unfold encC;refine zgo2 ?_;exact zfin
      ·rw[if_neg g6]at hM
       subst hM;refine zgo2 ?_;exact zfin
     ·rw[if_neg g5]at hM
      subst hM;refine zgo2 ?_;exact zfin
    ·rw[if_neg g4]at hM
     subst hM;clear c5;refine zgo2 ?_;exact zfin
  ·rw[if_neg g2]at hM
   subst hM;have g2':e.all id=false:=by simpa using g2
   rw[g2']at c2;clear c3 c4 c5;refine zgo ?_;exact zfin
 ·rw[if_neg g1]at hM
  subst hM;have h3:=h3 g1;subst h3;clear c2 c3 c4 c5;refine zgo ?_;exact zfin
end Go.Proofs.YtioafciifiggaaaGreatDoor
