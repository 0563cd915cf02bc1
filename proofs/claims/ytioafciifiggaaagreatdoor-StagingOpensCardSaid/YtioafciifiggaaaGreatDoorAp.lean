/- Staging. No condition. -/
import Derived.Test.YtioafciifiggaaaGreatDoorL0
import Derived.Test.YtioafciifiggaaaGreatDoorAo
set_option linter.all false
namespace Go.Proofs.YtioafciifiggaaaGreatDoor
open Go.Proofs Go.AL
set_option maxRecDepth 100000
set_option maxHeartbeats 8000000
attribute [local irreducible] cB AW aX cZ dK hold
def pW(n:Int):List Int->Int->Int×Bool
 |[],u=>(u,true)
 |x::l,u=>if x<2\/1026<x\/n<u+x then(u,false)else pW n l (u+x)
theorem HZ(n x:Int)(l:List Int)(u:Int):pW n (x::l) u=if x<2\/1026<x\/n<u+x then(u,false)else pW n l (u+x):=rfl
theorem VB(n:Int):∀(l:List Int) (u:Int),u<=n->((pW n l u).2=true↔(l.any wA=false/\u+l.sum<=n))/\((pW n l u).2=true->(pW n l u).1=u+l.sum)
 |[],u,h=>by simp[pW];exact h
 |x::l,u,h=>by
  rw[HZ];by_cases g:x<2\/1026<x\/n<u+x
  ·rw[if_pos g]
   refine⟨⟨fun h=>by simp at h,fun⟨h1,h2⟩=> ?_⟩,fun h=>by simp at h⟩
   exfalso;have h3:=Av h1;have h4:=h3 x (by simp)
   have h5:=VA l fun y hy=>h3 y (by simp[hy])
   rw[u9]at h2;rcases g with g|g|g<;>omega
  ·rw[if_neg g]
   have ih:=VB n l (u+x) (by omega)
   have hx:wA x=false:=by unfold wA;simp;omega
   have he:(x::l).any wA=l.any wA:=by rw[Yk,hx,Yn]
   rw[he,u9,<-Int.add_assoc];exact ih
def jU(j:Jr):Int:=if lV j.start j.count=true then(pW (j.count-16) j.cD 0).1 else 0
theorem Aw(j:Jr)(hv:lV j.start j.count=true):jE j=0↔(0<=j.head/\j.head<j.count-16/\1<=j.first/\j.first<=1073741824/\(j.cD.length:Int)<=1073741824-j.first)/\(pW (j.count-16) j.cD 0).2=true/\j.tail=(j.head+(pW (j.count-16) j.cD 0).1) % (j.count-16):=by
 have hr:=yW hv;have ht:=VB (j.count-16) j.cD 0 (by omega)
 rw[Int.zero_add]at ht;unfold jE;constructor
 ·intro h
  split at h
  ·exact absurd h (by decide)
  rename_i g1;split at h
  ·exact absurd h (by decide)
  rename_i g2;split at h
  ·exact absurd h (by decide)
  rename_i g3;have h2:j.cD.any wA=false:=by simpa using g2
  have h3:(pW (j.count-16) j.cD 0).2=true:=ht.1.2 ⟨h2,by omega⟩
  have h4:=ht.2 h3;refine⟨⟨by omega,by omega,by omega,by omega,by omega⟩,h3,?_⟩
  rw[h4];exact HF.1 fun e=>g3 (.inr (.inl e))
 ·rintro⟨⟨h1,h2,h3,h4,h5⟩,h6,h7⟩
  obtain⟨h8,h9⟩:=ht.1.1 h6;have cO:=ht.2 h6;have kC:=VA j.cD (Av h8);rw[cO]at h7
  rw[if_neg (by
   rintro(k|k|k|k|k|k)
   ·rw[hv]at k;exact absurd k (by decide)
   ·omega
   ·omega
   ·omega
   ·omega
   ·omega),if_neg (by rw[h8];decide),if_neg (by
   rintro(k|k|k)
   ·omega
   ·exact k h7
   ·omega)]
def encS(j:Jr)(u:Int):List AV:=[zV j.start,zV j.count,zV j.start,zV j.count,zV j.head,zV j.tail,zV j.first,.snap (aA bA j.cD),zV u]
theorem VC(j:Jr)(hl:j.cD.length<=100000):PC 57 [.agg (eG j)] (.aR [.agg (encS j (jU j)),bV (decide (jE j=0))]):=by
 refine aT Tryz.func57 Tryz.ntmps57 (by simp only[go_sem,encS]) ?_
 have oD:=Aw j;obtain⟨s,c,h,t,f,z⟩:=j;have c1:=ZZ s c;have c2:=Q3 4096;have e2:sQ 4096=1026:=by decide
 rw[e2]at c2;have hg:=gI z;have hu:jU ⟨s,c,h,t,f,z⟩=if lV s c=true then(pW (c-16) z 0).1 else 0:=rfl
 have AE:lV s c=false->jE ⟨s,c,h,t,f,z⟩=3:=fun e=>by unfold jE;rw[if_pos (.inl e)]
 generalize jU ⟨s,c,h,t,f,z⟩=U at*;generalize jE ⟨s,c,h,t,f,z⟩=M at*;unfold eG encS;simp only[]at*;by_cases g1:lV s c=false
 ·have hM:=AE g1
  rw[if_neg (by rw[g1];decide)]at hu
  subst hu hM;rw[g1]at c1;clear oD hg AE;refine aD ?_;exact aB
 have DF:lV s c=true:=by simpa using g1
 obtain⟨v1,v2,v3,v4,v5⟩:=yW DF;have oD:=oD DF;rw[if_pos DF]at hu;rw[DF]at c1;have c3:=ah2 s c v2 v4;have w1:IntKind.i64.wrap (c-16)=c-16:=IntWalk.i64_in _ (by omega)
 clear g1 DF AE;generalize hF:pW (c-16) z 0=F at*;subst hu;by_cases g2:0<=h
 case neg=>
  have gM:¬M=0:=fun e=>g2 (oD.1 e).1.1
  clear oD;refine aE ?_;refine dP (α:=Int) z.length (fun k u=> [(53,true,zV k),(52,true,zV z.length),(51,true,.snap (aA bA z)),(6,true,zV 1026),(5,true,bV false),(4,true,.ptr 2 0 0),(2,true,.ptr 1 0 0),(1,true,.ptr 0 0 0)]) (fun k u=> [(0,some (.cells 30 6 [[zV s,zV c,zV h,zV t,zV f,.snap (aA bA z)]] true false)),(1,some (.cells 134 9 [[zV 0,zV 0,zV 0,zV 0,zV 0,zV 0,zV 0,.c (.slice none 0 0),zV 0]] true false)),(2,some (.cells 134 9 [[zV s,zV c,zV s,zV c,zV h,zV t,zV f,.snap (aA bA z),zV u]] true false))]) (fun k m u=>3<=m/\(0<=u/\u<=c-16)/\pW (c-16) (z.drop k) u=F) ⟨100,0,⟨by omega,⟨by omega,by omega⟩,hF⟩,aN⟩ (fun k m u hk hR=> ?_) (fun m u hR=> ?_)
  ·obtain⟨hm,⟨AF,AG⟩,hR⟩:=hR
   have cV:=hg k hk;rw[tL 0 hk,HZ]at hR;generalize z.getD k 0=v at*;clear hg hF;by_cases g7:v<2
   ·rw[if_pos (.inl g7)]at hR
    subst hR;have hd:decide (M=0)=false:=by simpa using gM
    rw[hd];clear gM hd;refine aE ?_;exact aB
   by_cases g8:1026<v
   ·rw[if_pos (.inr (.inl g8))]at hR
    subst hR;have hd:decide (M=0)=false:=by simpa using gM
    rw[hd];clear gM hd;refine aE ?_;exact aB
   have QC:IntKind.i64.wrap (u+v)=u+v:=IntWalk.i64_in _ (by omega)
   by_cases g9:c-16<u+v
   ·rw[if_pos (.inr (.inr g9))]at hR
    subst hR;have hd:decide (M=0)=false:=by simpa using gM
    rw[hd];clear gM hd;refine aE ?_;exact aB
   rw[if_neg (by omega)]at hR
   have lM:=aU.mk hR;clear hR;refine aE ?_;exact⟨m+60,u+v,⟨by omega,⟨by omega,by omega⟩,lM.out⟩,aN⟩
  ·obtain⟨hm,⟨AF,AG⟩,hR⟩:=hR
   rw[wZ]at hR;have bK:F=(u,true):=hR.symm;clear hR hF hg;subst bK;have hd:decide (M=0)=false:=by simpa using gM
   rw[hd];clear gM hd;refine aE ?_;exact aB
 by_cases g3:h<c-16
 case neg=>
  have gM:¬M=0:=fun e=>g3 (oD.1 e).1.2.1
  clear oD;refine aE ?_;refine dP (α:=Int) z.length (fun k u=> [(53,true,zV k),(52,true,zV z.length),(51,true,.snap (aA bA z)),(6,true,zV 1026),(5,true,bV false),(4,true,.ptr 2 0 0),(2,true,.ptr 1 0 0),(1,true,.ptr 0 0 0)]) (fun k u=> [(0,some (.cells 30 6 [[zV s,zV c,zV h,zV t,zV f,.snap (aA bA z)]] true false)),(1,some (.cells 134 9 [[zV 0,zV 0,zV 0,zV 0,zV 0,zV 0,zV 0,.c (.slice none 0 0),zV 0]] true false)),(2,some (.cells 134 9 [[zV s,zV c,zV s,zV c,zV h,zV t,zV f,.snap (aA bA z),zV u]] true false))]) (fun k m u=>3<=m/\(0<=u/\u<=c-16)/\pW (c-16) (z.drop k) u=F) ⟨100,0,⟨by omega,⟨by omega,by omega⟩,hF⟩,aN⟩ (fun k m u hk hR=> ?_) (fun m u hR=> ?_)
  ·obtain⟨hm,⟨AF,AG⟩,hR⟩:=hR
   have cV:=hg k hk;rw[tL 0 hk,HZ]at hR;generalize z.getD k 0=v at*;clear hg hF;by_cases g7:v<2
   ·rw[if_pos (.inl g7)]at hR
    subst hR;have hd:decide (M=0)=false:=by simpa using gM
    rw[hd];clear gM hd;refine aE ?_;exact aB
   by_cases g8:1026<v
   ·rw[if_pos (.inr (.inl g8))]at hR
    subst hR;have hd:decide (M=0)=false:=by simpa using gM
    rw[hd];clear gM hd;refine aE ?_;exact aB
   have QC:IntKind.i64.wrap (u+v)=u+v:=IntWalk.i64_in _ (by omega)
   by_cases g9:c-16<u+v
   ·rw[if_pos (.inr (.inr g9))]at hR
    subst hR;have hd:decide (M=0)=false:=by simpa using gM
    rw[hd];clear gM hd;refine aE ?_;exact aB
   rw[if_neg (by omega)]at hR
   have lM:=aU.mk hR;clear hR;refine aE ?_;exact⟨m+60,u+v,⟨by omega,⟨by omega,by omega⟩,lM.out⟩,aN⟩
  ·obtain⟨hm,⟨AF,AG⟩,hR⟩:=hR
   rw[wZ]at hR;have bK:F=(u,true):=hR.symm;clear hR hF hg;subst bK;have hd:decide (M=0)=false:=by simpa using gM
   rw[hd];clear gM hd;refine aE ?_;exact aB
 by_cases g4:1<=f
 case neg=>
  have gM:¬M=0:=fun e=>g4 (oD.1 e).1.2.2.1
  clear oD;refine aE ?_;refine dP (α:=Int) z.length (fun k u=> [(53,true,zV k),(52,true,zV z.length),(51,true,.snap (aA bA z)),(6,true,zV 1026),(5,true,bV false),(4,true,.ptr 2 0 0),(2,true,.ptr 1 0 0),(1,true,.ptr 0 0 0)]) (fun k u=> [(0,some (.cells 30 6 [[zV s,zV c,zV h,zV t,zV f,.snap (aA bA z)]] true false)),(1,some (.cells 134 9 [[zV 0,zV 0,zV 0,zV 0,zV 0,zV 0,zV 0,.c (.slice none 0 0),zV 0]] true false)),(2,some (.cells 134 9 [[zV s,zV c,zV s,zV c,zV h,zV t,zV f,.snap (aA bA z),zV u]] true false))]) (fun k m u=>3<=m/\(0<=u/\u<=c-16)/\pW (c-16) (z.drop k) u=F) ⟨100,0,⟨by omega,⟨by omega,by omega⟩,hF⟩,aN⟩ (fun k m u hk hR=> ?_) (fun m u hR=> ?_)
  ·obtain⟨hm,⟨AF,AG⟩,hR⟩:=hR
   have cV:=hg k hk;rw[tL 0 hk,HZ]at hR;generalize z.getD k 0=v at*;clear hg hF;by_cases g7:v<2
   ·rw[if_pos (.inl g7)]at hR
    subst hR;have hd:decide (M=0)=false:=by simpa using gM
    rw[hd];clear gM hd;refine aE ?_;exact aB
   by_cases g8:1026<v
   ·rw[if_pos (.inr (.inl g8))]at hR
    subst hR;have hd:decide (M=0)=false:=by simpa using gM
    rw[hd];clear gM hd;refine aE ?_;exact aB
   have QC:IntKind.i64.wrap (u+v)=u+v:=IntWalk.i64_in _ (by omega)
   by_cases g9:c-16<u+v
   ·rw[if_pos (.inr (.inr g9))]at hR
    subst hR;have hd:decide (M=0)=false:=by simpa using gM
    rw[hd];clear gM hd;refine aE ?_;exact aB
   rw[if_neg (by omega)]at hR
   have lM:=aU.mk hR;clear hR;refine aE ?_;exact⟨m+60,u+v,⟨by omega,⟨by omega,by omega⟩,lM.out⟩,aN⟩
  ·obtain⟨hm,⟨AF,AG⟩,hR⟩:=hR
   rw[wZ]at hR;have bK:F=(u,true):=hR.symm;clear hR hF hg;subst bK;have hd:decide (M=0)=false:=by simpa using gM
   rw[hd];clear gM hd;refine aE ?_;exact aB
 by_cases g5:f<=1073741824
 case neg=>
  have gM:¬M=0:=fun e=>g5 (oD.1 e).1.2.2.2.1
  clear oD;refine aE ?_;refine dP (α:=Int) z.length (fun k u=> [(53,true,zV k),(52,true,zV z.length),(51,true,.snap (aA bA z)),(6,true,zV 1026),(5,true,bV false),(4,true,.ptr 2 0 0),(2,true,.ptr 1 0 0),(1,true,.ptr 0 0 0)]) (fun k u=> [(0,some (.cells 30 6 [[zV s,zV c,zV h,zV t,zV f,.snap (aA bA z)]] true false)),(1,some (.cells 134 9 [[zV 0,zV 0,zV 0,zV 0,zV 0,zV 0,zV 0,.c (.slice none 0 0),zV 0]] true false)),(2,some (.cells 134 9 [[zV s,zV c,zV s,zV c,zV h,zV t,zV f,.snap (aA bA z),zV u]] true false))]) (fun k m u=>3<=m/\(0<=u/\u<=c-16)/\pW (c-16) (z.drop k) u=F) ⟨100,0,⟨by omega,⟨by omega,by omega⟩,hF⟩,aN⟩ (fun k m u hk hR=> ?_) (fun m u hR=> ?_)
  ·obtain⟨hm,⟨AF,AG⟩,hR⟩:=hR
   have cV:=hg k hk;rw[tL 0 hk,HZ]at hR;generalize z.getD k 0=v at*;clear hg hF;by_cases g7:v<2
   ·rw[if_pos (.inl g7)]at hR
    subst hR;have hd:decide (M=0)=false:=by simpa using gM
    rw[hd];clear gM hd;refine aE ?_;exact aB
   by_cases g8:1026<v
   ·rw[if_pos (.inr (.inl g8))]at hR
    subst hR;have hd:decide (M=0)=false:=by simpa using gM
    rw[hd];clear gM hd;refine aE ?_;exact aB
   have QC:IntKind.i64.wrap (u+v)=u+v:=IntWalk.i64_in _ (by omega)
   by_cases g9:c-16<u+v
   ·rw[if_pos (.inr (.inr g9))]at hR
    subst hR;have hd:decide (M=0)=false:=by simpa using gM
    rw[hd];clear gM hd;refine aE ?_;exact aB
   rw[if_neg (by omega)]at hR
   have lM:=aU.mk hR;clear hR;refine aE ?_;exact⟨m+60,u+v,⟨by omega,⟨by omega,by omega⟩,lM.out⟩,aN⟩
  ·obtain⟨hm,⟨AF,AG⟩,hR⟩:=hR
   rw[wZ]at hR;have bK:F=(u,true):=hR.symm;clear hR hF hg;subst bK;have hd:decide (M=0)=false:=by simpa using gM
   rw[hd];clear gM hd;refine aE ?_;exact aB
 by_cases g6:(z.length:Int)<=1073741824-f
 case neg=>
  have gM:¬M=0:=fun e=>g6 (oD.1 e).1.2.2.2.2
  clear oD;refine aE ?_;refine dP (α:=Int) z.length (fun k u=> [(53,true,zV k),(52,true,zV z.length),(51,true,.snap (aA bA z)),(6,true,zV 1026),(5,true,bV false),(4,true,.ptr 2 0 0),(2,true,.ptr 1 0 0),(1,true,.ptr 0 0 0)]) (fun k u=> [(0,some (.cells 30 6 [[zV s,zV c,zV h,zV t,zV f,.snap (aA bA z)]] true false)),(1,some (.cells 134 9 [[zV 0,zV 0,zV 0,zV 0,zV 0,zV 0,zV 0,.c (.slice none 0 0),zV 0]] true false)),(2,some (.cells 134 9 [[zV s,zV c,zV s,zV c,zV h,zV t,zV f,.snap (aA bA z),zV u]] true false))]) (fun k m u=>3<=m/\(0<=u/\u<=c-16)/\pW (c-16) (z.drop k) u=F) ⟨100,0,⟨by omega,⟨by omega,by omega⟩,hF⟩,aN⟩ (fun k m u hk hR=> ?_) (fun m u hR=> ?_)
  ·obtain⟨hm,⟨AF,AG⟩,hR⟩:=hR
   have cV:=hg k hk;rw[tL 0 hk,HZ]at hR;generalize z.getD k 0=v at*;clear hg hF;by_cases g7:v<2
   ·rw[if_pos (.inl g7)]at hR
    subst hR;have hd:decide (M=0)=false:=by simpa using gM
    rw[hd];clear gM hd;refine aE ?_;exact aB
   by_cases g8:1026<v
   ·rw[if_pos (.inr (.inl g8))]at hR
    subst hR;have hd:decide (M=0)=false:=by simpa using gM
    rw[hd];clear gM hd;refine aE ?_;exact aB
   have QC:IntKind.i64.wrap (u+v)=u+v:=IntWalk.i64_in _ (by omega)
   by_cases g9:c-16<u+v
   ·rw[if_pos (.inr (.inr g9))]at hR
    subst hR;have hd:decide (M=0)=false:=by simpa using gM
    rw[hd];clear gM hd;refine aE ?_;exact aB
   rw[if_neg (by omega)]at hR
   have lM:=aU.mk hR;clear hR;refine aE ?_;exact⟨m+60,u+v,⟨by omega,⟨by omega,by omega⟩,lM.out⟩,aN⟩
  ·obtain⟨hm,⟨AF,AG⟩,hR⟩:=hR
   rw[wZ]at hR;have bK:F=(u,true):=hR.symm;clear hR hF hg;subst bK;have hd:decide (M=0)=false:=by simpa using gM
   rw[hd];clear gM hd;refine aE ?_;exact aB
 refine aE ?_;refine dP (α:=Int) z.length (fun k u=> [(53,true,zV k),(52,true,zV z.length),(51,true,.snap (aA bA z)),(6,true,zV 1026),(5,true,bV true),(4,true,.ptr 2 0 0),(2,true,.ptr 1 0 0),(1,true,.ptr 0 0 0)]) (fun k u=> [(0,some (.cells 30 6 [[zV s,zV c,zV h,zV t,zV f,.snap (aA bA z)]] true false)),(1,some (.cells 134 9 [[zV 0,zV 0,zV 0,zV 0,zV 0,zV 0,zV 0,.c (.slice none 0 0),zV 0]] true false)),(2,some (.cells 134 9 [[zV s,zV c,zV s,zV c,zV h,zV t,zV f,.snap (aA bA z),zV u]] true false))]) (fun k m u=>3<=m/\(0<=u/\u<=c-16)/\pW (c-16) (z.drop k) u=F) ⟨100,0,⟨by omega,⟨by omega,by omega⟩,hF⟩,aN⟩ (fun k m u hk hR=> ?_) (fun m u hR=> ?_)
 ·obtain⟨hm,⟨AF,AG⟩,hR⟩:=hR
  have cV:=hg k hk;rw[tL 0 hk,HZ]at hR;generalize z.getD k 0=v at*;clear hg hF;by_cases g7:v<2
  ·rw[if_pos (.inl g7)]at hR
   subst hR
   have hd:decide (M=0)=false:=by
    have:¬M=0:=fun e=>by have:=(oD.1 e).2.1;simp at this
    simpa using this
   rw[hd];clear oD hd;refine aE ?_;exact aB
  by_cases g8:1026<v
  ·rw[if_pos (.inr (.inl g8))]at hR
   subst hR
   have hd:decide (M=0)=false:=by
    have:¬M=0:=fun e=>by have:=(oD.1 e).2.1;simp at this
    simpa using this
   rw[hd];clear oD hd;refine aE ?_;exact aB
  have QC:IntKind.i64.wrap (u+v)=u+v:=IntWalk.i64_in _ (by omega)
  by_cases g9:c-16<u+v
  ·rw[if_pos (.inr (.inr g9))]at hR
   subst hR
   have hd:decide (M=0)=false:=by
    have:¬M=0:=fun e=>by have:=(oD.1 e).2.1;simp at this
    simpa using this
   rw[hd];clear oD hd;refine aE ?_;exact aB
  rw[if_neg (by omega)]at hR
  have lM:=aU.mk hR;clear hR;refine aE ?_;exact⟨m+60,u+v,⟨by omega,⟨by omega,by omega⟩,lM.out⟩,aN⟩
 ·obtain⟨hm,⟨AF,AG⟩,hR⟩:=hR
  rw[wZ]at hR;have bK:F=(u,true):=hR.symm;clear hR hF hg;subst bK;have w2:IntKind.i64.wrap (h+u)=h+u:=IntWalk.i64_in _ (by omega)
  have w3:(h+u).tmod (c-16)=(h+u) % (c-16):=KT (by omega)
  have w5:¬c-16=0:=by omega
  have w6:=HG (h+u) (show c-16≠0 by omega)
  have w7:=KW (h+u) (show 0<c-16 by omega)
  have w8:IntKind.i64.wrap ((h+u) % (c-16))=(h+u) % (c-16):=IntWalk.i64_in _ (by omega)
  simp only[]at oD;generalize (h+u) % (c-16)=R at*;by_cases g8:t=R
  ·have hd:decide (M=0)=true:=by simpa using oD.2 ⟨⟨g2,g3,g4,g5,g6⟩,trivial,g8⟩
   rw[hd];subst g8;clear oD hd;refine aE ?_;exact aB
  ·have hd:decide (M=0)=false:=by
    have:¬M=0:=fun e=>g8 (oD.1 e).2.2
    simpa using this
   rw[hd];clear oD hd;refine aE ?_;exact aB
set_option maxHeartbeats 1000000
theorem ao5{j:Jr}(h:¬jE j=0):jE j=3:=by
 unfold jE at h⊢;split
 ·rfl
 ·split
  ·rfl
  ·split
   ·rfl
   ·rename_i h1 h2 h3
    rw[if_neg h1,if_neg h2,if_neg h3]at h;exact absurd rfl h
theorem VD{j:Jr}(h:jE j=0):lV j.start j.count=true/\0<=j.head/\j.head<j.count-16/\1<=j.first/\j.first+(j.cD.length:Int)<=1073741824/\j.tail=(j.head+j.cD.sum) % (j.count-16)/\j.cD.sum<=j.count-16/\j.cD.any wA=false:=by
 unfold jE at h;split at h
 ·exact absurd h (by decide)
 rename_i h1;split at h
 ·exact absurd h (by decide)
 rename_i h2;split at h
 ·exact absurd h (by decide)
 rename_i h3
 have hv:lV j.start j.count=true:=by
  cases hb:lV j.start j.count with
  |true=>rfl
  |false=>exact absurd (.inl hb) h1
 exact⟨hv,by omega,by omega,by omega,by omega,HF.1 fun e=>h3 (.inr (.inl e)),by omega,by simpa using h2⟩
theorem ao6(j:Jr)(hl:j.cD.length<=100000):PC 54 [.agg (eG j)] (zV (jE j)):=by
 refine aT Tryz.func54 Tryz.ntmps54 (.c _) ?_;have c1:=VC j hl;have h3:=ao5 (j:=j);generalize jU j=u at*;generalize jE j=M at*;unfold eG encS at*;by_cases g:M=0
 ·subst g
  clear h3;rw[show decide ((0:Int)=0)=true from rfl]at c1
  refine aD ?_;exact aB
 ·have h4:=h3 g
  subst h4;clear h3 g;rw[show decide ((3:Int)=0)=false from rfl]at c1
  refine aD ?_;exact aB
theorem Ax(j:Jr)(hl:j.cD.length<=100000):PC 35 [.agg (eG j)] (zV (if jE j=0 then j.first+j.cD.length else 0)):=by
 refine aT Tryz.func35 Tryz.ntmps35 (.c _) ?_;have c1:=VC j hl;have cK:=VD (j:=j);generalize jU j=u at*;generalize jE j=M at*;obtain⟨s,c,h,t,f,z⟩:=j;unfold eG encS at*;simp only[]at*;by_cases g:M=0
 ·obtain⟨-,-,-,k1,k2,-⟩:=cK g
  subst g;clear cK;rw[show decide ((0:Int)=0)=true from rfl]at c1
  rw[if_pos rfl];refine aD ?_;refine nS Tryz.func85 Tryz.ntmps85 ?_;refine aD ?_;exact aB
 ·rw[show decide (M=0)=false from by simpa using g]at c1
  rw[if_neg g];clear cK;refine aD ?_;exact aB
end Go.Proofs.YtioafciifiggaaaGreatDoor
