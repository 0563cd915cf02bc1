/- Target: contracts of its functions (Ao). No condition but those named. -/
import Derived.Test.YtpaomccedbjknaaGreatDoorAn
set_option linter.all false
namespace Go.Proofs.YtpaomccedbjknaaGreatDoor
open Go.Proofs Go.AL Tryz
set_option maxRecDepth 100000
set_option maxHeartbeats 8000000
attribute [local irreducible] bT AW b8 cF dB hold
theorem My(l:List Bool)(hl:l.length<=1000000):PC 244 [.snap (aB eH l),bV false] (zV (pM (l.findIdx? (fun x=> !x)))):=by
 refine aZ func244 ntmps244 (.c _) ?_;unfold pM;refine aM ?_;have hg:=F7 l;refine dC (α:=Unit) l.length (fun k _=> [(8,true,zV k),(7,true,zV l.length),(0,true,.snap (aB eH l)),(1,true,bV false)]) (fun _ _=> []) (fun k m _=>∀i,i<k->l.getD i false=true) ⟨0,(),fun i hi=>by omega,aG⟩ (fun k m _ hk hR=> ?_) (fun m _ hR=> ?_)
 ·have bO:(aB eH l)[k]? =some [bV (l.getD k false)]:=hg k hk
  cases hv:l.getD k false with
  |true=>
   have cW:bC (∀i,i<k+1->l.getD i false=true):=⟨fun i hi=>by
    by_cases iJ:i=k
    ·subst iJ;exact hv
    ·exact hR i oM⟩
   rw[hv]at bO;clear hR hv hg;refine aM ?_;exact⟨m,(),cW.out,aG⟩
  |false=>
   have hf:l.findIdx? (fun x=> !x)=some k:=by
    rw[KG];refine⟨hk,by simp[hk]at hv;simp[hv],fun j hj=> ?_⟩
    have:=hR j hj;simp[show j<l.length by omega]at this
    simp[this]
   rw[hv]at bO;rw[hf];clear hR hv hg hf;exact zEa
 ·have hf:l.findIdx? (fun x=> !x)=none:=by
   rw[KH];intro x hx;obtain⟨i,hi⟩:=CT.1 hx;obtain⟨h1,h2⟩:=fT.1 hi;have:=hR i h1;simp[h1,h2]at this;simp[this]
  rw[hf];clear hR hg hf;exact zEa
theorem aw0(l:List Bool)(hl:l.length<=1000000):PC 202 [.snap (aB eH l),bV false] (bV (!(l.all id))):=by
 refine aZ func202 ntmps202 (.c _) ?_;have c1:=My l hl;have h1:=PG (fun x=> !x) l
 have h2:l.any (fun x=> !x)= !(l.all id):=by
  induction l with
  |nil=>rfl
  |cons x l ih=>simp only[Zj,KI,Bool.not_and,id];rw[<-ih (by simp at hl;omega) (My l (by simp at hl;omega)) (PG _ l)]
 rw[h2]at h1;clear h2;exact zEa
def nZ(h:List (List Int)):Nat:=(h.map List.length).sum
theorem Mz(h:List (List Int))(x:List Int):nZ (h++[x])=nZ h+x.length:=by simp[nZ]
theorem UN(h:List (List Int)):h.flatten.length=nZ h:=by simp[nZ,List.length_flatten]
theorem kF{α:Type}(d:α){l:List α}{k:Nat}(h:k<l.length):l.take (k+1)=l.take k++[l.getD k d]:=by
 rw[CS h];simp[h]
theorem ZV(h:List (List Int))(k:Nat):nZ (h.take k)<=nZ h:=by
 have e:nZ (h.take k++h.drop k)=nZ (h.take k)+nZ (h.drop k):=by unfold nZ;rw[CV,Y8]
 rw[Y4]at e;omega
theorem F8(h:List (List Int))(k:Nat)(hk:k<h.length):(aB bY h)[k]? =some [.snap (aB aO (h.getD k []))]:=tB [] hk
theorem aw1(h:List (List Int)){k:Nat}(hk:k<h.length):(h.take (k+1)).flatten=(h.take k).flatten++h.getD k []:=by
 rw[kF [] hk];simp
theorem aw2(h:List (List Int))(hl:h.length<=100000)(hs:nZ h<=1000000):PC 203 [.snap (aB bY h)] (.snap (aB aO h.flatten)):=by
 refine aZ func203 ntmps203 (gJ _) ?_;have hg:=F8 h;refine aM ?_;refine nS h.length 0 [] (fun k=> [(11,true,zV k),(10,true,zV h.length),(9,true,.snap (aB bY h)),(3,true,zV (nZ (h.take k))),(0,true,.snap (aB bY h))]) aG (fun k m hk hm=> ?_) (fun m hm=> ?_)
 ·have k1:=hg k hk
  have k2:=ZV h (k+1);have k3:((nZ (h.take k):Nat):Int)+((h.getD k []).length:Int)=((nZ (h.take (k+1)):Nat):Int):=by rw[kF [] hk,Mz];push_cast;rfl
  have k4:¬((nZ (h.take (k+1)):Nat):Int)<0:=oM
  have k5:IntKind.i64.wrap ((nZ (h.take k):Nat)+((h.getD k []).length:Int))=(nZ (h.take (k+1)):Nat):=by rw[k3];exact IntWalk.i64_in _ oM
  clear hg k3;refine aM ?_;exact⟨m,hm,aG⟩
 rw[gP];by_cases h0:nZ h=0
 ·have hz:h.flatten=[]:=eL (by rw[UN];exact h0)
  rw[h0,hz];refine aM ?_;refine eO func245 ntmps245 ?_;refine aM ?_;refine nS h.length m [] (fun k=> [(27,true,zV k),(26,true,zV h.length),(25,true,.snap (aB bY h)),(6,true,.c (.slice none 0 0))]) aG (fun k m' hk tI=> ?_) (fun m' tI=> ?_)
  ·have k1:=hg k hk
   have k2:h.getD k []=[]:=by
    have k3:=ZV h (k+1);rw[kF [] hk,Mz]at k3;exact eL oM
   rw[k2]at k1;clear hg hz k2;refine aM ?_;exact⟨m',tI,aG⟩
  ·refine aM ?_
   exact cR
 ·obtain⟨n,hn⟩:∃n,nZ h=n:=⟨_,rfl⟩
  have Q1:(0:Int)<n:=oM
  have uF:¬(n:Int)<0:=oM
  have lK:=UN h;have iR:=fun k=>ZV h k
  rw[hn]at lK iR hs⊢;have hz9:IntKind.i64.wrap ((n:Int)-(((0:Nat):Int)-((0:Nat):Int)))=n:=by rw[IntWalk.i64_in _ oM];omega
  have BG:((0:Nat):Int)=0:=rfl;have ZW:IntKind.i64.wrap ((n:Int)-(0-0))=n:=by rw[IntWalk.i64_in _ oM];omega
  have DH:(n:Int)<=9223372036854775807:=oM
  have pT:(n:Int)*((1:Nat):Int)<=281474976710656:=oM
  refine aM ?_;refine eO func245 ntmps245 ?_;refine aM ?_;refine Na m 0 (e:=5) (s:=1) (rows:=aB aO (List.replicate n 0)) (a:=true) (by simp(disch:=omega) only[go_sem]) ?_
  have qJ:∀k,(h.take k).flatten.length<=n:=fun k=>by rw[UN];exact iR k
  refine dC (α:=Nat) h.length (fun k id=> [(27,true,zV k),(26,true,zV h.length),(25,true,.snap (aB bY h)),(6,true,.own id 0 (h.take k).flatten.length)]) (fun k id=> [(id,some (.cells 5 1 (aB aO (h.take k).flatten) true true))]) (fun k m' id=>id<m') ⟨m+100,m,oM,aG⟩ (fun k m' id hk hR=> ?_) (fun m' id hR=> ?_)
  ·have k1:=hg k hk
   have k2:=aw1 h hk;have k3:=qJ (k+1);rw[k2]at k3⊢;rw[cU]at k3;clear hg iR qJ k2 lK;generalize (h.take k).flatten=F at*;generalize h.getD k []=x at*;refine aM ?_;exact⟨m'+2,m',oM,aG⟩
  ·rw[gP]
   clear hg iR qJ lK;exact zEa
structure Jr where
 start:Int
 count:Int
 head:Int
 tail:Int
 first:Int
 aR:List Int
def gF(j:Jr):List AV:=[zV j.start,zV j.count,zV j.head,zV j.tail,zV j.first,.snap (aB aW j.aR)]
def lB:Jr:=⟨0,0,0,0,0,[]⟩
def DL(x:Int):Bool:=decide (x<2)||decide (1026<x)
def jE(j:Jr):Int:=
 if mH j.start j.count=false\/j.head<0\/j.count-16<=j.head\/j.first<1\/1073741824<j.first\/j.count-16<(j.aR.length:Int)then 3
 else if j.aR.any DL=true then 3
 else if j.count-16<j.aR.sum\/j.tail≠(j.head+j.aR.sum) % (j.count-16)\/1073741824<j.first+(j.aR.length:Int)then 3
 else 0
theorem aw4{x:Int}(h:DL x=false):2<=x/\x<=1026:=by
 grind [DL]
theorem L6{l:List Int}(h:l.any DL=false):∀x∈l,2<=x/\x<=1026:=fun x hx=>aw4 (by
 grind)
theorem L7:∀(l:List Int),(∀x∈l,2<=x/\x<=1026)->2*(l.length:Int)<=l.sum/\l.sum<=1026*l.length
 |[],_=>by simp
 |x::l,h=>by
  have h1:=L7 l fun y hy=>h y (by simp[hy])
  have h2:=h x (by simp)
  grind
theorem L8{a b:Int}(h:mH a b=true):0<=a/\20<=b/\a<=4096/\b<=4096/\a+b<=4096:=by
 unfold mH at h
 grind
def sK(n:Int):List Int->Int->Int×Bool
 |[],u=>(u,true)
 |x::l,u=>if x<2\/1026<x\/n<u+x then(u,false)else sK n l (u+x)
theorem HU(n x:Int)(l:List Int)(u:Int):sK n (x::l) u=if x<2\/1026<x\/n<u+x then(u,false)else sK n l (u+x):=rfl
theorem UO(n:Int):∀(l:List Int) (u:Int),u<=n->((sK n l u).2=true↔(l.any DL=false/\u+l.sum<=n))/\((sK n l u).2=true->(sK n l u).1=u+l.sum)
 |[],u,h=>by grind [sK]
 |x::l,u,h=>by
  rw[HU];by_cases g:x<2\/1026<x\/n<u+x
  ·rw[if_pos g]
   refine⟨⟨fun h=>by simp at h,fun⟨h1,h2⟩=> ?_⟩,fun h=>by simp at h⟩
   exfalso;have h3:=L6 h1;have h4:=h3 x (by simp)
   have h5:=L7 l fun y hy=>h3 y (by simp[hy])
   grind
  ·rw[if_neg g]
   have ih:=UO n l (u+x) oM
   simp_all [DL,Zk]
def jU(j:Jr):Int:=if mH j.start j.count=true then(sK (j.count-16) j.aR 0).1 else 0
theorem ZX(j:Jr)(hv:mH j.start j.count=true):jE j=0↔(0<=j.head/\j.head<j.count-16/\1<=j.first/\j.first<=1073741824/\(j.aR.length:Int)<=1073741824-j.first)/\(sK (j.count-16) j.aR 0).2=true/\j.tail=(j.head+(sK (j.count-16) j.aR 0).1) % (j.count-16):=by
 have hr:=L8 hv;have ht:=UO (j.count-16) j.aR 0 oM
 rw[Int.zero_add]at ht;unfold jE;constructor
 ·grind
 ·rintro⟨⟨h1,h2,h3,h4,h5⟩,h6,h7⟩
  obtain⟨h8,h9⟩:=ht.1.1 h6;have fG:=ht.2 h6;have mR:=L7 j.aR (L6 h8)
  grind
def encS(j:Jr)(u:Int):List AV:=[zV j.start,zV j.count,zV j.start,zV j.count,zV j.head,zV j.tail,zV j.first,.snap (aB aW j.aR),zV u]
theorem UP(j:Jr)(hl:j.aR.length<=100000):PC 189 [.agg (gF j)] (.aK [.agg (encS j (jU j)),bV (decide (jE j=0))]):=by
 refine aZ func189 ntmps189 (by simp only[go_sem,encS]) ?_
 have qN:=ZX j;obtain⟨s,c,h,t,f,z⟩:=j;have c1:=Lu s c;have c2:=ap7 4096;have e2:ZH 4096=1026:=by decide
 rw[e2]at c2;have hg:=gI z;have hu:jU ⟨s,c,h,t,f,z⟩=if mH s c=true then(sK (c-16) z 0).1 else 0:=rfl
 have BR:mH s c=false->jE ⟨s,c,h,t,f,z⟩=3:=fun e=>by simp_all [jE]
 generalize jU ⟨s,c,h,t,f,z⟩=U at*;generalize jE ⟨s,c,h,t,f,z⟩=M at*;unfold gF encS;simp only[]at*;by_cases g1:mH s c=false
 ·have hM:=BR g1
  rw[if_neg (by grind)]at hu
  subst hu hM;rw[g1]at c1;clear qN hg BR;exact zEa
 have rX:mH s c=true:=by simpa using g1
 obtain⟨v1,v2,v3,v4,v5⟩:=L8 rX;have qN:=qN rX;rw[if_pos rX]at hu;rw[rX]at c1;have c3:=ap9 s c v2 v4;have w1:IntKind.i64.wrap (c-16)=c-16:=IntWalk.i64_in _ oM
 clear g1 rX BR;generalize hF:sK (c-16) z 0=F at*;subst hu;by_cases g2:0<=h
 case neg=>
  have gL:¬M=0:=fun e=>g2 (qN.1 e).1.1
  clear qN;refine aE ?_;refine dC (α:=Int) z.length (fun k u=> [(53,true,zV k),(52,true,zV z.length),(51,true,.snap (aB aW z)),(6,true,zV 1026),(5,true,bV false),(4,true,.ptr 2 0 0),(2,true,.ptr 1 0 0),(1,true,.ptr 0 0 0)]) (fun k u=> [(0,some (.cells 39 6 [[zV s,zV c,zV h,zV t,zV f,.snap (aB aW z)]] true false)),(1,some (.cells 292 9 [[zV 0,zV 0,zV 0,zV 0,zV 0,zV 0,zV 0,.c (.slice none 0 0),zV 0]] true false)),(2,some (.cells 292 9 [[zV s,zV c,zV s,zV c,zV h,zV t,zV f,.snap (aB aW z),zV u]] true false))]) (fun k m u=>3<=m/\(0<=u/\u<=c-16)/\sK (c-16) (z.drop k) u=F) ⟨100,0,⟨oM,⟨oM,oM⟩,hF⟩,aG⟩ (fun k m u hk hR=> ?_) (fun m u hR=> ?_)
  ·obtain⟨hm,⟨A9,AA⟩,hR⟩:=hR
   have bO:=hg k hk;rw[wH 0 hk,HU]at hR;generalize z.getD k 0=v at*;clear hg hF;by_cases g7:v<2
   ·rw[if_pos (.inl g7)]at hR
    subst hR;have hd:decide (M=0)=false:=by simpa using gL
    rw[hd];clear gL hd;exact zE
   by_cases g8:1026<v
   ·rw[if_pos (.inr (.inl g8))]at hR
    subst hR;have hd:decide (M=0)=false:=by simpa using gL
    rw[hd];clear gL hd;exact zE
   have Q3:IntKind.i64.wrap (u+v)=u+v:=IntWalk.i64_in _ oM
   by_cases g9:c-16<u+v
   ·rw[if_pos (.inr (.inr g9))]at hR
    subst hR;have hd:decide (M=0)=false:=by simpa using gL
    rw[hd];clear gL hd;exact zE
   rw[if_neg oM]at hR
   have pD:=bC.mk hR;clear hR;refine aE ?_;exact⟨m+60,u+v,⟨oM,⟨oM,oM⟩,pD.out⟩,aG⟩
  ·obtain⟨hm,⟨A9,AA⟩,hR⟩:=hR
   rw[v8]at hR;have cW:F=(u,true):=hR.symm;clear hR hF hg;subst cW;have hd:decide (M=0)=false:=by simpa using gL
   rw[hd];clear gL hd;exact zE
 by_cases g3:h<c-16
 case neg=>
  have gL:¬M=0:=fun e=>g3 (qN.1 e).1.2.1
  clear qN;refine aE ?_;refine dC (α:=Int) z.length (fun k u=> [(53,true,zV k),(52,true,zV z.length),(51,true,.snap (aB aW z)),(6,true,zV 1026),(5,true,bV false),(4,true,.ptr 2 0 0),(2,true,.ptr 1 0 0),(1,true,.ptr 0 0 0)]) (fun k u=> [(0,some (.cells 39 6 [[zV s,zV c,zV h,zV t,zV f,.snap (aB aW z)]] true false)),(1,some (.cells 292 9 [[zV 0,zV 0,zV 0,zV 0,zV 0,zV 0,zV 0,.c (.slice none 0 0),zV 0]] true false)),(2,some (.cells 292 9 [[zV s,zV c,zV s,zV c,zV h,zV t,zV f,.snap (aB aW z),zV u]] true false))]) (fun k m u=>3<=m/\(0<=u/\u<=c-16)/\sK (c-16) (z.drop k) u=F) ⟨100,0,⟨oM,⟨oM,oM⟩,hF⟩,aG⟩ (fun k m u hk hR=> ?_) (fun m u hR=> ?_)
  ·obtain⟨hm,⟨A9,AA⟩,hR⟩:=hR
   have bO:=hg k hk;rw[wH 0 hk,HU]at hR;generalize z.getD k 0=v at*;clear hg hF;by_cases g7:v<2
   ·rw[if_pos (.inl g7)]at hR
    subst hR;have hd:decide (M=0)=false:=by simpa using gL
    rw[hd];clear gL hd;exact zE
   by_cases g8:1026<v
   ·rw[if_pos (.inr (.inl g8))]at hR
    subst hR;have hd:decide (M=0)=false:=by simpa using gL
    rw[hd];clear gL hd;exact zE
   have Q3:IntKind.i64.wrap (u+v)=u+v:=IntWalk.i64_in _ oM
   by_cases g9:c-16<u+v
   ·rw[if_pos (.inr (.inr g9))]at hR
    subst hR;have hd:decide (M=0)=false:=by simpa using gL
    rw[hd];clear gL hd;exact zE
   rw[if_neg oM]at hR
   have pD:=bC.mk hR;clear hR;refine aE ?_;exact⟨m+60,u+v,⟨oM,⟨oM,oM⟩,pD.out⟩,aG⟩
  ·obtain⟨hm,⟨A9,AA⟩,hR⟩:=hR
   rw[v8]at hR;have cW:F=(u,true):=hR.symm;clear hR hF hg;subst cW;have hd:decide (M=0)=false:=by simpa using gL
   rw[hd];clear gL hd;exact zE
 by_cases g4:1<=f
 case neg=>
  have gL:¬M=0:=fun e=>g4 (qN.1 e).1.2.2.1
  clear qN;refine aE ?_;refine dC (α:=Int) z.length (fun k u=> [(53,true,zV k),(52,true,zV z.length),(51,true,.snap (aB aW z)),(6,true,zV 1026),(5,true,bV false),(4,true,.ptr 2 0 0),(2,true,.ptr 1 0 0),(1,true,.ptr 0 0 0)]) (fun k u=> [(0,some (.cells 39 6 [[zV s,zV c,zV h,zV t,zV f,.snap (aB aW z)]] true false)),(1,some (.cells 292 9 [[zV 0,zV 0,zV 0,zV 0,zV 0,zV 0,zV 0,.c (.slice none 0 0),zV 0]] true false)),(2,some (.cells 292 9 [[zV s,zV c,zV s,zV c,zV h,zV t,zV f,.snap (aB aW z),zV u]] true false))]) (fun k m u=>3<=m/\(0<=u/\u<=c-16)/\sK (c-16) (z.drop k) u=F) ⟨100,0,⟨oM,⟨oM,oM⟩,hF⟩,aG⟩ (fun k m u hk hR=> ?_) (fun m u hR=> ?_)
  ·obtain⟨hm,⟨A9,AA⟩,hR⟩:=hR
   have bO:=hg k hk;rw[wH 0 hk,HU]at hR;generalize z.getD k 0=v at*;clear hg hF;by_cases g7:v<2
   ·rw[if_pos (.inl g7)]at hR
    subst hR;have hd:decide (M=0)=false:=by simpa using gL
    rw[hd];clear gL hd;exact zE
   by_cases g8:1026<v
   ·rw[if_pos (.inr (.inl g8))]at hR
    subst hR;have hd:decide (M=0)=false:=by simpa using gL
    rw[hd];clear gL hd;exact zE
   have Q3:IntKind.i64.wrap (u+v)=u+v:=IntWalk.i64_in _ oM
   by_cases g9:c-16<u+v
   ·rw[if_pos (.inr (.inr g9))]at hR
    subst hR;have hd:decide (M=0)=false:=by simpa using gL
    rw[hd];clear gL hd;exact zE
   rw[if_neg oM]at hR
   have pD:=bC.mk hR;clear hR;refine aE ?_;exact⟨m+60,u+v,⟨oM,⟨oM,oM⟩,pD.out⟩,aG⟩
  ·obtain⟨hm,⟨A9,AA⟩,hR⟩:=hR
   rw[v8]at hR;have cW:F=(u,true):=hR.symm;clear hR hF hg;subst cW;have hd:decide (M=0)=false:=by simpa using gL
   rw[hd];clear gL hd;exact zE
 by_cases g5:f<=1073741824
 case neg=>
  have gL:¬M=0:=fun e=>g5 (qN.1 e).1.2.2.2.1
  clear qN;refine aE ?_;refine dC (α:=Int) z.length (fun k u=> [(53,true,zV k),(52,true,zV z.length),(51,true,.snap (aB aW z)),(6,true,zV 1026),(5,true,bV false),(4,true,.ptr 2 0 0),(2,true,.ptr 1 0 0),(1,true,.ptr 0 0 0)]) (fun k u=> [(0,some (.cells 39 6 [[zV s,zV c,zV h,zV t,zV f,.snap (aB aW z)]] true false)),(1,some (.cells 292 9 [[zV 0,zV 0,zV 0,zV 0,zV 0,zV 0,zV 0,.c (.slice none 0 0),zV 0]] true false)),(2,some (.cells 292 9 [[zV s,zV c,zV s,zV c,zV h,zV t,zV f,.snap (aB aW z),zV u]] true false))]) (fun k m u=>3<=m/\(0<=u/\u<=c-16)/\sK (c-16) (z.drop k) u=F) ⟨100,0,⟨oM,⟨oM,oM⟩,hF⟩,aG⟩ (fun k m u hk hR=> ?_) (fun m u hR=> ?_)
  ·obtain⟨hm,⟨A9,AA⟩,hR⟩:=hR
   have bO:=hg k hk;rw[wH 0 hk,HU]at hR;generalize z.getD k 0=v at*;clear hg hF;by_cases g7:v<2
   ·rw[if_pos (.inl g7)]at hR
    subst hR;have hd:decide (M=0)=false:=by simpa using gL
    rw[hd];clear gL hd;exact zE
   by_cases g8:1026<v
   ·rw[if_pos (.inr (.inl g8))]at hR
    subst hR;have hd:decide (M=0)=false:=by simpa using gL
    rw[hd];clear gL hd;exact zE
   have Q3:IntKind.i64.wrap (u+v)=u+v:=IntWalk.i64_in _ oM
   by_cases g9:c-16<u+v
   ·rw[if_pos (.inr (.inr g9))]at hR
    subst hR;have hd:decide (M=0)=false:=by simpa using gL
    rw[hd];clear gL hd;exact zE
   rw[if_neg oM]at hR
   have pD:=bC.mk hR;clear hR;refine aE ?_;exact⟨m+60,u+v,⟨oM,⟨oM,oM⟩,pD.out⟩,aG⟩
  ·obtain⟨hm,⟨A9,AA⟩,hR⟩:=hR
   rw[v8]at hR;have cW:F=(u,true):=hR.symm;clear hR hF hg;subst cW;have hd:decide (M=0)=false:=by simpa using gL
   rw[hd];clear gL hd;exact zE
 by_cases g6:(z.length:Int)<=1073741824-f
 case neg=>
  have gL:¬M=0:=fun e=>g6 (qN.1 e).1.2.2.2.2
  clear qN;refine aE ?_;refine dC (α:=Int) z.length (fun k u=> [(53,true,zV k),(52,true,zV z.length),(51,true,.snap (aB aW z)),(6,true,zV 1026),(5,true,bV false),(4,true,.ptr 2 0 0),(2,true,.ptr 1 0 0),(1,true,.ptr 0 0 0)]) (fun k u=> [(0,some (.cells 39 6 [[zV s,zV c,zV h,zV t,zV f,.snap (aB aW z)]] true false)),(1,some (.cells 292 9 [[zV 0,zV 0,zV 0,zV 0,zV 0,zV 0,zV 0,.c (.slice none 0 0),zV 0]] true false)),(2,some (.cells 292 9 [[zV s,zV c,zV s,zV c,zV h,zV t,zV f,.snap (aB aW z),zV u]] true false))]) (fun k m u=>3<=m/\(0<=u/\u<=c-16)/\sK (c-16) (z.drop k) u=F) ⟨100,0,⟨oM,⟨oM,oM⟩,hF⟩,aG⟩ (fun k m u hk hR=> ?_) (fun m u hR=> ?_)
  ·obtain⟨hm,⟨A9,AA⟩,hR⟩:=hR
   have bO:=hg k hk;rw[wH 0 hk,HU]at hR;generalize z.getD k 0=v at*;clear hg hF;by_cases g7:v<2
   ·rw[if_pos (.inl g7)]at hR
    subst hR;have hd:decide (M=0)=false:=by simpa using gL
    rw[hd];clear gL hd;exact zE
   by_cases g8:1026<v
   ·rw[if_pos (.inr (.inl g8))]at hR
    subst hR;have hd:decide (M=0)=false:=by simpa using gL
    rw[hd];clear gL hd;exact zE
   have Q3:IntKind.i64.wrap (u+v)=u+v:=IntWalk.i64_in _ oM
   by_cases g9:c-16<u+v
   ·rw[if_pos (.inr (.inr g9))]at hR
    subst hR;have hd:decide (M=0)=false:=by simpa using gL
    rw[hd];clear gL hd;exact zE
   rw[if_neg oM]at hR
   have pD:=bC.mk hR;clear hR;refine aE ?_;exact⟨m+60,u+v,⟨oM,⟨oM,oM⟩,pD.out⟩,aG⟩
  ·obtain⟨hm,⟨A9,AA⟩,hR⟩:=hR
   rw[v8]at hR;have cW:F=(u,true):=hR.symm;clear hR hF hg;subst cW;have hd:decide (M=0)=false:=by simpa using gL
   rw[hd];clear gL hd;exact zE
 refine aE ?_;refine dC (α:=Int) z.length (fun k u=> [(53,true,zV k),(52,true,zV z.length),(51,true,.snap (aB aW z)),(6,true,zV 1026),(5,true,bV true),(4,true,.ptr 2 0 0),(2,true,.ptr 1 0 0),(1,true,.ptr 0 0 0)]) (fun k u=> [(0,some (.cells 39 6 [[zV s,zV c,zV h,zV t,zV f,.snap (aB aW z)]] true false)),(1,some (.cells 292 9 [[zV 0,zV 0,zV 0,zV 0,zV 0,zV 0,zV 0,.c (.slice none 0 0),zV 0]] true false)),(2,some (.cells 292 9 [[zV s,zV c,zV s,zV c,zV h,zV t,zV f,.snap (aB aW z),zV u]] true false))]) (fun k m u=>3<=m/\(0<=u/\u<=c-16)/\sK (c-16) (z.drop k) u=F) ⟨100,0,⟨oM,⟨oM,oM⟩,hF⟩,aG⟩ (fun k m u hk hR=> ?_) (fun m u hR=> ?_)
 ·obtain⟨hm,⟨A9,AA⟩,hR⟩:=hR
  have bO:=hg k hk;rw[wH 0 hk,HU]at hR;generalize z.getD k 0=v at*;clear hg hF;by_cases g7:v<2
  ·rw[if_pos (.inl g7)]at hR
   subst hR
   have hd:decide (M=0)=false:=by
    have:¬M=0:=fun e=>by grind
    simpa using this
   rw[hd];clear qN hd;exact zE
  by_cases g8:1026<v
  ·rw[if_pos (.inr (.inl g8))]at hR
   subst hR
   have hd:decide (M=0)=false:=by
    have:¬M=0:=fun e=>by grind
    simpa using this
   rw[hd];clear qN hd;exact zE
  have Q3:IntKind.i64.wrap (u+v)=u+v:=IntWalk.i64_in _ oM
  by_cases g9:c-16<u+v
  ·rw[if_pos (.inr (.inr g9))]at hR
   subst hR
   have hd:decide (M=0)=false:=by
    have:¬M=0:=fun e=>by grind
    simpa using this
   rw[hd];clear qN hd;exact zE
  rw[if_neg oM]at hR
  have pD:=bC.mk hR;clear hR;refine aE ?_;exact⟨m+60,u+v,⟨oM,⟨oM,oM⟩,pD.out⟩,aG⟩
 ·obtain⟨hm,⟨A9,AA⟩,hR⟩:=hR
  rw[v8]at hR;have cW:F=(u,true):=hR.symm;clear hR hF hg;subst cW;have w2:IntKind.i64.wrap (h+u)=h+u:=IntWalk.i64_in _ oM
  have w3:(h+u).tmod (c-16)=(h+u) % (c-16):=bH8 oM
  have w5:¬c-16=0:=oM
  have w6:=Zl (h+u) (show c-16≠0 by omega)
  have w7:=Zm (h+u) (show 0<c-16 by omega)
  have w8:IntKind.i64.wrap ((h+u) % (c-16))=(h+u) % (c-16):=IntWalk.i64_in _ oM
  simp only[]at qN;generalize (h+u) % (c-16)=R at*;by_cases g8:t=R
  ·have hd:decide (M=0)=true:=by simpa using qN.2 ⟨⟨g2,g3,g4,g5,g6⟩,trivial,g8⟩
   rw[hd];subst g8;clear qN hd;exact zE
  ·have hd:decide (M=0)=false:=by
    have:¬M=0:=fun e=>g8 (qN.1 e).2.2
    simpa using this
   rw[hd];clear qN hd;exact zE
theorem aw5{j:Jr}(h:¬jE j=0):jE j=3:=by
 unfold jE at h⊢;split
 ·rfl
 ·split
  ·rfl
  ·split
   ·rfl
   ·rename_i h1 h2 h3
    rw[if_neg h1,if_neg h2,if_neg h3]at h;exact absurd rfl h
theorem DM{j:Jr}(h:jE j=0):mH j.start j.count=true/\0<=j.head/\j.head<j.count-16/\1<=j.first/\j.first+(j.aR.length:Int)<=1073741824/\j.tail=(j.head+j.aR.sum) % (j.count-16)/\j.aR.sum<=j.count-16/\j.aR.any DL=false:=by
 unfold jE at h;split at h
 ·exact absurd h dE
 rename_i h1;split at h
 ·exact absurd h dE
 rename_i h2;split at h
 ·exact absurd h dE
 rename_i h3
 have hv:mH j.start j.count=true:=by
  cases hb:mH j.start j.count with
  |true=>rfl
  |false=>exact absurd (.inl hb) h1
 exact⟨hv,oM,oM,oM,oM,Y5.1 fun e=>h3 (.inr (.inl e)),oM,by simpa using h2⟩
theorem aw6(j:Jr)(hl:j.aR.length<=100000):PC 187 [.agg (gF j)] (zV (jE j)):=by
 refine aZ func187 ntmps187 (.c _) ?_;have c1:=UP j hl;have h3:=aw5 (j:=j);generalize jU j=u at*;generalize jE j=M at*;unfold gF encS at*;by_cases g:M=0
 ·subst g
  clear h3;rw[show decide ((0:Int)=0)=true from rfl]at c1
  exact zEa
 ·have h4:=h3 g
  subst h4;clear h3 g;rw[show decide ((3:Int)=0)=false from rfl]at c1
  exact zEa
theorem UQ(j:Jr)(hl:j.aR.length<=100000):PC 114 [.agg (gF j)] (zV (if jE j=0 then j.first+j.aR.length else 0)):=by
 refine aZ func114 ntmps114 (.c _) ?_;have c1:=UP j hl;have eC:=DM (j:=j);generalize jU j=u at*;generalize jE j=M at*;obtain⟨s,c,h,t,f,z⟩:=j;unfold gF encS at*;simp only[]at*;by_cases g:M=0
 ·obtain⟨-,-,-,k1,k2,-⟩:=eC g
  subst g;clear eC;rw[show decide ((0:Int)=0)=true from rfl]at c1
  rw[if_pos rfl];refine aM ?_;refine eO func190 ntmps190 ?_;exact zEa
 ·rw[show decide (M=0)=false from by simpa using g]at c1
  rw[if_neg g];clear eC;exact zEa
end Go.Proofs.YtpaomccedbjknaaGreatDoor
