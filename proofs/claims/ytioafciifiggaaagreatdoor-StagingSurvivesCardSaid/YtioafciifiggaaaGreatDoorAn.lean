/- Staging. No condition. -/
import Derived.Test.YtioafciifiggaaaGreatDoorL0
import Derived.Test.YtioafciifiggaaaGreatDoorAm
import Derived.Test.YtioafciifiggaaaGreatDoorLg
set_option linter.all false
namespace Go.Proofs.YtioafciifiggaaaGreatDoor
open Go.Proofs Go.AL
set_option maxRecDepth 100000
set_option maxHeartbeats 1000000
attribute [local irreducible] cH AW b9 dR eH hold
attribute [local irreducible] jI
theorem IQ{b:List Int}(hb:∀x∈b,aV x)(h:(bZ b).2=0):1<=(bZ b).1.number/\(bZ b).1.number<=1073741824/\0<=(bZ b).1.index/\(bZ b).1.index<(bZ b).1.parts/\(bZ b).1.parts<=65536/\0<=(bZ b).1.sum/\(bZ b).1.sum<=4294967295/\1<=(bZ b).1.piece.length/\(bZ b).1.piece.length<=4096/\(∀x∈(bZ b).1.piece,aV x)/\(bZ b).1.piece.length<=b.length:=by
 rw[Yk]at h⊢;have k1:=tQ hb;have k2:=tQ k1.1;have k3:=tQ k2.1;have k4:=tQ k3.1;have n2:=Ae k1.1;have n4:=Ae k3.1;generalize aP (aP (aP (aP b).2.1).2.1).2.1=V at*;generalize aP (aP (aP b).2.1).2.1=Z at*;generalize aP (aP b).2.1=Y at*;generalize aP b=X at*;obtain⟨x,xr,xe⟩:=X;obtain⟨y,yr,ye⟩:=Y;obtain⟨z,zr,ze⟩:=Z;obtain⟨v,vr,ve⟩:=V;unfold Ah at h⊢
 simp only[]at*;by_cases g1:xe=0
 ·rw[if_pos g1]at h⊢
  by_cases g2:ye=0
  ·rw[if_pos g2]at h⊢
   by_cases g3:ze=0
   ·rw[if_pos g3]at h⊢
    by_cases g4:ve=0
    ·rw[if_pos g4]at h⊢
     by_cases g5:KX x y z v vr
     ·rw[if_pos g5]at h
      exact absurd h (by decide)
     ·rw[if_neg g5]
      unfold KX at g5;have hv:vr≠[]:=fun e=>g5 (.inr (.inr (.inr (.inr (.inr (.inl e))))))
      have fB:=O2.2 hv;have a1:¬x<1:=fun e=>g5 (.inl e)
      have a2:¬1073741824<x:=fun e=>g5 (.inr (.inl e))
      have a3:¬z<=y:=fun e=>g5 (.inr (.inr (.inl e)))
      have a4:¬65536<z:=fun e=>g5 (.inr (.inr (.inr (.inl e))))
      have a5:¬4294967295<v:=fun e=>g5 (.inr (.inr (.inr (.inr (.inl e)))))
      have a6:¬4096<vr.length:=fun e=>g5 (.inr (.inr (.inr (.inr (.inr (.inr e))))))
      exact⟨Tr.1 a1,Tr.1 a2,n2,Int.not_le.1 a3,Tr.1 a4,n4,Tr.1 a5,fB,Nat.not_lt.1 a6,k4.1,by have:=k4.2;have:=k3.2;have:=k2.2;have:=k1.2;simp only[]at*;omega⟩
    ·rw[if_neg g4]at h;exact absurd h g4
   ·rw[if_neg g3]at h;exact absurd h g3
  ·rw[if_neg g2]at h;exact absurd h g2
 ·rw[if_neg g1]at h;exact absurd h g1
def V5:List AV:=[.c (.slice none 0 0)]
def xV(n i:Nat)(p:List Int):List (List AV):=(List.replicate n V5).set i [.snap (aA aN p)]
theorem Ja(n i:Nat)(p:List Int):(xV n i p).length=n:=by simp[xV]
theorem bd8{a b:List (List AV)}(hl:a.length=b.length)(h:∀(i:Nat) r r',a[i]? =some r->b[i]? =some r'->r.length=r'.length/\∀(k:Nat) x y,r[k]? =some x->r'[k]? =some y->Wk x y):xJ a b:=⟨hl,h⟩
theorem bd9(n i:Nat)(p:List Int):xJ (xV n i p) (aA dF ((List.replicate n []).set i p)):=by
 refine bd8 (by rw[Ja,mH];simp) fun k r r' h1 h2=> ?_
 unfold xV at h1;simp only[aA,gE,aF9,s6,O8]at h1 h2;by_cases hk:i=k
 ·subst hk
  by_cases hn:i<n
  ·simp[hn]at h1 h2
   subst h1 h2
   exact⟨rfl,fun j x y h3 h4=>by
    have h5:some x=some y:=by rw[<-h3,<-h4];rfl
    injection h5 with h5
    subst h5
    exact .refl _⟩
  ·simp[hn]at h1
 ·simp only[hk,if_false]at h1 h2
  by_cases hn:k<n
  ·simp[hn]at h1 h2
   subst h1 h2;refine⟨rfl,fun j x y h3 h4=> ?_⟩
   cases j with
   |zero=>
    simp only[V5,dF,nE,bC]at h3 h4;subst h3 h4;exact .nil
   |succ j=>simp[V5]at h3
  ·simp[hn]at h1
theorem be0(G:Nat->Option aI)(k n i:Nat)(p:List Int):(xV n i p).map (fun row=>row.map (cR G k))=xV n i p:=by
 have h:∀row∈xV n i p,row.map (cR G k)=row:=fun row hr=>by
  unfold xV at hr;rcases O4 hr with h|h
  ·rw[(I2.1 h).2]
   cases k<;>simp[V5,cR]
  ·subst h
   cases k<;>simp[cR]
 rw[s7 h,List.map_id']
theorem be1(n i:Nat)(p:List Int):∀row∈xV n i p,∀x∈row,bK x:=fun row hr x hx=>by
 unfold xV at hr;rcases O4 hr with h|h
 ·rw[(I2.1 h).2]at hx
  simp only[V5,cG,jF,or_false]at hx;subst hx;exact .c _
 ·subst h
  simp only[cG,jF,or_false]at hx;subst hx;exact kL p
theorem Jb(G:Nat->Option aI)(k:Nat)(l:List Bool):(aA eJ l).map (fun row=>row.map (cR G k))=aA eJ l:=Gk (fun a x hx=>by simp[eJ]at hx;exact⟨_,hx⟩) G k l
theorem be2(n i:Nat)(p:List Int):(List.replicate n [AV.c (.slice none 0 0)]).set i [.snap (aA aN p)]=xV n i p:=rfl
attribute [local irreducible] xV
theorem Yl(b:List Int)(hb:∀x∈b,aV x)(hl:b.length<=100000):PC 71 [.snap (aA aN b)] (.aU [.agg (iZ (lW b).1),zV (lW b).2]):=by
 refine BI Tryz.func71 Tryz.ntmps71 (by simp only[go_sem,iZ]) ?_
 have c1:=Iw b hb hl;have hE:lW b=if(bZ b).2=0 then(⟨(bZ b).1.number,(bZ b).1.parts,(bZ b).1.sum,(List.replicate (bZ b).1.parts.toNat []).set (bZ b).1.index.toNat (bZ b).1.piece,(List.replicate (bZ b).1.parts.toNat false).set (bZ b).1.index.toNat true⟩,0)else(rL,(bZ b).2):=rfl
 have dO:=IQ hb;generalize lW b=M at*;generalize bZ b=R at*;obtain⟨⟨n,i,p,s,l⟩,e⟩:=R;simp only[]at*;by_cases g:e=0
 ·rw[if_pos g]at hE
  subst hE g;obtain⟨h1,h2,h3,h4,h5,h6,h7,h8,h9,dY,oC⟩:=dO rfl;obtain⟨i,rfl⟩:=BA h3;obtain⟨p,rfl⟩:=BA (by omega:0<=p)
  have mJ:=be2 p i l;have cC4:(List.replicate p [AV.c (.slice none 0 0)])[i]? =some [AV.c (.slice none 0 0)]:=by rw[O8,if_pos (by omega)]
  have cC5:(aA eJ (List.replicate p false))[i]? =some [bV false]:=by rw[<-Ym,O8,if_pos (by omega)]
  have hex:=fun G k=>be0 G k p i l
  have hbx:=fun G k=>Jb G k ((List.replicate p false).set i true)
  have eY:(∀row,row∈xV p i l->∀x,x∈row->bK x)=True:=eq_true (be1 p i l);have hln:=Ja p i l;have A6:=bd9 p i l;have iI:(xV p i l).take p=xV p i l:=eD (by rw[Ja];exact cE _)
  have htb:((List.replicate p false).set i true).take p=(List.replicate p false).set i true:=eD (by simp)
  have A7:(∀row,row∈aA eJ ((List.replicate p false).set i true)->∀x,x∈row->bK x)=True:=eq_true (oB _);simp only[mE]at*;clear dO h8 h9 dY oC hb;unfold iZ;simp only[];refine aD ?_;refine⟨?_,?_⟩
  ·(simp(maxSteps:=2000000) (disch:=omega) only[go_sem,fQ,eV,fN,fC,false_implies,implies_true, *])
  ·(simp(maxSteps:=2000000) (disch:=omega) only[go_sem,fQ,eV,fN,fC,false_implies,implies_true, *];(repeat (first|exact .refl _|exact .nil|exact sD|refine jH ?_ ?_|refine KL ?_|refine BJ ?_|refine IC ?_|exact CY|exact A6|refine yN ?_ ?_)))
 ·rw[if_neg g]at hE
  subst hE;unfold iZ rL;clear dO hb;refine aD ?_;exact aC
end Go.Proofs.YtioafciifiggaaaGreatDoor
namespace Go.Proofs.YtioafciifiggaaaGreatDoor
open Go.Proofs Go.AL
set_option maxRecDepth 100000
set_option maxHeartbeats 1000000
attribute [local irreducible] cH AW b9 dR eH hold
theorem Yn(l:List Bool)(hl:l.length<=1000000):PC 201 [.snap (aA eJ l),bV false] (zV (sB (l.findIdx? (fun x=> !x)))):=by
 refine bI Tryz.func201 Tryz.ntmps201 (.c _) ?_;unfold sB;refine aG ?_;have hg:=IP l;refine fK (α:=Unit) l.length (fun k _=> [(8,true,zV k),(7,true,zV l.length),(0,true,.snap (aA eJ l)),(1,true,bV false)]) (fun _ _=> []) (fun k m _=>∀i,i<k->l.getD i false=true) ⟨0,(),fun i hi=>by omega,aT⟩ (fun k m _ hk hR=> ?_) (fun m _ hR=> ?_)
 ·have fD:(aA eJ l)[k]? =some [bV (l.getD k false)]:=hg k hk
  cases hv:l.getD k false with
  |true=>
   have cP:bB (∀i,i<k+1->l.getD i false=true):=⟨fun i hi=>by
    by_cases iH:i=k
    ·subst iH;exact hv
    ·exact hR i (by omega)⟩
   rw[hv]at fD;clear hR hv hg;refine aG ?_;exact⟨m,(),cP.out,aT⟩
  |false=>
   have hf:l.findIdx? (fun x=> !x)=some k:=by
    rw[K8];refine⟨hk,by simp[hk]at hv;simp[hv],fun j hj=> ?_⟩
    have:=hR j hj;simp[show j<l.length by omega]at this
    simp[this]
   rw[hv]at fD;rw[hf];clear hR hv hg hf;refine aG ?_;exact aC
 ·have hf:l.findIdx? (fun x=> !x)=none:=by
   rw[K9];intro x hx;obtain⟨i,hi⟩:=FY.1 hx;obtain⟨h1,h2⟩:=dV.1 hi;have:=hR i h1;simp[h1,h2]at this;simp[this]
  rw[hf];clear hR hg hf;refine aG ?_;exact aC
theorem be3(l:List Bool)(hl:l.length<=1000000):PC 156 [.snap (aA eJ l),bV false] (bV (!(l.all id))):=by
 refine bI Tryz.func156 Tryz.ntmps156 (.c _) ?_;have c1:=Yn l hl;have h1:=Hi (fun x=> !x) l
 have h2:l.any (fun x=> !x)= !(l.all id):=by
  induction l with
  |nil=>rfl
  |cons x l ih=>simp only[Ts,I4,Bool.not_and,id];rw[<-ih (by simp at hl;omega) (Yn l (by simp at hl;omega)) (Hi _ l)]
 rw[h2]at h1;clear h2;refine aG ?_;exact aC
def fO(h:List (List Int)):Nat:=(h.map List.length).sum
theorem Yo(h:List (List Int))(x:List Int):fO (h++[x])=fO h+x.length:=by simp[fO]
theorem Am(h:List (List Int)):h.flatten.length=fO h:=by simp[fO,List.length_flatten]
theorem A8{α:Type}(d:α){l:List α}{k:Nat}(h:k<l.length):l.take (k+1)=l.take k++[l.getD k d]:=by
 rw[I0 h];simp[h]
theorem Jc(h:List (List Int))(k:Nat):fO (h.take k)<=fO h:=by
 have e:fO (h.take k++h.drop k)=fO (h.take k)+fO (h.drop k):=by unfold fO;rw[vY,TJ]
 rw[yJ]at e;omega
theorem KZ(h:List (List Int))(k:Nat)(hk:k<h.length):(aA dF h)[k]? =some [.snap (aA aN (h.getD k []))]:=pD [] hk
theorem be4(h:List (List Int)){k:Nat}(hk:k<h.length):(h.take (k+1)).flatten=(h.take k).flatten++h.getD k []:=by
 rw[A8 [] hk];simp
theorem be5(h:List (List Int))(hl:h.length<=100000)(hs:fO h<=1000000):PC 157 [.snap (aA dF h)] (.snap (aA aN h.flatten)):=by
 refine bI Tryz.func157 Tryz.ntmps157 (kL _) ?_;have hg:=KZ h;refine aG ?_;refine zS h.length 0 [] (fun k=> [(11,true,zV k),(10,true,zV h.length),(9,true,.snap (aA dF h)),(3,true,zV (fO (h.take k))),(0,true,.snap (aA dF h))]) aT (fun k m hk hm=> ?_) (fun m hm=> ?_)
 ·have k1:=hg k hk
  have k2:=Jc h (k+1);have k3:((fO (h.take k):Nat):Int)+((h.getD k []).length:Int)=((fO (h.take (k+1)):Nat):Int):=by rw[A8 [] hk,Yo];push_cast;rfl
  have k4:¬((fO (h.take (k+1)):Nat):Int)<0:=by omega
  have k5:IntKind.i64.wrap ((fO (h.take k):Nat)+((h.getD k []).length:Int))=(fO (h.take (k+1)):Nat):=by rw[k3];exact IntWalk.i64_in _ (by omega)
  clear hg k3;refine aG ?_;exact⟨m,hm,aT⟩
 rw[lI];by_cases h0:fO h=0
 ·have hz:h.flatten=[]:=jQ (by rw[Am];exact h0)
  rw[h0,hz];refine aG ?_;refine kA Tryz.func202 Tryz.ntmps202 ?_;refine aG ?_;refine zS h.length m [] (fun k=> [(27,true,zV k),(26,true,zV h.length),(25,true,.snap (aA dF h)),(6,true,.c (.slice none 0 0))]) aT (fun k m' hk sU=> ?_) (fun m' sU=> ?_)
  ·have k1:=hg k hk
   have k2:h.getD k []=[]:=by
    have k3:=Jc h (k+1);rw[A8 [] hk,Yo]at k3;exact jQ (by omega)
   rw[k2]at k1;clear hg hz k2;refine aG ?_;exact⟨m',sU,aT⟩
  ·refine aG ?_
   exact aC
 ·obtain⟨n,hn⟩:∃n,fO h=n:=⟨_,rfl⟩
  have UK:(0:Int)<n:=by omega
  have sI:¬(n:Int)<0:=by omega
  have oI:=Am h;have eG:=fun k=>Jc h k
  rw[hn]at oI eG hs⊢;have hz9:IntKind.i64.wrap ((n:Int)-(((0:Nat):Int)-((0:Nat):Int)))=n:=by rw[IntWalk.i64_in _ (by omega)];omega
  have ON:((0:Nat):Int)=0:=rfl;have Jd:IntKind.i64.wrap ((n:Int)-(0-0))=n:=by rw[IntWalk.i64_in _ (by omega)];omega
  have zY:(n:Int)<=9223372036854775807:=by omega
  have oH:(n:Int)*((1:Nat):Int)<=281474976710656:=by omega
  refine aG ?_;refine kA Tryz.func202 Tryz.ntmps202 ?_;refine aG ?_;refine be6 m 0 (e:=5) (s:=1) (rows:=aA aN (List.replicate n 0)) (a:=true) (by simp(disch:=omega) only[go_sem]) ?_
  have yQ:∀k,(h.take k).flatten.length<=n:=fun k=>by rw[Am];exact eG k
  refine fK (α:=Nat) h.length (fun k id=> [(27,true,zV k),(26,true,zV h.length),(25,true,.snap (aA dF h)),(6,true,.own id 0 (h.take k).flatten.length)]) (fun k id=> [(id,some (.cells 5 1 (aA aN (h.take k).flatten) true true))]) (fun k m' id=>id<m') ⟨m+100,m,by omega,aT⟩ (fun k m' id hk hR=> ?_) (fun m' id hR=> ?_)
  ·have k1:=hg k hk
   have k2:=be4 h hk;have k3:=yQ (k+1);rw[k2]at k3⊢;rw[bP]at k3;clear hg eG yQ k2 oI;generalize (h.take k).flatten=F at*;generalize h.getD k []=x at*;refine aG ?_;exact⟨m'+2,m',by omega,aT⟩
  ·rw[lI]
   clear hg eG yQ oI;refine aG ?_;exact aC
structure Jr where
 start:Int
 count:Int
 head:Int
 tail:Int
 first:Int
 b8:List Int
def eZ(j:Jr):List AV:=[zV j.start,zV j.count,zV j.head,zV j.tail,zV j.first,.snap (aA bD j.b8)]
def j9:Jr:=⟨0,0,0,0,0,[]⟩
def vK(x:Int):Bool:=decide (x<2)||decide (1026<x)
def jE(j:Jr):Int:=
 if qY j.start j.count=false\/j.head<0\/j.count-16<=j.head\/j.first<1\/1073741824<j.first\/j.count-16<(j.b8.length:Int)then 3
 else if j.b8.any vK=true then 3
 else if j.count-16<j.b8.sum\/j.tail≠(j.head+j.b8.sum) % (j.count-16)\/1073741824<j.first+(j.b8.length:Int)then 3
 else 0
theorem be7{x:Int}(h:vK x=false):2<=x/\x<=1026:=by
 unfold vK at h;simp only[Bool.or_eq_false_iff,decide_eq_false_iff_not]at h;omega
theorem GM{l:List Int}(h:l.any vK=false):∀x∈l,2<=x/\x<=1026:=fun x hx=>be7 (by
 cases hb:vK x with
 |false=>rfl
 |true=>exact absurd (vX.2 ⟨x,hx,hb⟩) (by rw[h];decide))
theorem GN:∀(l:List Int),(∀x∈l,2<=x/\x<=1026)->2*(l.length:Int)<=l.sum/\l.sum<=1026*l.length
 |[],_=>by simp
 |x::l,h=>by
  have h1:=GN l fun y hy=>h y (by simp[hy])
  have h2:=h x (by simp)
  simp only[qP,dK]
  push_cast
  omega
theorem IS{a b:Int}(h:qY a b=true):0<=a/\20<=b/\a<=4096/\b<=4096/\a+b<=4096:=by
 unfold qY at h;simp only[k6,decide_eq_true_eq]at h;omega
end Go.Proofs.YtioafciifiggaaaGreatDoor
