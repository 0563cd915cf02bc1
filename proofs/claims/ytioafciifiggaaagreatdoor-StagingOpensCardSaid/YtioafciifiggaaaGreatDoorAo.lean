/- Staging. No condition. -/
import Derived.Test.YtioafciifiggaaaGreatDoorL0
import Derived.Test.YtioafciifiggaaaGreatDoorAn
import Derived.Test.YtioafciifiggaaaGreatDoorLg
set_option linter.all false
namespace Go.Proofs.YtioafciifiggaaaGreatDoor
open Go.Proofs Go.AL
set_option maxRecDepth 100000
set_option maxHeartbeats 1000000
attribute [local irreducible] cB AW aX cZ dK hold
attribute [local irreducible] eV
theorem FG{b:List Int}(hb:∀x∈b,aV x)(h:(bM b).2=0):1<=(bM b).1.number/\(bM b).1.number<=1073741824/\0<=(bM b).1.index/\(bM b).1.index<(bM b).1.parts/\(bM b).1.parts<=65536/\0<=(bM b).1.sum/\(bM b).1.sum<=4294967295/\1<=(bM b).1.piece.length/\(bM b).1.piece.length<=4096/\(∀x∈(bM b).1.piece,aV x)/\(bM b).1.piece.length<=b.length:=by
 rw[Am]at h⊢;have k1:=mB hb;have k2:=mB k1.1;have k3:=mB k2.1;have k4:=mB k3.1;have n2:=V1 k1.1;have n4:=V1 k3.1;generalize aF (aF (aF (aF b).2.1).2.1).2.1=V at*;generalize aF (aF (aF b).2.1).2.1=Z at*;generalize aF (aF b).2.1=Y at*;generalize aF b=X at*;obtain⟨x,xr,xe⟩:=X;obtain⟨y,yr,ye⟩:=Y;obtain⟨z,zr,ze⟩:=Z;obtain⟨v,vr,ve⟩:=V;unfold Q8 at h⊢
 simp only[]at*;by_cases g1:xe=0
 ·rw[if_pos g1]at h⊢
  by_cases g2:ye=0
  ·rw[if_pos g2]at h⊢
   by_cases g3:ze=0
   ·rw[if_pos g3]at h⊢
    by_cases g4:ve=0
    ·rw[if_pos g4]at h⊢
     by_cases g5:HU x y z v vr
     ·rw[if_pos g5]at h
      exact absurd h (by decide)
     ·rw[if_neg g5]
      unfold HU at g5;have hv:vr≠[]:=fun e=>g5 (.inr (.inr (.inr (.inr (.inr (.inl e))))))
      have eZ:=BP.2 hv;have a1:¬x<1:=fun e=>g5 (.inl e)
      have a2:¬1073741824<x:=fun e=>g5 (.inr (.inl e))
      have a3:¬z<=y:=fun e=>g5 (.inr (.inr (.inl e)))
      have a4:¬65536<z:=fun e=>g5 (.inr (.inr (.inr (.inl e))))
      have a5:¬4294967295<v:=fun e=>g5 (.inr (.inr (.inr (.inr (.inl e)))))
      have a6:¬4096<vr.length:=fun e=>g5 (.inr (.inr (.inr (.inr (.inr (.inr e))))))
      exact⟨Ix.1 a1,Ix.1 a2,n2,Int.not_le.1 a3,Ix.1 a4,n4,Ix.1 a5,eZ,Nat.not_lt.1 a6,k4.1,by have:=k4.2;have:=k3.2;have:=k2.2;have:=k1.2;simp only[]at*;omega⟩
    ·rw[if_neg g4]at h;exact absurd h g4
   ·rw[if_neg g3]at h;exact absurd h g3
  ·rw[if_neg g2]at h;exact absurd h g2
 ·rw[if_neg g1]at h;exact absurd h g1
def QA:List AV:=[.c (.slice none 0 0)]
def s5(n i:Nat)(p:List Int):List (List AV):=(List.replicate n QA).set i [.snap (aA aH p)]
theorem QB(n i:Nat)(p:List Int):(s5 n i p).length=n:=by simp[s5]
theorem an3{a b:List (List AV)}(hl:a.length=b.length)(h:∀(i:Nat) r r',a[i]? =some r->b[i]? =some r'->r.length=r'.length/\∀(k:Nat) x y,r[k]? =some x->r'[k]? =some y->Wk x y):xD a b:=⟨hl,h⟩
theorem Ma(n i:Nat)(p:List Int):xD (s5 n i p) (aA bW ((List.replicate n []).set i p)):=by
 refine an3 (by rw[QB,fZ];simp) fun k r r' h1 h2=> ?_
 unfold s5 at h1;simp only[aA,iA,Yh,BO,KU]at h1 h2;by_cases hk:i=k
 ·subst hk
  by_cases hn:i<n
  ·simp[hn]at h1 h2
   subst h1 h2
   exact⟨rfl,fun j x y h3 h4=>by
    have h5:some x=some y:=by rw[<-h3,<-h4];rfl
    injection h5 with h5
    subst h5
    exact .refl _⟩
  ·simp[hn]at h1
 ·simp only[hk,if_false]at h1 h2
  by_cases hn:k<n
  ·simp[hn]at h1 h2
   subst h1 h2;refine⟨rfl,fun j x y h3 h4=> ?_⟩
   cases j with
   |zero=>
    simp only[QA,bW,mK,bB]at h3 h4;subst h3 h4;exact .nil
   |succ j=>simp[QA]at h3
  ·simp[hn]at h1
theorem Mb(G:Nat->Option aI)(k n i:Nat)(p:List Int):(s5 n i p).map (fun row=>row.map (cT G k))=s5 n i p:=by
 have h:∀row∈s5 n i p,row.map (cT G k)=row:=fun row hr=>by
  unfold s5 at hr;rcases TX hr with h|h
  ·rw[(Yj.1 h).2]
   cases k<;>simp[QA,cT]
  ·subst h
   cases k<;>simp[cT]
 rw[sL h,List.map_id']
theorem Mc(n i:Nat)(p:List Int):∀row∈s5 n i p,∀x∈row,bJ x:=fun row hr x hx=>by
 unfold s5 at hr;rcases TX hr with h|h
 ·rw[(Yj.1 h).2]at hx
  simp only[QA,fB,mR,or_false]at hx;subst hx;exact .c _
 ·subst h
  simp only[fB,mR,or_false]at hx;subst hx;exact iJ p
theorem LM(G:Nat->Option aI)(k:Nat)(l:List Bool):(aA cM l).map (fun row=>row.map (cT G k))=aA cM l:=ZC (fun a x hx=>by simp[cM]at hx;exact⟨_,hx⟩) G k l
theorem Md(n i:Nat)(p:List Int):(List.replicate n [AV.c (.slice none 0 0)]).set i [.snap (aA aH p)]=s5 n i p:=rfl
attribute [local irreducible] s5
theorem Me(b:List Int)(hb:∀x∈b,aV x)(hl:b.length<=100000):PC 71 [.snap (aA aH b)] (.aR [.agg (eL (qF b).1),zV (qF b).2]):=by
 refine uH Tryz.func71 Tryz.ntmps71 (by simp only[go_sem,eL]) ?_
 have c1:=An b hb hl;have hE:qF b=if(bM b).2=0 then(⟨(bM b).1.number,(bM b).1.parts,(bM b).1.sum,(List.replicate (bM b).1.parts.toNat []).set (bM b).1.index.toNat (bM b).1.piece,(List.replicate (bM b).1.parts.toNat false).set (bM b).1.index.toNat true⟩,0)else(lX,(bM b).2):=rfl
 have cK:=FG hb;generalize qF b=M at*;generalize bM b=R at*;obtain⟨⟨n,i,p,s,l⟩,e⟩:=R;simp only[]at*;by_cases g:e=0
 ·rw[if_pos g]at hE
  subst hE g;obtain⟨h1,h2,h3,h4,h5,h6,h7,h8,h9,cO,kC⟩:=cK rfl;obtain⟨i,rfl⟩:=sK h3;obtain⟨p,rfl⟩:=sK (by omega:0<=p)
  have jD:=Md p i l;have an4:(List.replicate p [AV.c (.slice none 0 0)])[i]? =some [AV.c (.slice none 0 0)]:=by rw[KU,if_pos (by omega)]
  have an5:(aA cM (List.replicate p false))[i]? =some [bV false]:=by rw[<-Au,KU,if_pos (by omega)]
  have hex:=fun G k=>Mb G k p i l
  have hbx:=fun G k=>LM G k ((List.replicate p false).set i true)
  have gG:(∀row,row∈s5 p i l->∀x,x∈row->bJ x)=True:=eq_true (Mc p i l);have hln:=QB p i l;have yV:=Ma p i l;have iD:(s5 p i l).take p=s5 p i l:=cR (by rw[QB];exact cA _)
  have htb:((List.replicate p false).set i true).take p=(List.replicate p false).set i true:=cR (by simp)
  have DE:(∀row,row∈aA cM ((List.replicate p false).set i true)->∀x,x∈row->bJ x)=True:=eq_true (mN _);simp only[nC]at*;clear cK h8 h9 cO kC hb;unfold eL;simp only[];refine aE ?_;refine⟨?_,?_⟩
  ·(simp(maxSteps:=2000000) (disch:=omega) only[go_sem,eU,e8,eN,eF,false_implies,implies_true, *])
  ·(simp(maxSteps:=2000000) (disch:=omega) only[go_sem,eU,e8,eN,eF,false_implies,implies_true, *];(repeat (first|exact .refl _|exact .nil|exact sP|refine iO ?_ ?_|refine DA ?_|refine DB ?_|refine C3 ?_|exact yS|exact yV|refine vV ?_ ?_)))
 ·rw[if_neg g]at hE
  subst hE;unfold eL lX;clear cK hb;refine aE ?_;exact aB
theorem an9(b:List Int)(hb:∀x∈b,aV x)(hl:b.length<=100000):PC 127 [.snap (aA aH b)] (.aR [.agg (eL (qF b).1),zV (qF b).2]):=by
 refine uH Tryz.func127 Tryz.ntmps127 (by simp only[go_sem,eL]) ?_
 have c1:=Ap b hb hl;have hE:qF b=if(bM b).2=0 then(⟨(bM b).1.number,(bM b).1.parts,(bM b).1.sum,(List.replicate (bM b).1.parts.toNat []).set (bM b).1.index.toNat (bM b).1.piece,(List.replicate (bM b).1.parts.toNat false).set (bM b).1.index.toNat true⟩,0)else(lX,(bM b).2):=rfl
 have cK:=FG hb;generalize qF b=M at*;generalize bM b=R at*;obtain⟨⟨n,i,p,s,l⟩,e⟩:=R;simp only[]at*;by_cases g:e=0
 ·rw[if_pos g]at hE
  subst hE g;obtain⟨h1,h2,h3,h4,h5,h6,h7,h8,h9,cO,kC⟩:=cK rfl;obtain⟨i,rfl⟩:=sK h3;obtain⟨p,rfl⟩:=sK (by omega:0<=p)
  have jD:=Md p i l;have an4:(List.replicate p [AV.c (.slice none 0 0)])[i]? =some [AV.c (.slice none 0 0)]:=by rw[KU,if_pos (by omega)]
  have an5:(aA cM (List.replicate p false))[i]? =some [bV false]:=by rw[<-Au,KU,if_pos (by omega)]
  have hex:=fun G k=>Mb G k p i l
  have hbx:=fun G k=>LM G k ((List.replicate p false).set i true)
  have gG:(∀row,row∈s5 p i l->∀x,x∈row->bJ x)=True:=eq_true (Mc p i l);have hln:=QB p i l;have yV:=Ma p i l;have iD:(s5 p i l).take p=s5 p i l:=cR (by rw[QB];exact cA _)
  have htb:((List.replicate p false).set i true).take p=(List.replicate p false).set i true:=cR (by simp)
  have DE:(∀row,row∈aA cM ((List.replicate p false).set i true)->∀x,x∈row->bJ x)=True:=eq_true (mN _);simp only[nC]at*;clear cK h8 h9 cO kC hb;unfold eL;simp only[];refine aE ?_;refine⟨?_,?_⟩
  ·(simp(maxSteps:=2000000) (disch:=omega) only[go_sem,eU,e8,eN,eF,false_implies,implies_true, *])
  ·(simp(maxSteps:=2000000) (disch:=omega) only[go_sem,eU,e8,eN,eF,false_implies,implies_true, *];(repeat (first|exact .refl _|exact .nil|exact sP|refine iO ?_ ?_|refine DA ?_|refine DB ?_|refine C3 ?_|exact yS|exact yV|refine vV ?_ ?_)))
 ·rw[if_neg g]at hE
  subst hE;unfold eL lX;clear cK hb;refine aE ?_;exact aB
end Go.Proofs.YtioafciifiggaaaGreatDoor
namespace Go.Proofs.YtioafciifiggaaaGreatDoor
open Go.Proofs Go.AL
set_option maxRecDepth 100000
set_option maxHeartbeats 1000000
attribute [local irreducible] cB AW aX cZ dK hold
theorem Mf(l:List Bool)(hl:l.length<=1000000):PC 201 [.snap (aA cM l),bV false] (zV (pR (l.findIdx? (fun x=> !x)))):=by
 refine aT Tryz.func201 Tryz.ntmps201 (.c _) ?_;unfold pR;refine aD ?_;have hg:=AB l;refine dP (α:=Unit) l.length (fun k _=> [(8,true,zV k),(7,true,zV l.length),(0,true,.snap (aA cM l)),(1,true,bV false)]) (fun _ _=> []) (fun k m _=>∀i,i<k->l.getD i false=true) ⟨0,(),fun i hi=>by omega,aN⟩ (fun k m _ hk hR=> ?_) (fun m _ hR=> ?_)
 ·have cV:(aA cM l)[k]? =some [bV (l.getD k false)]:=hg k hk
  cases hv:l.getD k false with
  |true=>
   have bK:aU (∀i,i<k+1->l.getD i false=true):=⟨fun i hi=>by
    by_cases fE:i=k
    ·subst fE;exact hv
    ·exact hR i (by omega)⟩
   rw[hv]at cV;clear hR hv hg;refine aD ?_;exact⟨m,(),bK.out,aN⟩
  |false=>
   have hf:l.findIdx? (fun x=> !x)=some k:=by
    rw[HA];refine⟨hk,by simp[hk]at hv;simp[hv],fun j hj=> ?_⟩
    have:=hR j hj;simp[show j<l.length by omega]at this
    simp[this]
   rw[hv]at cV;rw[hf];clear hR hv hg hf;refine aD ?_;exact aB
 ·have hf:l.findIdx? (fun x=> !x)=none:=by
   rw[HB];intro x hx;obtain⟨i,hi⟩:=wX.1 hx;obtain⟨h1,h2⟩:=dS.1 hi;have:=hR i h1;simp[h1,h2]at this;simp[this]
  rw[hf];clear hR hg hf;refine aD ?_;exact aB
theorem ao0(l:List Bool)(hl:l.length<=1000000):PC 156 [.snap (aA cM l),bV false] (bV (!(l.all id))):=by
 refine aT Tryz.func156 Tryz.ntmps156 (.c _) ?_;have c1:=Mf l hl;have h1:=ZR (fun x=> !x) l
 have h2:l.any (fun x=> !x)= !(l.all id):=by
  induction l with
  |nil=>rfl
  |cons x l ih=>simp only[Yk,KV,Bool.not_and,id];rw[<-ih (by simp at hl;omega) (Mf l (by simp at hl;omega)) (ZR _ l)]
 rw[h2]at h1;clear h2;refine aD ?_;exact aB
def jJ(h:List (List Int)):Nat:=(h.map List.length).sum
theorem Mg(h:List (List Int))(x:List Int):jJ (h++[x])=jJ h+x.length:=by simp[jJ]
theorem HX(h:List (List Int)):h.flatten.length=jJ h:=by simp[jJ,List.length_flatten]
theorem vZ{α:Type}(d:α){l:List α}{k:Nat}(h:k<l.length):l.take (k+1)=l.take k++[l.getD k d]:=by
 rw[P7 h];simp[h]
theorem V9(h:List (List Int))(k:Nat):jJ (h.take k)<=jJ h:=by
 have e:jJ (h.take k++h.drop k)=jJ (h.take k)+jJ (h.drop k):=by unfold jJ;rw[yO,Yl]
 rw[Ym]at e;omega
theorem FH(h:List (List Int))(k:Nat)(hk:k<h.length):(aA bW h)[k]? =some [.snap (aA aH (h.getD k []))]:=pQ [] hk
theorem Mh(h:List (List Int)){k:Nat}(hk:k<h.length):(h.take (k+1)).flatten=(h.take k).flatten++h.getD k []:=by
 rw[vZ [] hk];simp
theorem ao1(h:List (List Int))(hl:h.length<=100000)(hs:jJ h<=1000000):PC 157 [.snap (aA bW h)] (.snap (aA aH h.flatten)):=by
 refine aT Tryz.func157 Tryz.ntmps157 (iJ _) ?_;have hg:=FH h;refine aD ?_;refine tM h.length 0 [] (fun k=> [(11,true,zV k),(10,true,zV h.length),(9,true,.snap (aA bW h)),(3,true,zV (jJ (h.take k))),(0,true,.snap (aA bW h))]) aN (fun k m hk hm=> ?_) (fun m hm=> ?_)
 ·have k1:=hg k hk
  have k2:=V9 h (k+1);have k3:((jJ (h.take k):Nat):Int)+((h.getD k []).length:Int)=((jJ (h.take (k+1)):Nat):Int):=by rw[vZ [] hk,Mg];push_cast;rfl
  have k4:¬((jJ (h.take (k+1)):Nat):Int)<0:=by omega
  have k5:IntKind.i64.wrap ((jJ (h.take k):Nat)+((h.getD k []).length:Int))=(jJ (h.take (k+1)):Nat):=by rw[k3];exact IntWalk.i64_in _ (by omega)
  clear hg k3;refine aD ?_;exact⟨m,hm,aN⟩
 rw[l4];by_cases h0:jJ h=0
 ·have hz:h.flatten=[]:=fI (by rw[HX];exact h0)
  rw[h0,hz];refine aD ?_;refine nS Tryz.func202 Tryz.ntmps202 ?_;refine aD ?_;refine tM h.length m [] (fun k=> [(27,true,zV k),(26,true,zV h.length),(25,true,.snap (aA bW h)),(6,true,.c (.slice none 0 0))]) aN (fun k m' hk r4=> ?_) (fun m' r4=> ?_)
  ·have k1:=hg k hk
   have k2:h.getD k []=[]:=by
    have k3:=V9 h (k+1);rw[vZ [] hk,Mg]at k3;exact fI (by omega)
   rw[k2]at k1;clear hg hz k2;refine aD ?_;exact⟨m',r4,aN⟩
  ·refine aD ?_
   exact aB
 ·obtain⟨n,hn⟩:∃n,jJ h=n:=⟨_,rfl⟩
  have LN:(0:Int)<n:=by omega
  have mY:¬(n:Int)<0:=by omega
  have lY:=HX h;have eW:=fun k=>V9 h k
  rw[hn]at lY eW hs⊢;have hz9:IntKind.i64.wrap ((n:Int)-(((0:Nat):Int)-((0:Nat):Int)))=n:=by rw[IntWalk.i64_in _ (by omega)];omega
  have ZH:((0:Nat):Int)=0:=rfl;have Mi:IntKind.i64.wrap ((n:Int)-(0-0))=n:=by rw[IntWalk.i64_in _ (by omega)];omega
  have HY:(n:Int)<=9223372036854775807:=by omega
  have oC:(n:Int)*((1:Nat):Int)<=281474976710656:=by omega
  refine aD ?_;refine nS Tryz.func202 Tryz.ntmps202 ?_;refine aD ?_;refine ao2 m 0 (e:=5) (s:=1) (rows:=aA aH (List.replicate n 0)) (a:=true) (by simp(disch:=omega) only[go_sem]) ?_
  have s6:∀k,(h.take k).flatten.length<=n:=fun k=>by rw[HX];exact eW k
  refine dP (α:=Nat) h.length (fun k id=> [(27,true,zV k),(26,true,zV h.length),(25,true,.snap (aA bW h)),(6,true,.own id 0 (h.take k).flatten.length)]) (fun k id=> [(id,some (.cells 5 1 (aA aH (h.take k).flatten) true true))]) (fun k m' id=>id<m') ⟨m+100,m,by omega,aN⟩ (fun k m' id hk hR=> ?_) (fun m' id hR=> ?_)
  ·have k1:=hg k hk
   have k2:=Mh h hk;have k3:=s6 (k+1);rw[k2]at k3⊢;rw[cP]at k3;clear hg eW s6 k2 lY;generalize (h.take k).flatten=F at*;generalize h.getD k []=x at*;refine aD ?_;exact⟨m'+2,m',by omega,aN⟩
  ·rw[l4]
   clear hg eW s6 lY;refine aD ?_;exact aB
structure Jr where
 start:Int
 count:Int
 head:Int
 tail:Int
 first:Int
 cD:List Int
def eG(j:Jr):List AV:=[zV j.start,zV j.count,zV j.head,zV j.tail,zV j.first,.snap (aA bA j.cD)]
def l7:Jr:=⟨0,0,0,0,0,[]⟩
def wA(x:Int):Bool:=decide (x<2)||decide (1026<x)
def jE(j:Jr):Int:=
 if lV j.start j.count=false\/j.head<0\/j.count-16<=j.head\/j.first<1\/1073741824<j.first\/j.count-16<(j.cD.length:Int)then 3
 else if j.cD.any wA=true then 3
 else if j.count-16<j.cD.sum\/j.tail≠(j.head+j.cD.sum) % (j.count-16)\/1073741824<j.first+(j.cD.length:Int)then 3
 else 0
theorem ao3{x:Int}(h:wA x=false):2<=x/\x<=1026:=by
 unfold wA at h;simp only[Bool.or_eq_false_iff,decide_eq_false_iff_not]at h;omega
theorem Av{l:List Int}(h:l.any wA=false):∀x∈l,2<=x/\x<=1026:=fun x hx=>ao3 (by
 cases hb:wA x with
 |false=>rfl
 |true=>exact absurd (pO.2 ⟨x,hx,hb⟩) (by rw[h];decide))
theorem VA:∀(l:List Int),(∀x∈l,2<=x/\x<=1026)->2*(l.length:Int)<=l.sum/\l.sum<=1026*l.length
 |[],_=>by simp
 |x::l,h=>by
  have h1:=VA l fun y hy=>h y (by simp[hy])
  have h2:=h x (by simp)
  simp only[u9,eI]
  push_cast
  omega
theorem ao4{l:List Int}(h:∀x∈l,2<=x/\x<=1026)(hl:l.length<=100000):HK l=l.sum:=by
 have:=Kx l 0 (by decide) (fun x hx=>by have:=h x hx;omega) (by omega)
 unfold HK;rw[this];omega
theorem yW{a b:Int}(h:lV a b=true):0<=a/\20<=b/\a<=4096/\b<=4096/\a+b<=4096:=by
 unfold lV at h;simp only[jX,decide_eq_true_eq]at h;omega
end Go.Proofs.YtioafciifiggaaaGreatDoor
