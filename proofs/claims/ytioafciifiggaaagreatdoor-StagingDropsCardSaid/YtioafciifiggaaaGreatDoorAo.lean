/- Staging: contracts of its functions (Ao). No condition but those named. -/
import Derived.Test.YtioafciifiggaaaGreatDoorAn
import Derived.Test.YtioafciifiggaaaGreatDoorLg
set_option linter.unusedVariables false
set_option linter.unusedSimpArgs false
namespace Go.Proofs.YtioafciifiggaaaGreatDoor
open Go.Proofs Go.AL
set_option maxRecDepth 100000
set_option maxHeartbeats 1000000
attribute [local irreducible] endA AW aops thenA blockA hold
theorem bidx_p(l:List Bool)(hl:l.length≤1000000):PC 201 [.snap (encL boolRow l),bV false] (zV (idxZ (l.findIdx? (fun x=> !x)))):=by
 refine pstart Tryz.func201 Tryz.ntmps201 (.c _) ?_;unfold idxZ;refine zgo ?_;have hg:=gBl l;refine zfor (α:=Unit) l.length (fun k _=> [(8,true,zV k),(7,true,zV l.length),(0,true,.snap (encL boolRow l)),(1,true,bV false)]) (fun _ _=> []) (fun k m _=>∀i,i<k→l.getD i false=true) ⟨0,(),fun i hi=>by omega,zholds⟩ (fun k m _ hk hR=> ?_) (fun m _ hR=> ?_)
 ·have hgk:(encL boolRow l)[k]? =some [bV (l.getD k false)]:=hg k hk
  cases hv:l.getD k false with
  |true=>
   have hR2:Lat (∀i,i<k+1→l.getD i false=true):=⟨fun i hi=>by
    by_cases hik:i=k
    ·subst hik;exact hv
    ·exact hR i (by omega)⟩
   rw[hv]at hgk;clear hR hv hg;refine zgo ?_;exact⟨m,(),hR2.out,zholds⟩
  |false=>
   have hf:l.findIdx? (fun x=> !x)=some k:=by
    rw[List.findIdx?_eq_some_iff_getElem];refine⟨hk,by simp[hk]at hv;simp[hv],fun j hj=> ?_⟩
    have:=hR j hj;simp[show j<l.length by omega]at this
    simp[this]
   rw[hv]at hgk;rw[hf];clear hR hv hg hf;refine zgo ?_;exact zfin
 ·have hf:l.findIdx? (fun x=> !x)=none:=by
   rw[List.findIdx?_eq_none_iff];intro x hx;obtain⟨i,hi⟩:=List.mem_iff_getElem?.1 hx;obtain⟨h1,h2⟩:=List.getElem?_eq_some_iff.1 hi;have:=hR i h1;simp[h1,h2]at this;simp[this]
  rw[hf];clear hR hg hf;refine zgo ?_;exact zfin
theorem bcont_p(l:List Bool)(hl:l.length≤1000000):PC 156 [.snap (encL boolRow l),bV false] (bV (!(l.all id))):=by
 refine pstart Tryz.func156 Tryz.ntmps156 (.c _) ?_;have c1:=bidx_p l hl;have h1:=idxZ_any (fun x=> !x) l
 have h2:l.any (fun x=> !x)= !(l.all id):=by
  induction l with
  |nil=>rfl
  |cons x l ih=>simp only[List.any_cons,List.all_cons,Bool.not_and,id];rw[←ih (by simp at hl;omega) (bidx_p l (by simp at hl;omega)) (idxZ_any _ l)]
 rw[h2]at h1;clear h2;refine zgo ?_;exact zfin
def sumL(h:List (List Int)):Nat:=(h.map List.length).sum
theorem sumL_snoc(h:List (List Int))(x:List Int):sumL (h++[x])=sumL h+x.length:=by simp[sumL]
theorem sumL_flat(h:List (List Int)):h.flatten.length=sumL h:=by simp[sumL,List.length_flatten]
theorem take_snoc9{α:Type}(d:α){l:List α}{k:Nat}(h:k<l.length):l.take (k+1)=l.take k++[l.getD k d]:=by
 rw[List.take_succ_eq_append_getElem h];simp[h]
theorem sumL_take(h:List (List Int))(k:Nat):sumL (h.take k)≤sumL h:=by
 have e:sumL (h.take k++h.drop k)=sumL (h.take k)+sumL (h.drop k):=by unfold sumL;rw[List.map_append,List.sum_append]
 rw[List.take_append_drop]at e;omega
theorem gHb(h:List (List Int))(k:Nat)(hk:k<h.length):(encL byteL h)[k]? =some [.snap (encL byteRow (h.getD k []))]:=encL_get [] hk
theorem flat_snoc(h:List (List Int)){k:Nat}(hk:k<h.length):(h.take (k+1)).flatten=(h.take k).flatten++h.getD k []:=by
 rw[take_snoc9 [] hk];simp
theorem concat_p(h:List (List Int))(hl:h.length≤100000)(hs:sumL h≤1000000):PC 157 [.snap (encL byteL h)] (.snap (encL byteRow h.flatten)):=by
 refine pstart Tryz.func157 Tryz.ntmps157 (encL_noId _) ?_;have hg:=gHb h;refine zgo ?_;refine zfor1 h.length 0 [] (fun k=> [(11,true,zV k),(10,true,zV h.length),(9,true,.snap (encL byteL h)),(3,true,zV (sumL (h.take k))),(0,true,.snap (encL byteL h))]) zholds (fun k m hk hm=> ?_) (fun m hm=> ?_)
 ·have k1:=hg k hk
  have k2:=sumL_take h (k+1);have k3:((sumL (h.take k):Nat):Int)+((h.getD k []).length:Int)=((sumL (h.take (k+1)):Nat):Int):=by rw[take_snoc9 [] hk,sumL_snoc];push_cast;rfl
  have k4:¬((sumL (h.take (k+1)):Nat):Int)<0:=by omega
  have k5:IntKind.i64.wrap ((sumL (h.take k):Nat)+((h.getD k []).length:Int))=(sumL (h.take (k+1)):Nat):=by rw[k3];exact IntWalk.i64_in _ (by omega)
  clear hg k3;refine zgo ?_;exact⟨m,hm,zholds⟩
 rw[List.take_length];by_cases h0:sumL h=0
 ·have hz:h.flatten=[]:=List.eq_nil_of_length_eq_zero (by rw[sumL_flat];exact h0)
  rw[h0,hz];refine zgo ?_;refine zin Tryz.func202 Tryz.ntmps202 ?_;refine zgo ?_;refine zfor1 h.length m [] (fun k=> [(27,true,zV k),(26,true,zV h.length),(25,true,.snap (encL byteL h)),(6,true,.c (.slice none 0 0))]) zholds (fun k m' hk hm'=> ?_) (fun m' hm'=> ?_)
  ·have k1:=hg k hk
   have k2:h.getD k []=[]:=by
    have k3:=sumL_take h (k+1);rw[take_snoc9 [] hk,sumL_snoc]at k3;exact List.eq_nil_of_length_eq_zero (by omega)
   rw[k2]at k1;clear hg hz k2;refine zgo ?_;exact⟨m',hm',zholds⟩
  ·refine zgo ?_
   exact zfin
 ·obtain⟨n,hn⟩:∃n,sumL h=n:=⟨_,rfl⟩
  have hn0:(0:Int)<n:=by omega
  have hn1:¬(n:Int)<0:=by omega
  have hfl:=sumL_flat h;have hst:=fun k=>sumL_take h k
  rw[hn]at hfl hst hs⊢;have hz9:IntKind.i64.wrap ((n:Int)-(((0:Nat):Int)-((0:Nat):Int)))=n:=by rw[IntWalk.i64_in _ (by omega)];omega
  have hc0:((0:Nat):Int)=0:=rfl;have hz8:IntKind.i64.wrap ((n:Int)-(0-0))=n:=by rw[IntWalk.i64_in _ (by omega)];omega
  have hq1:(n:Int)≤9223372036854775807:=by omega
  have hq2:(n:Int)*((1:Nat):Int)≤281474976710656:=by omega
  refine zgo ?_;refine zin Tryz.func202 Tryz.ntmps202 ?_;refine zgo ?_;refine aw_shrink m 0 (e:=5) (s:=1) (rows:=encL byteRow (List.replicate n 0)) (a:=true) (by simp(disch:=omega) only[go_sem]) ?_
  have hlk:∀k,(h.take k).flatten.length≤n:=fun k=>by rw[sumL_flat];exact hst k
  refine zfor (α:=Nat) h.length (fun k id=> [(27,true,zV k),(26,true,zV h.length),(25,true,.snap (encL byteL h)),(6,true,.own id 0 (h.take k).flatten.length)]) (fun k id=> [(id,some (.cells 5 1 (encL byteRow (h.take k).flatten) true true))]) (fun k m' id=>id<m') ⟨m+100,m,by omega,zholds⟩ (fun k m' id hk hR=> ?_) (fun m' id hR=> ?_)
  ·have k1:=hg k hk
   have k2:=flat_snoc h hk;have k3:=hlk (k+1);rw[k2]at k3⊢;rw[List.length_append]at k3;clear hg hst hlk k2 hfl;generalize (h.take k).flatten=F at*;generalize h.getD k []=x at*;refine zgo ?_;exact⟨m'+2,m',by omega,zholds⟩
  ·rw[List.take_length]
   clear hg hst hlk hfl;refine zgo ?_;exact zfin
end Go.Proofs.YtioafciifiggaaaGreatDoor
namespace Go.Proofs.YtioafciifiggaaaGreatDoor
open Go.Proofs Go.AL
set_option maxRecDepth 100000
set_option maxHeartbeats 1000000
attribute [local irreducible] endA AW aops thenA blockA hold
structure Jr where
 start:Int
 count:Int
 head:Int
 tail:Int
 first:Int
 sizes:List Int
def encJ(j:Jr):List AV:=[zV j.start,zV j.count,zV j.head,zV j.tail,zV j.first,.snap (encL intRow j.sizes)]
def zJr:Jr:=⟨0,0,0,0,0,[]⟩
def badJz(x:Int):Bool:=decide (x<2)||decide (1026<x)
def jE(j:Jr):Int:=
 if validB j.start j.count=false∨j.head<0∨j.count-16≤j.head∨j.first<1∨1073741824<j.first∨j.count-16<(j.sizes.length:Int)then 3
 else if j.sizes.any badJz=true then 3
 else if j.count-16<j.sizes.sum∨j.tail≠(j.head+j.sizes.sum) % (j.count-16)∨1073741824<j.first+(j.sizes.length:Int)then 3
 else 0
theorem badJz_f{x:Int}(h:badJz x=false):2≤x∧x≤1026:=by
 unfold badJz at h;simp only[Bool.or_eq_false_iff,decide_eq_false_iff_not]at h;omega
theorem any_f{l:List Int}(h:l.any badJz=false):∀x∈l,2≤x∧x≤1026:=fun x hx=>badJz_f (by
 cases hb:badJz x with
 |false=>rfl
 |true=>exact absurd (List.any_eq_true.2 ⟨x,hx,hb⟩) (by rw[h];decide))
theorem sum_len:∀(l:List Int),(∀x∈l,2≤x∧x≤1026)→2*(l.length:Int)≤l.sum∧l.sum≤1026*l.length
 |[],_=>by simp
 |x::l,h=>by
  have h1:=sum_len l fun y hy=>h y (by simp[hy])
  have h2:=h x (by simp)
  simp only[List.sum_cons,List.length_cons]
  push_cast
  omega
theorem sumW_sum{l:List Int}(h:∀x∈l,2≤x∧x≤1026)(hl:l.length≤100000):sumW l=l.sum:=by
 have:=sumW_small l 0 (by decide) (fun x hx=>by have:=h x hx;omega) (by omega)
 unfold sumW;rw[this];omega
theorem validB_rng{a b:Int}(h:validB a b=true):0≤a∧20≤b∧a≤4096∧b≤4096∧a+b≤4096:=by
 unfold validB at h;simp only[Bool.and_eq_true,decide_eq_true_eq]at h;omega
theorem rchk14_p(j:Jr)(hl:j.sizes.length≤100000):PC 90 [.agg (encJ j)] (zV (jE j)):=by
 refine pstart Tryz.func90 Tryz.ntmps90 (.c _) ?_;obtain⟨s,c,h,t,f,z⟩:=j;have c1:=rvalid_p s c;have c2:=rsize_p 4096;have e2:sizeR 4096=1026:=by decide
 rw[e2]at c2;have c3:=rsum_p z (by simp only[]at hl;omega)
 have hg:=gI z;obtain⟨M,hM⟩:∃M,jE ⟨s,c,h,t,f,z⟩=M:=⟨_,rfl⟩;rw[hM];unfold jE at hM;unfold encJ;simp only[]at*;by_cases g1:validB s c=false
 ·rw[if_pos (.inl g1)]at hM
  subst hM;rw[g1]at c1;clear hg c3 c2 e2;refine zgo ?_;exact zfin
 have g1':validB s c=true:=by simpa using g1
 obtain⟨v1,v2,v3,v4,v5⟩:=validB_rng g1';rw[g1']at c1;have w1:IntKind.i64.wrap (c-16)=c-16:=IntWalk.i64_in _ (by omega)
 by_cases g2:h<0
 ·rw[if_pos (.inr (.inl g2))]at hM
  subst hM;clear hg c3 c2 e2;refine zgo ?_;exact zfin
 by_cases g3:c-16≤h
 ·rw[if_pos (.inr (.inr (.inl g3)))]at hM
  subst hM;clear hg c3 c2 e2;refine zgo ?_;exact zfin
 by_cases g4:f<1
 ·rw[if_pos (.inr (.inr (.inr (.inl g4))))]at hM
  subst hM;clear hg c3 c2 e2;refine zgo ?_;exact zfin
 by_cases g5:1073741824<f
 ·rw[if_pos (.inr (.inr (.inr (.inr (.inl g5)))))]at hM
  subst hM;clear hg c3 c2 e2;refine zgo ?_;exact zfin
 by_cases g6:c-16<(z.length:Int)
 ·rw[if_pos (.inr (.inr (.inr (.inr (.inr g6)))))]at hM
  subst hM;clear hg c3 c2 e2;refine zgo ?_;exact zfin
 rw[if_neg (by
  rintro(k|k|k|k|k|k)
  ·exact g1 k
  ·exact g2 k
  ·exact g3 k
  ·exact g4 k
  ·exact g5 k
  ·exact g6 k)]at hM
 clear g1;refine zgo ?_;refine zfor (α:=Unit) z.length (fun k _=> [(4,true,zV k),(3,true,zV (c-16)),(1,true,.ptr 0 0 0)]) (fun _ _=> [(0,some (.cells 30 6 [[zV s,zV c,zV h,zV t,zV f,.snap (encL intRow z)]] true false))]) (fun k m _=>1≤m∧∀i,i<k→badJz (z.getD i 0)=false) ⟨100,(),⟨by omega,fun i hi=>by omega⟩,zholds⟩ (fun k m _ hk hR=> ?_) (fun m _ hR=> ?_)
 ·obtain⟨hm,hR⟩:=hR
  have hgk:=hg k hk;have hmem:=getD_mem' 0 hk;clear hg c3;by_cases g7:z.getD k 0<2
  ·rw[if_pos (List.any_eq_true.2 ⟨_,hmem,by unfold badJz;rw[decide_eq_true g7,Bool.true_or]⟩)]at hM
   subst hM;clear hR hmem;refine zgo2 ?_;exact zfin
  ·by_cases g8:1026<z.getD k 0
   ·rw[if_pos (List.any_eq_true.2 ⟨_,hmem,by unfold badJz;rw[decide_eq_true g8,Bool.or_true]⟩)]at hM
    subst hM;clear hR hmem;refine zgo2 ?_;exact zfin
   ·have hR2:Lat (∀i,i<k+1→badJz (z.getD i 0)=false):=⟨fun i hi=>by
     by_cases hik:i=k
     ·subst hik;unfold badJz;rw[decide_eq_false g7,decide_eq_false g8];rfl
     ·exact hR i (by omega)⟩
    clear hR hmem hM;refine zgo2 ?_;exact⟨m+60,(),⟨by omega,hR2.out⟩,zholds⟩
 ·obtain⟨hm,hR⟩:=hR
  have hany:z.any badJz=false:=by
   rw[List.any_eq_false];intro x hx;obtain⟨i,hi⟩:=List.mem_iff_getElem?.1 hx;obtain⟨h1,h2⟩:=List.getElem?_eq_some_iff.1 hi;have:=hR i h1;simp[h1,h2]at this;simp[this]
  rw[if_neg (by rw[hany];decide)]at hM
  have hall:=any_f hany;rw[sumW_sum hall hl]at c3;have hsl:=sum_len z hall;generalize z.sum=S at*;clear hR hall hany hg c2 e2;have w2:IntKind.i64.wrap (h+S)=h+S:=IntWalk.i64_in _ (by omega)
  have w3:(h+S).tmod (c-16)=(h+S) % (c-16):=Int.tmod_eq_emod_of_nonneg (by omega)
  have w4:IntKind.i64.wrap (f+(z.length:Int))=f+z.length:=IntWalk.i64_in _ (by omega)
  have w5:¬c-16=0:=by omega
  have w6:=Int.emod_nonneg (h+S) (show c-16≠0 by omega)
  have w7:=Int.emod_lt_of_pos (h+S) (show 0<c-16 by omega)
  have w8:IntKind.i64.wrap ((h+S) % (c-16))=(h+S) % (c-16):=IntWalk.i64_in _ (by omega)
  generalize (h+S) % (c-16)=R at*;by_cases g7:c-16<S
  ·rw[if_pos (.inl g7)]at hM
   subst hM;refine zgo2 ?_;exact zfin
  ·by_cases g8:t=R
   ·by_cases g9:1073741824<f+(z.length:Int)
    ·rw[if_pos (.inr (.inr g9))]at hM
     subst hM g8;refine zgo2 ?_;exact zfin
    ·rw[if_neg (by
      rintro(k|k|k)
      ·exact g7 k
      ·exact k g8
      ·exact g9 k)]at hM
     subst hM g8;refine zgo2 ?_;exact zfin
   ·rw[if_pos (.inr (.inl g8))]at hM
    subst hM;refine zgo2 ?_;exact zfin
theorem rnext_p(j:Jr)(hl:j.sizes.length≤100000):PC 40 [.agg (encJ j)] (zV (if jE j=0 then j.first+j.sizes.length else 0)):=by
 refine pstart Tryz.func40 Tryz.ntmps40 (.c _) ?_;have c1:=rchk14_p j hl;obtain⟨s,c,h,t,f,z⟩:=j
 have hM:jE ⟨s,c,h,t,f,z⟩=0→1≤f∧f≤1073741824:=fun e=>by
  unfold jE at e;split at e
  ·exact absurd e (by decide)
  ·rename_i g
   simp only[]at g;omega
 generalize jE ⟨s,c,h,t,f,z⟩=M at*;unfold encJ at*;simp only[]at*;by_cases g:M=0
 ·have h1:=hM g
  subst g;rw[if_pos rfl];refine zgo ?_;exact zfin
 ·rw[if_neg g]
  clear hM;refine zgo ?_;exact zfin
end Go.Proofs.YtioafciifiggaaaGreatDoor
