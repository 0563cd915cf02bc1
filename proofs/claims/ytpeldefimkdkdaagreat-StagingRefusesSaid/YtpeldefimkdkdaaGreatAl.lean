/- Staging: contracts of its functions (Al). No condition but those named. -/
import Derived.Test.YtpeldefimkdkdaaGreatAk
import Derived.Test.YtpeldefimkdkdaaGreatLg
set_option linter.unusedVariables false
set_option linter.unusedSimpArgs false
namespace Go.Proofs.YtpeldefimkdkdaaGreat
open Go.Proofs Go.AL
set_option maxRecDepth 100000
set_option maxHeartbeats 1000000
attribute [local irreducible] endA AW aops thenA blockA hold
attribute [local irreducible] numG
theorem parE_ok{b:List Int}(hb:∀x∈b,ByteOK x)(h:(parE b).2=0):1≤(parE b).1.number∧(parE b).1.number≤1073741824∧0≤(parE b).1.index∧(parE b).1.index<(parE b).1.parts∧(parE b).1.parts≤65536∧0≤(parE b).1.sum∧(parE b).1.sum≤4294967295∧1≤(parE b).1.piece.length∧(parE b).1.piece.length≤4096∧(∀x∈(parE b).1.piece,ByteOK x)∧(parE b).1.piece.length≤b.length:=by
 rw[parE_eq]at h⊢;have k1:=intE_ok hb;have k2:=intE_ok k1.1;have k3:=intE_ok k2.1;have k4:=intE_ok k3.1;have n2:=intE_nn k1.1;have n4:=intE_nn k3.1;generalize intE (intE (intE (intE b).2.1).2.1).2.1=V at*;generalize intE (intE (intE b).2.1).2.1=Z at*;generalize intE (intE b).2.1=Y at*;generalize intE b=X at*;obtain⟨x,xr,xe⟩:=X;obtain⟨y,yr,ye⟩:=Y;obtain⟨z,zr,ze⟩:=Z;obtain⟨v,vr,ve⟩:=V;unfold parG at h⊢
 simp only[]at*;by_cases g1:xe=0
 ·rw[if_pos g1]at h⊢
  by_cases g2:ye=0
  ·rw[if_pos g2]at h⊢
   by_cases g3:ze=0
   ·rw[if_pos g3]at h⊢
    by_cases g4:ve=0
    ·rw[if_pos g4]at h⊢
     by_cases g5:badP x y z v vr
     ·rw[if_pos g5]at h
      exact absurd h (by decide)
     ·rw[if_neg g5]
      unfold badP at g5;have hv:vr≠[]:=fun e=>g5 (.inr (.inr (.inr (.inr (.inr (.inl e))))))
      have hv2:=List.length_pos_iff.2 hv;have a1:¬x<1:=fun e=>g5 (.inl e)
      have a2:¬1073741824<x:=fun e=>g5 (.inr (.inl e))
      have a3:¬z≤y:=fun e=>g5 (.inr (.inr (.inl e)))
      have a4:¬65536<z:=fun e=>g5 (.inr (.inr (.inr (.inl e))))
      have a5:¬4294967295<v:=fun e=>g5 (.inr (.inr (.inr (.inr (.inl e)))))
      have a6:¬4096<vr.length:=fun e=>g5 (.inr (.inr (.inr (.inr (.inr (.inr e))))))
      exact⟨Int.not_lt.1 a1,Int.not_lt.1 a2,n2,Int.not_le.1 a3,Int.not_lt.1 a4,n4,Int.not_lt.1 a5,hv2,Nat.not_lt.1 a6,k4.1,by have:=k4.2;have:=k3.2;have:=k2.2;have:=k1.2;simp only[]at*;omega⟩
    ·rw[if_neg g4]at h;exact absurd h g4
   ·rw[if_neg g3]at h;exact absurd h g3
  ·rw[if_neg g2]at h;exact absurd h g2
 ·rw[if_neg g1]at h;exact absurd h g1
def nilR:List AV:=[.c (.slice none 0 0)]
def nilRows(n i:Nat)(p:List Int):List (List AV):=(List.replicate n nilR).set i [.snap (encL byteRow p)]
theorem nilRows_len(n i:Nat)(p:List Int):(nilRows n i p).length=n:=by simp[nilRows]
theorem wkr_get9{a b:List (List AV)}(hl:a.length=b.length)(h:∀(i:Nat) r r',a[i]? =some r→b[i]? =some r'→r.length=r'.length∧∀(k:Nat) x y,r[k]? =some x→r'[k]? =some y→Wk x y):Wkr a b:=⟨hl,h⟩
theorem nilRows_wk(n i:Nat)(p:List Int):Wkr (nilRows n i p) (encL byteL ((List.replicate n []).set i p)):=by
 refine wkr_get9 (by rw[nilRows_len,encL_len];simp) fun k r r' h1 h2=> ?_
 unfold nilRows at h1;simp only[encL,List.getElem?_map,List.getElem?_set,List.length_replicate,List.getElem?_replicate]at h1 h2;by_cases hk:i=k
 ·subst hk
  by_cases hn:i<n
  ·simp[hn]at h1 h2
   subst h1 h2
   exact⟨rfl,fun j x y h3 h4=>by
    have h5:some x=some y:=by rw[←h3,←h4];rfl
    injection h5 with h5
    subst h5
    exact .refl _⟩
  ·simp[hn]at h1
 ·simp only[hk,if_false]at h1 h2
  by_cases hn:k<n
  ·simp[hn]at h1 h2
   subst h1 h2;refine⟨rfl,fun j x y h3 h4=> ?_⟩
   cases j with
   |zero=>
    simp only[nilR,byteL,List.getElem?_cons_zero,Option.some.injEq]at h3 h4;subst h3 h4;exact .nil
   |succ j=>simp[nilR]at h3
  ·simp[hn]at h1
theorem nilRows_expo(G:Nat→Option Blk)(k n i:Nat)(p:List Int):(nilRows n i p).map (fun row=>row.map (expoD G k))=nilRows n i p:=by
 have h:∀row∈nilRows n i p,row.map (expoD G k)=row:=fun row hr=>by
  unfold nilRows at hr;rcases List.mem_or_eq_of_mem_set hr with h|h
  ·rw[(List.mem_replicate.1 h).2]
   cases k<;>simp[nilR,expoD]
  ·subst h
   cases k<;>simp[expoD]
 rw[List.map_congr_left h,List.map_id']
theorem nilRows_no(n i:Nat)(p:List Int):∀row∈nilRows n i p,∀x∈row,NoId x:=fun row hr x hx=>by
 unfold nilRows at hr;rcases List.mem_or_eq_of_mem_set hr with h|h
 ·rw[(List.mem_replicate.1 h).2]at hx
  simp only[nilR,List.mem_cons,List.not_mem_nil,or_false]at hx;subst hx;exact .c _
 ·subst h
  simp only[List.mem_cons,List.not_mem_nil,or_false]at hx;subst hx;exact encL_noId p
theorem boolRows_expo(G:Nat→Option Blk)(k:Nat)(l:List Bool):(encL boolRow l).map (fun row=>row.map (expoD G k))=encL boolRow l:=encL_expoD (fun a x hx=>by simp[boolRow]at hx;exact⟨_,hx⟩) G k l
theorem nilRows_set(n i:Nat)(p:List Int):(List.replicate n [AV.c (.slice none 0 0)]).set i [.snap (encL byteRow p)]=nilRows n i p:=rfl
attribute [local irreducible] nilRows
theorem bbeg_p(b:List Int)(hb:∀x∈b,ByteOK x)(hl:b.length≤100000):PC 45 [.snap (encL byteRow b)] (.tup [.agg (encA (begE b).1),zV (begE b).2]):=by
 refine pstartD Tryz.func45 Tryz.ntmps45 (by simp only[go_sem,encA]) ?_
 have c1:=bparse_p b hb hl;have hE:begE b=if(parE b).2=0 then(⟨(parE b).1.number,(parE b).1.parts,(parE b).1.sum,(List.replicate (parE b).1.parts.toNat []).set (parE b).1.index.toNat (parE b).1.piece,(List.replicate (parE b).1.parts.toNat false).set (parE b).1.index.toNat true⟩,0)else(zAsm,(parE b).2):=rfl
 have hok:=parE_ok hb;generalize begE b=M at*;generalize parE b=R at*;obtain⟨⟨n,i,p,s,l⟩,e⟩:=R;simp only[]at*;by_cases g:e=0
 ·rw[if_pos g]at hE
  subst hE g;obtain⟨h1,h2,h3,h4,h5,h6,h7,h8,h9,h10,h11⟩:=hok rfl;obtain⟨i,rfl⟩:=Int.eq_ofNat_of_zero_le h3;obtain⟨p,rfl⟩:=Int.eq_ofNat_of_zero_le (by omega:0≤p)
  have hset:=nilRows_set p i l;have hrep:(List.replicate p [AV.c (.slice none 0 0)])[i]? =some [AV.c (.slice none 0 0)]:=by rw[List.getElem?_replicate,if_pos (by omega)]
  have hrepb:(encL boolRow (List.replicate p false))[i]? =some [bV false]:=by rw[←bools_repl,List.getElem?_replicate,if_pos (by omega)]
  have hex:=fun G k=>nilRows_expo G k p i l
  have hbx:=fun G k=>boolRows_expo G k ((List.replicate p false).set i true)
  have hno:(∀row,row∈nilRows p i l→∀x,x∈row→NoId x)=True:=eq_true (nilRows_no p i l);have hln:=nilRows_len p i l;have hwk:=nilRows_wk p i l;have htk:(nilRows p i l).take p=nilRows p i l:=List.take_of_length_le (by rw[nilRows_len];exact Nat.le_refl _)
  have htb:((List.replicate p false).set i true).take p=(List.replicate p false).set i true:=List.take_of_length_le (by simp)
  have hnb:(∀row,row∈encL boolRow ((List.replicate p false).set i true)→∀x,x∈row→NoId x)=True:=eq_true (encL_ids _);simp only[Int.toNat_natCast]at*;clear hok h8 h9 h10 h11 hb;unfold encA;simp only[];refine zgo2 ?_;refine⟨?_,?_⟩
  ·(simp(maxSteps:=2000000) (disch:=omega) only[go_sem,noId_c,noId_agg,noId_tup,noId_snap,false_implies,implies_true, *])
  ·(simp(maxSteps:=2000000) (disch:=omega) only[go_sem,noId_c,noId_agg,noId_tup,noId_snap,false_implies,implies_true, *];(repeat (first|exact .refl _|exact .nil|exact wks_nil|refine wks_cons ?_ ?_|refine wk_tup ?_|refine wk_agg ?_|refine wk_snap ?_|exact wkr_nil|exact hwk|refine wkr_cons ?_ ?_)))
 ·rw[if_neg g]at hE
  subst hE;unfold encA zAsm;clear hok hb;refine zgo2 ?_;exact zfin
theorem qbeg_p(b:List Int)(hb:∀x∈b,ByteOK x)(hl:b.length≤100000):PC 59 [.snap (encL byteRow b)] (.tup [.agg (encA (begE b).1),zV (begE b).2]):=by
 refine pstartD Tryz.func59 Tryz.ntmps59 (by simp only[go_sem,encA]) ?_
 have c1:=qparse_p b hb hl;have hE:begE b=if(parE b).2=0 then(⟨(parE b).1.number,(parE b).1.parts,(parE b).1.sum,(List.replicate (parE b).1.parts.toNat []).set (parE b).1.index.toNat (parE b).1.piece,(List.replicate (parE b).1.parts.toNat false).set (parE b).1.index.toNat true⟩,0)else(zAsm,(parE b).2):=rfl
 have hok:=parE_ok hb;generalize begE b=M at*;generalize parE b=R at*;obtain⟨⟨n,i,p,s,l⟩,e⟩:=R;simp only[]at*;by_cases g:e=0
 ·rw[if_pos g]at hE
  subst hE g;obtain⟨h1,h2,h3,h4,h5,h6,h7,h8,h9,h10,h11⟩:=hok rfl;obtain⟨i,rfl⟩:=Int.eq_ofNat_of_zero_le h3;obtain⟨p,rfl⟩:=Int.eq_ofNat_of_zero_le (by omega:0≤p)
  have hset:=nilRows_set p i l;have hrep:(List.replicate p [AV.c (.slice none 0 0)])[i]? =some [AV.c (.slice none 0 0)]:=by rw[List.getElem?_replicate,if_pos (by omega)]
  have hrepb:(encL boolRow (List.replicate p false))[i]? =some [bV false]:=by rw[←bools_repl,List.getElem?_replicate,if_pos (by omega)]
  have hex:=fun G k=>nilRows_expo G k p i l
  have hbx:=fun G k=>boolRows_expo G k ((List.replicate p false).set i true)
  have hno:(∀row,row∈nilRows p i l→∀x,x∈row→NoId x)=True:=eq_true (nilRows_no p i l);have hln:=nilRows_len p i l;have hwk:=nilRows_wk p i l;have htk:(nilRows p i l).take p=nilRows p i l:=List.take_of_length_le (by rw[nilRows_len];exact Nat.le_refl _)
  have htb:((List.replicate p false).set i true).take p=(List.replicate p false).set i true:=List.take_of_length_le (by simp)
  have hnb:(∀row,row∈encL boolRow ((List.replicate p false).set i true)→∀x,x∈row→NoId x)=True:=eq_true (encL_ids _);simp only[Int.toNat_natCast]at*;clear hok h8 h9 h10 h11 hb;unfold encA;simp only[];refine zgo2 ?_;refine⟨?_,?_⟩
  ·(simp(maxSteps:=2000000) (disch:=omega) only[go_sem,noId_c,noId_agg,noId_tup,noId_snap,false_implies,implies_true, *])
  ·(simp(maxSteps:=2000000) (disch:=omega) only[go_sem,noId_c,noId_agg,noId_tup,noId_snap,false_implies,implies_true, *];(repeat (first|exact .refl _|exact .nil|exact wks_nil|refine wks_cons ?_ ?_|refine wk_tup ?_|refine wk_agg ?_|refine wk_snap ?_|exact wkr_nil|exact hwk|refine wkr_cons ?_ ?_)))
 ·rw[if_neg g]at hE
  subst hE;unfold encA zAsm;clear hok hb;refine zgo2 ?_;exact zfin
end Go.Proofs.YtpeldefimkdkdaaGreat
namespace Go.Proofs.YtpeldefimkdkdaaGreat
open Go.Proofs Go.AL
set_option maxRecDepth 100000
set_option maxHeartbeats 1000000
attribute [local irreducible] endA AW aops thenA blockA hold
theorem bidx_p(l:List Bool)(hl:l.length≤1000000):PC 73 [.snap (encL boolRow l),bV false] (zV (idxZ (l.findIdx? (fun x=> !x)))):=by
 refine pstart Tryz.func73 Tryz.ntmps73 (.c _) ?_;unfold idxZ;refine zgo ?_;have hg:=gBl l;refine zfor (α:=Unit) l.length (fun k _=> [(8,true,zV k),(7,true,zV l.length),(0,true,.snap (encL boolRow l)),(1,true,bV false)]) (fun _ _=> []) (fun k m _=>∀i,i<k→l.getD i false=true) ⟨0,(),fun i hi=>by omega,zholds⟩ (fun k m _ hk hR=> ?_) (fun m _ hR=> ?_)
 ·have hgk:(encL boolRow l)[k]? =some [bV (l.getD k false)]:=hg k hk
  cases hv:l.getD k false with
  |true=>
   have hR2:Lat (∀i,i<k+1→l.getD i false=true):=⟨fun i hi=>by
    by_cases hik:i=k
    ·subst hik;exact hv
    ·exact hR i (by omega)⟩
   rw[hv]at hgk;clear hR hv hg;refine zgo ?_;exact⟨m,(),hR2.out,zholds⟩
  |false=>
   have hf:l.findIdx? (fun x=> !x)=some k:=by
    rw[List.findIdx?_eq_some_iff_getElem];refine⟨hk,by simp[hk]at hv;simp[hv],fun j hj=> ?_⟩
    have:=hR j hj;simp[show j<l.length by omega]at this
    simp[this]
   rw[hv]at hgk;rw[hf];clear hR hv hg hf;refine zgo ?_;exact zfin
 ·have hf:l.findIdx? (fun x=> !x)=none:=by
   rw[List.findIdx?_eq_none_iff];intro x hx;obtain⟨i,hi⟩:=List.mem_iff_getElem?.1 hx;obtain⟨h1,h2⟩:=List.getElem?_eq_some_iff.1 hi;have:=hR i h1;simp[h1,h2]at this;simp[this]
  rw[hf];clear hR hg hf;refine zgo ?_;exact zfin
theorem bcont_p(l:List Bool)(hl:l.length≤1000000):PC 28 [.snap (encL boolRow l),bV false] (bV (!(l.all id))):=by
 refine pstart Tryz.func28 Tryz.ntmps28 (.c _) ?_;have c1:=bidx_p l hl;have h1:=idxZ_any (fun x=> !x) l
 have h2:l.any (fun x=> !x)= !(l.all id):=by
  induction l with
  |nil=>rfl
  |cons x l ih=>simp only[List.any_cons,List.all_cons,Bool.not_and,id];rw[←ih (by simp at hl;omega) (bidx_p l (by simp at hl;omega)) (idxZ_any _ l)]
 rw[h2]at h1;clear h2;refine zgo ?_;exact zfin
def sumL(h:List (List Int)):Nat:=(h.map List.length).sum
theorem sumL_snoc(h:List (List Int))(x:List Int):sumL (h++[x])=sumL h+x.length:=by simp[sumL]
theorem sumL_flat(h:List (List Int)):h.flatten.length=sumL h:=by simp[sumL,List.length_flatten]
theorem take_snoc9{α:Type}(d:α){l:List α}{k:Nat}(h:k<l.length):l.take (k+1)=l.take k++[l.getD k d]:=by
 rw[List.take_succ_eq_append_getElem h];simp[h]
theorem sumL_take(h:List (List Int))(k:Nat):sumL (h.take k)≤sumL h:=by
 have e:sumL (h.take k++h.drop k)=sumL (h.take k)+sumL (h.drop k):=by unfold sumL;rw[List.map_append,List.sum_append]
 rw[List.take_append_drop]at e;omega
theorem gHb(h:List (List Int))(k:Nat)(hk:k<h.length):(encL byteL h)[k]? =some [.snap (encL byteRow (h.getD k []))]:=encL_get [] hk
theorem flat_snoc(h:List (List Int)){k:Nat}(hk:k<h.length):(h.take (k+1)).flatten=(h.take k).flatten++h.getD k []:=by
 rw[take_snoc9 [] hk];simp
theorem concat_p(h:List (List Int))(hl:h.length≤100000)(hs:sumL h≤1000000):PC 79 [.snap (encL byteL h)] (.snap (encL byteRow h.flatten)):=by
 refine pstart Tryz.func79 Tryz.ntmps79 (encL_noId _) ?_;have hg:=gHb h;refine zgo ?_;refine zfor1 h.length 0 [] (fun k=> [(11,true,zV k),(10,true,zV h.length),(9,true,.snap (encL byteL h)),(3,true,zV (sumL (h.take k))),(0,true,.snap (encL byteL h))]) zholds (fun k m hk hm=> ?_) (fun m hm=> ?_)
 ·have k1:=hg k hk
  have k2:=sumL_take h (k+1);have k3:((sumL (h.take k):Nat):Int)+((h.getD k []).length:Int)=((sumL (h.take (k+1)):Nat):Int):=by rw[take_snoc9 [] hk,sumL_snoc];push_cast;rfl
  have k4:¬((sumL (h.take (k+1)):Nat):Int)<0:=by omega
  have k5:IntKind.i64.wrap ((sumL (h.take k):Nat)+((h.getD k []).length:Int))=(sumL (h.take (k+1)):Nat):=by rw[k3];exact IntWalk.i64_in _ (by omega)
  clear hg k3;refine zgo ?_;exact⟨m,hm,zholds⟩
 rw[List.take_length];by_cases h0:sumL h=0
 ·have hz:h.flatten=[]:=List.eq_nil_of_length_eq_zero (by rw[sumL_flat];exact h0)
  rw[h0,hz];refine zgo ?_;refine zin Tryz.func121 Tryz.ntmps121 ?_;refine zgo ?_;refine zfor1 h.length m [] (fun k=> [(27,true,zV k),(26,true,zV h.length),(25,true,.snap (encL byteL h)),(6,true,.c (.slice none 0 0))]) zholds (fun k m' hk hm'=> ?_) (fun m' hm'=> ?_)
  ·have k1:=hg k hk
   have k2:h.getD k []=[]:=by
    have k3:=sumL_take h (k+1);rw[take_snoc9 [] hk,sumL_snoc]at k3;exact List.eq_nil_of_length_eq_zero (by omega)
   rw[k2]at k1;clear hg hz k2;refine zgo ?_;exact⟨m',hm',zholds⟩
  ·refine zgo ?_
   exact zfin
 ·obtain⟨n,hn⟩:∃n,sumL h=n:=⟨_,rfl⟩
  have hn0:(0:Int)<n:=by omega
  have hn1:¬(n:Int)<0:=by omega
  have hfl:=sumL_flat h;have hst:=fun k=>sumL_take h k
  rw[hn]at hfl hst hs⊢;have hz9:IntKind.i64.wrap ((n:Int)-(((0:Nat):Int)-((0:Nat):Int)))=n:=by rw[IntWalk.i64_in _ (by omega)];omega
  have hc0:((0:Nat):Int)=0:=rfl;have hz8:IntKind.i64.wrap ((n:Int)-(0-0))=n:=by rw[IntWalk.i64_in _ (by omega)];omega
  have hq1:(n:Int)≤9223372036854775807:=by omega
  have hq2:(n:Int)*((1:Nat):Int)≤281474976710656:=by omega
  refine zgo ?_;refine zin Tryz.func121 Tryz.ntmps121 ?_;refine zgo ?_;refine aw_shrink m 0 (e:=5) (s:=1) (rows:=encL byteRow (List.replicate n 0)) (a:=true) (by simp(disch:=omega) only[go_sem]) ?_
  have hlk:∀k,(h.take k).flatten.length≤n:=fun k=>by rw[sumL_flat];exact hst k
  refine zfor (α:=Nat) h.length (fun k id=> [(27,true,zV k),(26,true,zV h.length),(25,true,.snap (encL byteL h)),(6,true,.own id 0 (h.take k).flatten.length)]) (fun k id=> [(id,some (.cells 5 1 (encL byteRow (h.take k).flatten) true true))]) (fun k m' id=>id<m') ⟨m+100,m,by omega,zholds⟩ (fun k m' id hk hR=> ?_) (fun m' id hR=> ?_)
  ·have k1:=hg k hk
   have k2:=flat_snoc h hk;have k3:=hlk (k+1);rw[k2]at k3⊢;rw[List.length_append]at k3;clear hg hst hlk k2 hfl;generalize (h.take k).flatten=F at*;generalize h.getD k []=x at*;refine zgo ?_;exact⟨m'+2,m',by omega,zholds⟩
  ·rw[List.take_length]
   clear hg hst hlk hfl;refine zgo ?_;exact zfin
end Go.Proofs.YtpeldefimkdkdaaGreat
namespace Go.Proofs.YtpeldefimkdkdaaGreat
open Go.Proofs Go.AL
set_option maxRecDepth 100000
set_option maxHeartbeats 1000000
attribute [local irreducible] endA AW aops thenA blockA hold
structure Jr where
 start:Int
 count:Int
 head:Int
 tail:Int
 first:Int
 sizes:List Int
def encJ(j:Jr):List AV:=[zV j.start,zV j.count,zV j.head,zV j.tail,zV j.first,.snap (encL intRow j.sizes)]
def zJr:Jr:=⟨0,0,0,0,0,[]⟩
def badJz(x:Int):Bool:=decide (x<2)||decide (1026<x)
def jE(j:Jr):Int:=
 if validB j.start j.count=false∨j.head<0∨j.count-16≤j.head∨j.first<1∨1073741824<j.first∨j.count-16<(j.sizes.length:Int)then 3
 else if j.sizes.any badJz=true then 3
 else if j.count-16<j.sizes.sum∨j.tail≠(j.head+j.sizes.sum) % (j.count-16)∨1073741824<j.first+(j.sizes.length:Int)then 3
 else 0
theorem badJz_f{x:Int}(h:badJz x=false):2≤x∧x≤1026:=by
 unfold badJz at h;simp only[Bool.or_eq_false_iff,decide_eq_false_iff_not]at h;omega
theorem any_f{l:List Int}(h:l.any badJz=false):∀x∈l,2≤x∧x≤1026:=fun x hx=>badJz_f (by
 cases hb:badJz x with
 |false=>rfl
 |true=>exact absurd (List.any_eq_true.2 ⟨x,hx,hb⟩) (by rw[h];decide))
theorem sum_len:∀(l:List Int),(∀x∈l,2≤x∧x≤1026)→2*(l.length:Int)≤l.sum∧l.sum≤1026*l.length
 |[],_=>by simp
 |x::l,h=>by
  have h1:=sum_len l fun y hy=>h y (by simp[hy])
  have h2:=h x (by simp)
  simp only[List.sum_cons,List.length_cons]
  push_cast
  omega
theorem sumW_sum{l:List Int}(h:∀x∈l,2≤x∧x≤1026)(hl:l.length≤100000):sumW l=l.sum:=by
 have:=sumW_small l 0 (by decide) (fun x hx=>by have:=h x hx;omega) (by omega)
 unfold sumW;rw[this];omega
theorem validB_rng{a b:Int}(h:validB a b=true):0≤a∧20≤b∧a≤4096∧b≤4096∧a+b≤4096:=by
 unfold validB at h;simp only[Bool.and_eq_true,decide_eq_true_eq]at h;omega
theorem rchk14_p(j:Jr)(hl:j.sizes.length≤100000):PC 38 [.agg (encJ j)] (zV (jE j)):=by
 refine pstart Tryz.func38 Tryz.ntmps38 (.c _) ?_;obtain⟨s,c,h,t,f,z⟩:=j;have c1:=rvalid_p s c;have c2:=rsize_p 4096;have e2:sizeR 4096=1026:=by decide
 rw[e2]at c2;have c3:=rsum_p z (by simp only[]at hl;omega)
 have hg:=gI z;obtain⟨M,hM⟩:∃M,jE ⟨s,c,h,t,f,z⟩=M:=⟨_,rfl⟩;rw[hM];unfold jE at hM;unfold encJ;simp only[]at*;by_cases g1:validB s c=false
 ·rw[if_pos (.inl g1)]at hM
  subst hM;rw[g1]at c1;clear hg c3 c2 e2;refine zgo ?_;exact zfin
 have g1':validB s c=true:=by simpa using g1
 obtain⟨v1,v2,v3,v4,v5⟩:=validB_rng g1';rw[g1']at c1;have w1:IntKind.i64.wrap (c-16)=c-16:=IntWalk.i64_in _ (by omega)
 by_cases g2:h<0
 ·rw[if_pos (.inr (.inl g2))]at hM
  subst hM;clear hg c3 c2 e2;refine zgo ?_;exact zfin
 by_cases g3:c-16≤h
 ·rw[if_pos (.inr (.inr (.inl g3)))]at hM
  subst hM;clear hg c3 c2 e2;refine zgo ?_;exact zfin
 by_cases g4:f<1
 ·rw[if_pos (.inr (.inr (.inr (.inl g4))))]at hM
  subst hM;clear hg c3 c2 e2;refine zgo ?_;exact zfin
 by_cases g5:1073741824<f
 ·rw[if_pos (.inr (.inr (.inr (.inr (.inl g5)))))]at hM
  subst hM;clear hg c3 c2 e2;refine zgo ?_;exact zfin
 by_cases g6:c-16<(z.length:Int)
 ·rw[if_pos (.inr (.inr (.inr (.inr (.inr g6)))))]at hM
  subst hM;clear hg c3 c2 e2;refine zgo ?_;exact zfin
 rw[if_neg (by
  rintro(k|k|k|k|k|k)
  ·exact g1 k
  ·exact g2 k
  ·exact g3 k
  ·exact g4 k
  ·exact g5 k
  ·exact g6 k)]at hM
 clear g1;refine zgo ?_;refine zfor (α:=Unit) z.length (fun k _=> [(4,true,zV k),(3,true,zV (c-16)),(1,true,.ptr 0 0 0)]) (fun _ _=> [(0,some (.cells 26 6 [[zV s,zV c,zV h,zV t,zV f,.snap (encL intRow z)]] true false))]) (fun k m _=>1≤m∧∀i,i<k→badJz (z.getD i 0)=false) ⟨100,(),⟨by omega,fun i hi=>by omega⟩,zholds⟩ (fun k m _ hk hR=> ?_) (fun m _ hR=> ?_)
 ·obtain⟨hm,hR⟩:=hR
  have hgk:=hg k hk;have hmem:=getD_mem' 0 hk;clear hg c3;by_cases g7:z.getD k 0<2
  ·rw[if_pos (List.any_eq_true.2 ⟨_,hmem,by unfold badJz;rw[decide_eq_true g7,Bool.true_or]⟩)]at hM
   subst hM;clear hR hmem;refine zgo2 ?_;exact zfin
  ·by_cases g8:1026<z.getD k 0
   ·rw[if_pos (List.any_eq_true.2 ⟨_,hmem,by unfold badJz;rw[decide_eq_true g8,Bool.or_true]⟩)]at hM
    subst hM;clear hR hmem;refine zgo2 ?_;exact zfin
   ·have hR2:Lat (∀i,i<k+1→badJz (z.getD i 0)=false):=⟨fun i hi=>by
     by_cases hik:i=k
     ·subst hik;unfold badJz;rw[decide_eq_false g7,decide_eq_false g8];rfl
     ·exact hR i (by omega)⟩
    clear hR hmem hM;refine zgo2 ?_;exact⟨m+60,(),⟨by omega,hR2.out⟩,zholds⟩
 ·obtain⟨hm,hR⟩:=hR
  have hany:z.any badJz=false:=by
   rw[List.any_eq_false];intro x hx;obtain⟨i,hi⟩:=List.mem_iff_getElem?.1 hx;obtain⟨h1,h2⟩:=List.getElem?_eq_some_iff.1 hi;have:=hR i h1;simp[h1,h2]at this;simp[this]
  rw[if_neg (by rw[hany];decide)]at hM
  have hall:=any_f hany;rw[sumW_sum hall hl]at c3;have hsl:=sum_len z hall;generalize z.sum=S at*;clear hR hall hany hg c2 e2;have w2:IntKind.i64.wrap (h+S)=h+S:=IntWalk.i64_in _ (by omega)
  have w3:(h+S).tmod (c-16)=(h+S) % (c-16):=Int.tmod_eq_emod_of_nonneg (by omega)
  have w4:IntKind.i64.wrap (f+(z.length:Int))=f+z.length:=IntWalk.i64_in _ (by omega)
  have w5:¬c-16=0:=by omega
  have w6:=Int.emod_nonneg (h+S) (show c-16≠0 by omega)
  have w7:=Int.emod_lt_of_pos (h+S) (show 0<c-16 by omega)
  have w8:IntKind.i64.wrap ((h+S) % (c-16))=(h+S) % (c-16):=IntWalk.i64_in _ (by omega)
  generalize (h+S) % (c-16)=R at*;by_cases g7:c-16<S
  ·rw[if_pos (.inl g7)]at hM
   subst hM;refine zgo2 ?_;exact zfin
  ·by_cases g8:t=R
   ·by_cases g9:1073741824<f+(z.length:Int)
    ·rw[if_pos (.inr (.inr g9))]at hM
     subst hM g8;refine zgo2 ?_;exact zfin
    ·rw[if_neg (by
      rintro(k|k|k)
      ·exact g7 k
      ·exact k g8
      ·exact g9 k)]at hM
     subst hM g8;refine zgo2 ?_;exact zfin
   ·rw[if_pos (.inr (.inl g8))]at hM
    subst hM;refine zgo2 ?_;exact zfin
theorem rnext_p(j:Jr)(hl:j.sizes.length≤100000):PC 58 [.agg (encJ j)] (zV (if jE j=0 then j.first+j.sizes.length else 0)):=by
 refine pstart Tryz.func58 Tryz.ntmps58 (.c _) ?_;have c1:=rchk14_p j hl;obtain⟨s,c,h,t,f,z⟩:=j
 have hM:jE ⟨s,c,h,t,f,z⟩=0→1≤f∧f≤1073741824:=fun e=>by
  unfold jE at e;split at e
  ·exact absurd e (by decide)
  ·rename_i g
   simp only[]at g;omega
 generalize jE ⟨s,c,h,t,f,z⟩=M at*;unfold encJ at*;simp only[]at*;by_cases g:M=0
 ·have h1:=hM g
  subst g;rw[if_pos rfl];refine zgo ?_;exact zfin
 ·rw[if_neg g]
  clear hM;refine zgo ?_;exact zfin
end Go.Proofs.YtpeldefimkdkdaaGreat
