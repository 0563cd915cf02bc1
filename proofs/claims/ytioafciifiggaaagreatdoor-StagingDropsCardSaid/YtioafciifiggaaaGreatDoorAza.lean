/- Staging: contracts of its functions (Aza). No condition but those named. -/
import Derived.Test.YtioafciifiggaaaGreatDoorAw
import Derived.Test.YtioafciifiggaaaGreatDoorAv
import Derived.Test.YtioafciifiggaaaGreatDoorLg
import Derived.Test.YtioafciifiggaaaGreatDoorAy
import Derived.Test.YtioafciifiggaaaGreatDoorAt
import Derived.Test.YtioafciifiggaaaGreatDoorAx
set_option linter.unusedVariables false
set_option linter.unusedSimpArgs false
namespace Go.Proofs.YtioafciifiggaaaGreatDoor
open Go.Proofs Go.AL
set_option maxRecDepth 100000
set_option maxHeartbeats 8000000
attribute [local irreducible] endA AW aops thenA blockA hold
attribute [local irreducible] numG
theorem stcopied_p(l:List Stg)(hl:l.length≤100000)(ho:∀x∈l,StgLen x):PC 36 [.snap (encL stgRow l)] (.snap (encL stgRow l)):=by
 refine pstart Tryz.func36 Tryz.ntmps36 (encL_noId _) ?_;have hg:=gSt l
 replace ho:=Lat.mk ho
 refine zgo2 ?_;refine zfor (α:=Nat) l.length (fun k id=> [(8,true,zV k),(7,true,zV l.length),(6,true,.snap (encL stgRow l)),(3,true,oV1 k id)]) (fun k id=>oT1 64 7 (encL stgRow (l.take k)) k id) (fun k m id=>(0<k→id<m)) ⟨100,0,fun h=>absurd h (by omega),zholds⟩ (fun k m id hk hR=> ?_) (fun m id hR=> ?_)
 ·have hgk:=hg k hk
  have hx:=ho.out _ (getD_mem' zStg hk);have htk:=take_snoc9 zStg hk;have hFl:(l.take k).length=k:=by rw[List.length_take];omega
  have c1:=asm_p (l.getD k zStg);have c2:PC 73 [.agg (encA (asm (l.getD k zStg))),.snap (encL intRow (l.getD k zStg).records),bV (l.getD k zStg).closed] (.agg (stgRow (l.getD k zStg))):=staged_p (asm (l.getD k zStg)) (l.getD k zStg).records (l.getD k zStg).closed hx.asm.have_ hx.asm.seen (fun y hy=>(hx.asm.one y hy).1) (by have:=hx.records;omega)
  rw[htk];clear htk hg ho hx;generalize l.take k=F at*;generalize l.getD k zStg=x at*;obtain⟨n,p,s,h,e,r,c⟩:=x;rw[stgRow_eq]at hgk c1 c2;unfold asm encA at c1 c2;simp only[]at*;have hone:encL stgRow ([]++[⟨n,p,s,h,e,r,c⟩])=[[zV n,zV p,zV s,.snap (encL byteL h),.snap (encL boolRow e),.snap (encL intRow r),bV c]]:=rfl;cases k with
  |zero=>
   have hF0:F=[]:=List.eq_nil_of_length_eq_zero hFl;subst hF0;clear hR hFl;refine zgo2 ?_;exact⟨m+40,m+1+1+9,fun _=>by omega,zholds⟩
  |succ q=>
   have i2:=hR (by omega)
   clear hR hone;refine zgo2 ?_;exact⟨m+40,m+1+1+9,fun _=>by omega,zholds⟩
 ·rw[List.take_length]
  clear hg ho;cases hh:l.length with
  |zero=>
   have hh0:l=[]:=List.eq_nil_of_length_eq_zero hh;subst hh0;clear hR hh;refine zgo2 ?_;exact zfin
  |succ q=>
   have i2:=hR (by omega)
   have htk:l.take (q+1)=l:=List.take_of_length_le (by omega)
   clear hR;refine zgo2 ?_;exact zfin
theorem stput_p(l:List Stg)(x:Stg)(hs:SortS l)(hl:l.length≤100000):PC 149 [.snap (encL stgRow l),.agg (stgRow x)] (.snap (encL stgRow (putSt l x))):=by
 have c1:=sfind_p l x.number hs hl;by_cases hne:l=[]
 ·subst hne
  have hp:putSt [] x=[x]:=rfl;have hfi:fndI [] x.number=0:=rfl;have hfb:fndB [] x.number=false:=rfl;rw[hp];rw[hfi,hfb]at c1;clear hp hfi hfb hs hl;obtain⟨n,p,s,h,e,r,c⟩:=x;refine PCall.nil (pre:=[]) (post:=[.agg (stgRow ⟨n,p,s,h,e,r,c⟩)]) fun a cap=> ?_
  show PC 149 [.c (.slice a 0 cap),.agg (stgRow ⟨n,p,s,h,e,r,c⟩)] _
  refine pstart Tryz.func149 Tryz.ntmps149 (encL_noId _) ?_;have hone:encL stgRow [⟨n,p,s,h,e,r,c⟩]=[[zV n,zV p,zV s,.snap (encL byteL h),.snap (encL boolRow e),.snap (encL intRow r),bV c]]:=rfl;rw[hone];rw[stgRow_eq];simp only[]at*
  have c2:PC 70 [.c (.slice a 0 cap),zV n] (.tup [zV 0,bV false]):=PCall.less c1 (by
   refine wks_cons .nil (wks_refl _))
  clear c1;have hz:((0:Nat):Int)=0:=rfl;refine zgo2 ?_;refine zin Tryz.func199 Tryz.ntmps199 ?_;cases a with
  |none=>
   refine zgo2 ?_;refine zin Tryz.func200 Tryz.ntmps200 ?_
   (repeat (first|refine zappT (p:=_) ?_ uC uS rfl rfl rfl (by(first|rfl|decide)) (by(first|(simp(maxSteps:=2000000) (disch:=omega) only[go_sem, *]<;>exact rfl)|fail))|refine zstep ?_))
   exact zfin
  |some a=>
   refine zgo2 ?_;refine zin Tryz.func200 Tryz.ntmps200 ?_
   (repeat (first|refine zappT (p:=_) ?_ uC uS rfl rfl rfl (by(first|rfl|decide)) (by(first|(simp(maxSteps:=2000000) (disch:=omega) only[go_sem, *]<;>exact rfl)|fail))|refine zstep ?_))
   exact zfin
 ·refine pstart Tryz.func149 Tryz.ntmps149 (encL_noId _) ?_
  have c2:=cloneSt_o l hne (by omega)
  have hle:=fndI_le l x.number;have hlt:=fun h=>(fndB_lt (l:=l) (n:=x.number) h).1
  obtain⟨R,hR⟩:∃R,putSt l x=R:=⟨_,rfl⟩;rw[hR];unfold putSt at hR;generalize fndI l x.number=i at*;generalize fndB l x.number=fb at*;clear hs;have hset:(encL stgRow l).set i (stgRow x)=encL stgRow (l.set i x):=encL_set l i x
  have hins:insR (encL stgRow l) i (stgRow x)=encL stgRow (l.take i++x::l.drop i):=by
   unfold insR;rw[encL_take,encL_drop,encL_one,encL_app,encL_app];simp
  have hall:(encL stgRow l).all (fun r=>r.length==7&&r.all AV.one)=true:=encL_all l
  have hall1:([stgRow x]).all (fun r=>r.length==7&&r.all AV.one)=true:=encL_all (f:=stgRow) [x]
  have hend:i=l.length→encL stgRow l++[stgRow x]=encL stgRow (l.take i++x::l.drop i):=fun h=>by rw[h,List.take_length,List.drop_length];exact encL_snoc l x
  have hEl:(encL stgRow l).length=l.length:=encL_len l;have hno:(∀row,row∈encL stgRow l→∀x,x∈row→NoId x)=True:=eq_true (encL_ids l);obtain⟨n,p,s,h,e,r,c⟩:=x;rw[stgRow_eq]at hset hins hall1 hend⊢;simp only[]at*;cases fb with
  |true=>
   have hi:=hlt rfl;rw[if_pos rfl]at hR;rw[hR]at hset;have hgi:=gSt l i hi;rw[stgRow_eq]at hgi;clear hins hall hall1 hend hlt hle hR;have hEr:(encL stgRow R).length=l.length:=by rw[←hset,List.length_set,hEl]
   have hno2:(∀row,row∈encL stgRow R→∀x,x∈row→NoId x)=True:=eq_true (encL_ids R);have htk:(encL stgRow R).take l.length=encL stgRow R:=List.take_of_length_le (by omega)
   generalize encL stgRow R=RR at*;refine zgo2 ?_;exact zfin
  |false=>
   rw[if_neg (by decide)]at hR
   rw[hR]at hins hend;clear hset hlt;rcases Nat.lt_or_ge i l.length with hi|hi
   ·clear hend
    have ha:=ins_act (H:=⟨3,tabG [(1,some (.cells 64 7 (encL stgRow l) true true)),(2,some (.cells 64 7 [[zV n,zV p,zV s,.snap (encL byteL h),.snap (encL boolRow e),.snap (encL intRow r),bV c]] true true))]⟩) (id:=1) (id2:=2) (i:=i) (by decide) rfl rfl (by omega) (by omega) hall hall1
    rw[hEl,hins]at ha
    have hRl:R.length=l.length+1:=by
     have h9:=congrArg List.length hR;rw[List.length_append,List.length_cons,List.length_take,List.length_drop]at h9;omega
    have hno2:(∀row,row∈encL stgRow R→∀x,x∈row→NoId x)=True:=eq_true (encL_ids R);have htk:R.take (l.length+1)=R:=List.take_of_length_le (by omega)
    clear hins hall hall1 hR;refine zgo2 ?_;refine zact ha ?_;rintro r' H' ⟨rfl,rfl⟩;refine zgo2 ?_;exact zfin
   ·have hi':i=l.length:=by omega
    have hend:=hend hi'
    have hRl:R.length=l.length+1:=by
     have h9:=congrArg List.length hR;rw[List.length_append,List.length_cons,List.length_take,List.length_drop]at h9;omega
    have hno2:(∀row,row∈encL stgRow R→∀x,x∈row→NoId x)=True:=eq_true (encL_ids R);have htk:R.take (l.length+1)=R:=List.take_of_length_le (by omega)
    clear hins hall hall1 hle hi hR;subst hi';refine zgo2 ?_;refine zin Tryz.func200 Tryz.ntmps200 ?_
    (repeat (first|refine zappT (p:=_) ?_ uC uS rfl rfl rfl (by(first|rfl|decide)) (by(first|(simp(maxSteps:=2000000) (disch:=omega) only[go_sem, *]<;>exact rfl)|fail))|refine zstep ?_))
    exact zfin
end Go.Proofs.YtioafciifiggaaaGreatDoor
namespace Go.Proofs.YtioafciifiggaaaGreatDoor
open Go.Proofs Go.AL
set_option maxRecDepth 100000
set_option maxHeartbeats 8000000
attribute [local irreducible] endA AW aops thenA blockA hold
attribute [local irreducible] numG
theorem with_p(l m:List Int)(hl:l.length≤100000)(hm:m.length≤100000):PC 96 [.snap (encL intRow l),.snap (encL intRow m)] (.snap (encL intRow (l++m))):=by
 refine pstart Tryz.func96 Tryz.ntmps96 (encL_noId _) ?_;have he:encL intRow l++encL intRow m=encL intRow (l++m):=encL_app l m;have e1:(encL intRow l).length=l.length:=encL_len l;have e2:(encL intRow m).length=m.length:=encL_len m;by_cases h:l=[]
 ·subst h
  rw[List.nil_append];by_cases h2:m=[]
  ·subst h2
   refine zgo ?_;exact zfin
  ·have h3:=isEmpty_f h2
   refine zgo ?_;exact zfin
 ·have h1:=isEmpty_f h
  by_cases h2:m=[]
  ·subst h2
   rw[List.append_nil];clear he e2;refine zgo ?_;exact zfin
  ·have h3:=isEmpty_f h2
   have h4:(encL intRow (l++m)).take (l.length+m.length)=encL intRow (l++m):=List.take_of_length_le (by rw[encL_len,List.length_append];exact Nat.le_refl _)
   refine zgo ?_;exact zfin
theorem with0_p(l:List Int)(hl:l.length≤100000):PC 96 [.snap (encL intRow l),.c (.slice none 0 0)] (.snap (encL intRow l)):=by
 have:=with_p l [] hl (by simp)
 rw[List.append_nil]at this;exact PCall.less this (wks_mid (xs:=[.snap (encL intRow l)]) (ys:=[]))
theorem qstaged_p(a:Asm)(r:List Int)(c:Bool):PC 93 [.agg (encA a),.snap (encL intRow r),bV c] (.agg (stgRow (stgOf a r c))):=by
 refine pstart Tryz.func93 Tryz.ntmps93 (by rw[stgRow_eq];simp only[go_sem]) ?_
 obtain⟨n,p,s,h,e⟩:=a;rw[stgRow_eq];unfold stgOf encA;simp only[];refine zgo2 ?_;exact zfin
end Go.Proofs.YtioafciifiggaaaGreatDoor
namespace Go.Proofs.YtioafciifiggaaaGreatDoor
open Go.Proofs Go.AL
set_option maxRecDepth 100000
set_option maxHeartbeats 8000000
attribute [local irreducible] endA AW aops thenA blockA hold
attribute [local irreducible] numG
theorem recE_len{k s:Int}{p:List Int}:(recE k s p).1.length≤1100:=by
 unfold recE;split
 ·simp
 ·split
  ·simp
  ·rename_i h
   simp only[List.length_map,List.length_range];have:(strG k p).length=7+p.length:=by unfold strG strW;simp only[List.length_append,List.length_cons,litB_len];omega
   unfold nParts;omega
theorem intRows_expo(G:Nat→Option Blk)(k:Nat)(l:List Int):(encL intRow l).map (fun row=>row.map (expoD G k))=encL intRow l:=encL_expoD (fun a x hx=>by simp[intRow]at hx;exact⟨_,hx⟩) G k l
theorem ringW_len(a n p:Int)(l:List Sec):(ringW a n p l).length≤2:=by
 unfold ringW;split<;>simp
theorem ops_expo(G:Nat→Option Blk)(k:Nat)(W:List Wrt):(encL opRow W++[[zV 1,zV 0,.c (.slice none 0 0)]]).map (fun row=>row.map (expoD G k))=encL opRow W++[[zV 1,zV 0,.c (.slice none 0 0)]]:=by
 rw[List.map_append,op_expoD];cases k<;>rfl
theorem ops_no(W:List Wrt):∀row∈encL opRow W++[[zV 1,zV 0,.c (.slice none 0 0)]],∀x∈row,NoId x:=fun row hr x hx=>by
 rcases List.mem_append.1 hr with h|h
 ·exact encL_ids W row h x hx
 ·simp only[List.mem_cons,List.not_mem_nil,or_false]at h
  subst h;simp only[List.mem_cons,List.not_mem_nil,or_false]at hx;rcases hx with rfl|rfl|rfl<;>exact .c _
theorem jappend_p(j:Jr)(k:Int)(p:List Int)(hl:j.sizes.length≤100000)(hp:∀x∈p,ByteOK x)(hpl:p.length≤100000):PC 148 [.agg (encJ j),zV k,.snap (encL byteRow p)] (.tup [.agg (encJ (appE j k p).1),.snap (encL opRow (appE j k p).2.1),zV (appE j k p).2.2]):=by
 refine pstartD Tryz.func148 Tryz.ntmps148 (by simp only[go_sem,encJ]) ?_
 have c1:=examine_p j hl;obtain⟨M,hM⟩:∃M,appE j k p=M:=⟨_,rfl⟩;rw[hM];unfold appE at hM;by_cases g1:jE j=0
 case neg=>
  rw[if_neg g1]at hM;subst hM;rw[decide_eq_false g1]at c1;obtain⟨js,jc,jh,jt,jf,jz⟩:=j;unfold encJ encS zJr at*;simp only[]at*;clear g1;refine zgo2 ?_;exact zfin
 rw[if_pos g1]at hM;rw[decide_eq_true g1]at c1;have hN:jN j=j.first+j.sizes.length:=by unfold jN;rw[if_pos g1]
 obtain⟨hv,e1,e2,e3,e4,e5,e6,e7⟩:=jE_ok g1;have h5:=validB_rng hv
 have hU:jU j=j.sizes.sum:=by
  unfold jU;rw[if_pos hv];have h9:=((jE_iff j hv).1 g1).2.1;have:=(useG_t (j.count-16) j.sizes 0 (by omega)).2 h9
  omega
 have h4:=(sum_len _ (any_f e7)).1;rw[hU]at c1;have c2:=jnxt_p j j.sizes.sum e3 (by omega) hl
 have c3:=recenc_p k (jN j) p hp hpl;have c4:=jfree_p j j.sizes.sum (by omega) (by omega) (by omega) (by omega)
 have c5:=jlen_p j.start j.count;rw[IntWalk.i64_in (j.count-16) (by omega)]at c5
 have hrl:=recE_len (k:=k) (s:=jN j) (p:=p)
 have h6:0≤j.tail∧j.tail<j.count-16:=by
  rw[e5];exact⟨Int.emod_nonneg _ (by omega),Int.emod_lt_of_pos _ (by omega)⟩
 have c6:=ring_o j.start j.count j.tail (recE k (jN j) p).1 (by omega) (by omega) (by omega) (by omega) h6.1 h6.2 (by omega)
 simp only[hN]at hM c3 c6 hrl;clear hN;generalize recE k (j.first+j.sizes.length) p=E at*
 obtain⟨l,e⟩:=E;simp only[]at*;clear g1 hv e7 e5 hU hp;by_cases g2:e=0
 case neg=>
  rw[if_neg g2]at hM;subst hM;obtain⟨js,jc,jh,jt,jf,jz⟩:=j;unfold encJ encS zJr at*;simp only[]at*;clear c4 c5 c6;refine zgo2 ?_;exact zfin
 rw[if_pos g2]at hM;subst g2;by_cases g3:1073741824≤j.first+(j.sizes.length:Int)
 ·rw[if_pos g3]at hM
  subst hM;obtain⟨js,jc,jh,jt,jf,jz⟩:=j;unfold encJ encS zJr at*;simp only[]at*;clear c4 c5 c6;refine zgo2 ?_;exact zfin
 rw[if_neg g3]at hM;by_cases g4:j.count-16-j.sizes.sum<(l.length:Int)
 ·rw[if_pos g4]at hM
  subst hM;obtain⟨js,jc,jh,jt,jf,jz⟩:=j;unfold encJ encS zJr at*;simp only[]at*;clear c5 c6;refine zgo2 ?_;exact zfin
 rw[if_neg g4]at hM;subst hM;obtain⟨js,jc,jh,jt,jf,jz⟩:=j;unfold encJ encS at*;simp only[]at*;have hrw:=ringW_len js (jc-16) jt l;generalize ringW js (jc-16) jt l=W at*;have hwk:=opsync W;have hex:=fun G k=>ops_expo G k W
 have hnop:(∀row,row∈encL opRow W++[[zV 1,zV 0,.c (.slice none 0 0)]]→∀x,x∈row→NoId x)=True:=eq_true (ops_no W);have htk:(encL opRow W++[[zV 1,zV 0,.c (.slice none 0 0)]]).take (W.length+1)=encL opRow W++[[zV 1,zV 0,.c (.slice none 0 0)]]:=List.take_of_length_le (by rw[List.length_append,encL_len];exact Nat.le_refl _)
 by_cases hjz:jz=[]
 ·subst hjz
  refine zgo2 ?_;refine zin Tryz.func86 Tryz.ntmps86 ?_;refine zgo2 ?_;refine⟨?_,?_⟩
  ·(simp(maxSteps:=2000000) (disch:=omega) only[go_sem,noId_c,noId_agg,noId_tup,noId_snap,false_implies,implies_true, *])
  ·(simp(maxSteps:=2000000) (disch:=omega) only[go_sem,noId_c,noId_agg,noId_tup,noId_snap,false_implies,implies_true, *];(repeat (first|exact .refl _|exact .nil|exact wks_nil|refine wks_cons ?_ ?_|refine wk_tup ?_|refine wk_agg ?_|refine wk_snap ?_|exact wkr_nil|exact hwk|exact wkr_refl _|refine wkr_cons ?_ ?_)))
 ·have hne:=isEmpty_f hjz
  have hjl:=Nat.lt_of_le_of_lt (Nat.le_refl jz.length) (by omega:jz.length<5000)
  have hjn:(∀row,row∈encL intRow (jz++[(l.length:Int)])→∀x,x∈row→NoId x)=True:=eq_true (encL_ids _);have hjt:(jz++[(l.length:Int)]).take (jz.length+1)=jz++[(l.length:Int)]:=List.take_of_length_le (by simp)
  have hjx:=fun G k=>intRows_expo G k (jz++[(l.length:Int)])
  refine zgo2 ?_;refine zin Tryz.func86 Tryz.ntmps86 ?_;refine zgo2 ?_;refine⟨?_,?_⟩
  ·(simp(maxSteps:=2000000) (disch:=omega) only[go_sem,noId_c,noId_agg,noId_tup,noId_snap,false_implies,implies_true, *])
  ·(simp(maxSteps:=2000000) (disch:=omega) only[go_sem,noId_c,noId_agg,noId_tup,noId_snap,false_implies,implies_true, *];(repeat (first|exact .refl _|exact .nil|exact wks_nil|refine wks_cons ?_ ?_|refine wk_tup ?_|refine wk_agg ?_|refine wk_snap ?_|exact wkr_nil|exact hwk|exact wkr_refl _|refine wkr_cons ?_ ?_)))
end Go.Proofs.YtioafciifiggaaaGreatDoor
namespace Go.Proofs.YtioafciifiggaaaGreatDoor
open Go.Proofs Go.AL
set_option maxRecDepth 100000
set_option maxHeartbeats 8000000
attribute [local irreducible] endA AW aops thenA blockA hold
attribute [local irreducible] numG
theorem unch_p(s:Stag)(hs:StagLen s):PC 77 [.agg (encSt s)] (.tup [.agg (encSt s),.snap (encL opRow []),zV 0]):=by
 refine pstart Tryz.func77 Tryz.ntmps77 (by simp only[go_sem,encSt]) ?_
 have c1:=cloneI_p s.j.sizes (by have:=hs.sizes;omega)
 have c2:=stcopied_p s.cycles hs.cycles hs.one;clear hs;obtain⟨⟨js,jc,jh,jt,jf,jz⟩,l⟩:=s;unfold encSt;simp only[]at*;refine zgo2 ?_;exact zfin
theorem added_p(s:Stag)(k:Int)(p:List Int)(x:Stg)(hs:StagLen s)(hso:SortS s.cycles)(hp:∀x∈p,ByteOK x)(hpl:p.length≤100000):PC 72 [.agg (encSt s),zV k,.snap (encL byteRow p),.agg (stgRow x)] (.tup [.agg (encSt (addedE s k p x).1),.snap (encL opRow (addedE s k p x).2.1),zV (addedE s k p x).2.2]):=by
 refine pstart Tryz.func72 Tryz.ntmps72 (by simp only[go_sem,encSt]) ?_
 have c1:=jappend_p s.j k p hs.sizes hp hpl;have c2:=stcopied_p s.cycles hs.cycles hs.one;have c3:=stput_p s.cycles x hso hs.cycles;obtain⟨M,hM⟩:∃M,addedE s k p x=M:=⟨_,rfl⟩;rw[hM];unfold addedE at hM;clear hs hso hp;obtain⟨⟨js,jc,jh,jt,jf,jz⟩,l⟩:=s;obtain⟨xn,xp,xs,xh,xe,xr,xc⟩:=x;unfold encSt;rw[stgRow_eq]at*;unfold encJ at c1;simp only[]at*;generalize appE ⟨js,jc,jh,jt,jf,jz⟩ k p=E at*;obtain⟨⟨ks,kc,kh,kt,kf,kz⟩,ops,e⟩:=E
 simp only[]at*;generalize putSt l ⟨xn,xp,xs,xh,xe,xr,xc⟩=L at*;by_cases g:e=0
 ·rw[if_pos g]at hM
  subst hM g;simp only[];refine zgo2 ?_;exact zfin
 ·rw[if_neg g]at hM
  subst hM;unfold zStag zJr;simp only[];refine zgo2 ?_;exact zfin
end Go.Proofs.YtioafciifiggaaaGreatDoor
