/- Staging: contracts of its functions (Azb). No condition but those named. -/
import Derived.Test.YtpeldefimkdkdaaGreatAy
import Derived.Test.YtpeldefimkdkdaaGreatAza
import Derived.Test.YtpeldefimkdkdaaGreatAx
import Derived.Test.YtpeldefimkdkdaaGreatAw
set_option linter.unusedVariables false
set_option linter.unusedSimpArgs false
namespace Go.Proofs.YtpeldefimkdkdaaGreat
open Go.Proofs Go.AL
set_option maxRecDepth 100000
set_option maxHeartbeats 8000000
attribute [local irreducible] endA AW aops thenA blockA hold
attribute [local irreducible] numG
theorem recE_len{k s:Int}{p:List Int}:(recE k s p).1.length≤1100:=by
 unfold recE;split
 ·simp
 ·split
  ·simp
  ·rename_i h
   simp only[List.length_map,List.length_range];have:(strG k p).length=7+p.length:=by unfold strG strW;simp only[List.length_append,List.length_cons,litB_len];omega
   unfold nParts;omega
theorem rfree_p(j:Jr)(hl:j.sizes.length≤100000)(hj:jE j=0):PC 103 [.agg (encJ j)] (zV (j.count-16-j.sizes.sum)):=by
 refine pstart Tryz.func103 Tryz.ntmps103 (.c _) ?_;have c1:=rchk14_p j hl;rw[hj]at c1;obtain⟨hv,-,-,-,-,-,hs,hb⟩:=jE_ok hj;have h2:=any_f hb;have h3:=sumW_sum h2 hl;have h4:=(sum_len _ h2).1;have h5:=validB_rng hv;have c2:=rsum_p j.sizes (by omega)
 rw[h3]at c2;clear hj hv hb h2 h3;obtain⟨js,jc,jh,jt,jf,jz⟩:=j;unfold encJ at*;simp only[]at*;generalize jz.sum=u at*;have w:=IntWalk.i64_in (jc-16) (by omega)
 have w2:=IntWalk.i64_in (jc-16-u) (by omega)
 refine zgo2 ?_;exact zfin
theorem intRows_expo(G:Nat→Option Blk)(k:Nat)(l:List Int):(encL intRow l).map (fun row=>row.map (expoD G k))=encL intRow l:=encL_expoD (fun a x hx=>by simp[intRow]at hx;exact⟨_,hx⟩) G k l
theorem ringW_len(a n p:Int)(l:List Sec):(ringW a n p l).length≤2:=by
 unfold ringW;split<;>simp
theorem ops_expo(G:Nat→Option Blk)(k:Nat)(W:List Wrt):(encL opRow W++[[zV 1,zV 0,.c (.slice none 0 0)]]).map (fun row=>row.map (expoD G k))=encL opRow W++[[zV 1,zV 0,.c (.slice none 0 0)]]:=by
 rw[List.map_append,op_expoD];cases k<;>rfl
theorem ops_no(W:List Wrt):∀row∈encL opRow W++[[zV 1,zV 0,.c (.slice none 0 0)]],∀x∈row,NoId x:=fun row hr x hx=>by
 rcases List.mem_append.1 hr with h|h
 ·exact encL_ids W row h x hx
 ·simp only[List.mem_cons,List.not_mem_nil,or_false]at h
  subst h;simp only[List.mem_cons,List.not_mem_nil,or_false]at hx;rcases hx with rfl|rfl|rfl<;>exact .c _
theorem jappend_p(j:Jr)(k:Int)(p:List Int)(hl:j.sizes.length≤100000)(hp:∀x∈p,ByteOK x)(hpl:p.length≤100000):PC 90 [.agg (encJ j),zV k,.snap (encL byteRow p)] (.tup [.agg (encJ (appE j k p).1),.snap (encL opRow (appE j k p).2.1),zV (appE j k p).2.2]):=by
 refine pstartD Tryz.func90 Tryz.ntmps90 (by simp only[go_sem,encJ]) ?_
 have c1:=examine_p j hl;obtain⟨M,hM⟩:∃M,appE j k p=M:=⟨_,rfl⟩;rw[hM];unfold appE at hM;by_cases g1:jE j=0
 case neg=>
  rw[if_neg g1]at hM;subst hM;rw[decide_eq_false g1]at c1;obtain⟨js,jc,jh,jt,jf,jz⟩:=j;unfold encJ encS zJr at*;simp only[]at*;clear g1;refine zgo2 ?_;exact zfin
 rw[if_pos g1]at hM;rw[decide_eq_true g1]at c1;have hN:jN j=j.first+j.sizes.length:=by unfold jN;rw[if_pos g1]
 obtain⟨hv,e1,e2,e3,e4,e5,e6,e7⟩:=jE_ok g1;have h5:=validB_rng hv
 have hU:jU j=j.sizes.sum:=by
  unfold jU;rw[if_pos hv];have h9:=((jE_iff j hv).1 g1).2.1;have:=(useG_t (j.count-16) j.sizes 0 (by omega)).2 h9
  omega
 have h4:=(sum_len _ (any_f e7)).1;rw[hU]at c1;have c2:=jnxt_p j j.sizes.sum e3 (by omega) hl
 have c3:=recenc_p k (jN j) p hp hpl;have c4:=jfree_p j j.sizes.sum (by omega) (by omega) (by omega) (by omega)
 have c5:=jlen_p j.start j.count;rw[IntWalk.i64_in (j.count-16) (by omega)]at c5
 have hrl:=recE_len (k:=k) (s:=jN j) (p:=p)
 have h6:0≤j.tail∧j.tail<j.count-16:=by
  rw[e5];exact⟨Int.emod_nonneg _ (by omega),Int.emod_lt_of_pos _ (by omega)⟩
 have c6:=ring_o j.start j.count j.tail (recE k (jN j) p).1 (by omega) (by omega) (by omega) (by omega) h6.1 h6.2 (by omega)
 simp only[hN]at hM c3 c6 hrl;clear hN;generalize recE k (j.first+j.sizes.length) p=E at*
 obtain⟨l,e⟩:=E;simp only[]at*;clear g1 hv e7 e5 hU hp;by_cases g2:e=0
 case neg=>
  rw[if_neg g2]at hM;subst hM;obtain⟨js,jc,jh,jt,jf,jz⟩:=j;unfold encJ encS zJr at*;simp only[]at*;clear c4 c5 c6;refine zgo2 ?_;exact zfin
 rw[if_pos g2]at hM;subst g2;by_cases g3:1073741824≤j.first+(j.sizes.length:Int)
 ·rw[if_pos g3]at hM
  subst hM;obtain⟨js,jc,jh,jt,jf,jz⟩:=j;unfold encJ encS zJr at*;simp only[]at*;clear c4 c5 c6;refine zgo2 ?_;exact zfin
 rw[if_neg g3]at hM;by_cases g4:j.count-16-j.sizes.sum<(l.length:Int)
 ·rw[if_pos g4]at hM
  subst hM;obtain⟨js,jc,jh,jt,jf,jz⟩:=j;unfold encJ encS zJr at*;simp only[]at*;clear c5 c6;refine zgo2 ?_;exact zfin
 rw[if_neg g4]at hM;subst hM;obtain⟨js,jc,jh,jt,jf,jz⟩:=j;unfold encJ encS at*;simp only[]at*;have hrw:=ringW_len js (jc-16) jt l;generalize ringW js (jc-16) jt l=W at*;have hwk:=opsync W;have hex:=fun G k=>ops_expo G k W
 have hnop:(∀row,row∈encL opRow W++[[zV 1,zV 0,.c (.slice none 0 0)]]→∀x,x∈row→NoId x)=True:=eq_true (ops_no W);have htk:(encL opRow W++[[zV 1,zV 0,.c (.slice none 0 0)]]).take (W.length+1)=encL opRow W++[[zV 1,zV 0,.c (.slice none 0 0)]]:=List.take_of_length_le (by rw[List.length_append,encL_len];exact Nat.le_refl _)
 by_cases hjz:jz=[]
 ·subst hjz
  refine zgo2 ?_;refine zin Tryz.func138 Tryz.ntmps138 ?_;refine zgo2 ?_;refine⟨?_,?_⟩
  ·(simp(maxSteps:=2000000) (disch:=omega) only[go_sem,noId_c,noId_agg,noId_tup,noId_snap,false_implies,implies_true, *])
  ·(simp(maxSteps:=2000000) (disch:=omega) only[go_sem,noId_c,noId_agg,noId_tup,noId_snap,false_implies,implies_true, *];(repeat (first|exact .refl _|exact .nil|exact wks_nil|refine wks_cons ?_ ?_|refine wk_tup ?_|refine wk_agg ?_|refine wk_snap ?_|exact wkr_nil|exact hwk|exact wkr_refl _|refine wkr_cons ?_ ?_)))
 ·have hne:=isEmpty_f hjz
  have hjl:=Nat.lt_of_le_of_lt (Nat.le_refl jz.length) (by omega:jz.length<5000)
  have hjn:(∀row,row∈encL intRow (jz++[(l.length:Int)])→∀x,x∈row→NoId x)=True:=eq_true (encL_ids _);have hjt:(jz++[(l.length:Int)]).take (jz.length+1)=jz++[(l.length:Int)]:=List.take_of_length_le (by simp)
  have hjx:=fun G k=>intRows_expo G k (jz++[(l.length:Int)])
  refine zgo2 ?_;refine zin Tryz.func138 Tryz.ntmps138 ?_;refine zgo2 ?_;refine⟨?_,?_⟩
  ·(simp(maxSteps:=2000000) (disch:=omega) only[go_sem,noId_c,noId_agg,noId_tup,noId_snap,false_implies,implies_true, *])
  ·(simp(maxSteps:=2000000) (disch:=omega) only[go_sem,noId_c,noId_agg,noId_tup,noId_snap,false_implies,implies_true, *];(repeat (first|exact .refl _|exact .nil|exact wks_nil|refine wks_cons ?_ ?_|refine wk_tup ?_|refine wk_agg ?_|refine wk_snap ?_|exact wkr_nil|exact hwk|exact wkr_refl _|refine wkr_cons ?_ ?_)))
theorem rappend_p(j:Jr)(k:Int)(p:List Int)(hl:j.sizes.length≤100000)(hp:∀x∈p,ByteOK x)(hpl:p.length≤100000):PC 60 [.agg (encJ j),zV k,.snap (encL byteRow p)] (.tup [.agg (encJ (appE j k p).1),.snap (encL opRow (appE j k p).2.1),zV (appE j k p).2.2]):=by
 refine pstartD Tryz.func60 Tryz.ntmps60 (by simp only[go_sem,encJ]) ?_
 have c1:=rchk14_p j hl;have h3:=jE_3 (j:=j);obtain⟨M,hM⟩:∃M,appE j k p=M:=⟨_,rfl⟩;rw[hM];unfold appE at hM;by_cases g1:jE j=0
 case neg=>
  rw[if_neg g1]at hM;subst hM;rw[h3 g1]at c1;obtain⟨js,jc,jh,jt,jf,jz⟩:=j;unfold encJ zJr at*;simp only[]at*;clear g1 h3;refine zgo2 ?_;exact zfin
 rw[if_pos g1]at hM;rw[g1]at c1;have hN:jN j=j.first+j.sizes.length:=by unfold jN;rw[if_pos g1]
 obtain⟨hv,e1,e2,e3,e4,e5,e6,e7⟩:=jE_ok g1;have h5:=validB_rng hv;have h4:=(sum_len _ (any_f e7)).1;have c2:=rnext_p j hl;rw[if_pos g1]at c2;have c3:=rrecenc_p k (jN j) p hp hpl;have c4:=rfree_p j hl g1;have hrl:=recE_len (k:=k) (s:=jN j) (p:=p)
 have h6:0≤j.tail∧j.tail<j.count-16:=by
  rw[e5];exact⟨Int.emod_nonneg _ (by omega),Int.emod_lt_of_pos _ (by omega)⟩
 simp only[hN]at hM c3 hrl;clear hN;generalize recE k (j.first+j.sizes.length) p=E at*
 obtain⟨l,e⟩:=E;simp only[]at*;clear g1 hv e7 e5 hp h3;by_cases g2:e=0
 case neg=>
  rw[if_neg g2]at hM;subst hM;obtain⟨js,jc,jh,jt,jf,jz⟩:=j;unfold encJ zJr at*;simp only[]at*;clear c4;refine zgo2 ?_;exact zfin
 rw[if_pos g2]at hM;subst g2;by_cases g3:1073741824≤j.first+(j.sizes.length:Int)
 ·rw[if_pos g3]at hM
  subst hM;obtain⟨js,jc,jh,jt,jf,jz⟩:=j;unfold encJ zJr at*;simp only[]at*;clear c4;refine zgo2 ?_;exact zfin
 rw[if_neg g3]at hM;by_cases g4:j.count-16-j.sizes.sum<(l.length:Int)
 ·rw[if_pos g4]at hM
  subst hM;obtain⟨js,jc,jh,jt,jf,jz⟩:=j;unfold encJ zJr at*;simp only[]at*;refine zgo2 ?_;exact zfin
 rw[if_neg g4]at hM;subst hM;obtain⟨js,jc,jh,jt,jf,jz⟩:=j;unfold encJ at*;simp only[]at*;have hjl:jz.length<5000:=by omega
 have hjn:(∀row,row∈encL intRow (jz++[(l.length:Int)])→∀x,x∈row→NoId x)=True:=eq_true (encL_ids _);have hjt:(jz++[(l.length:Int)]).take (jz.length+1)=jz++[(l.length:Int)]:=List.take_of_length_le (by simp)
 have hjx:=fun G k=>intRows_expo G k (jz++[(l.length:Int)])
 have w1:=IntWalk.i64_in (jc-16) (by omega)
 have w2:=IntWalk.i64_in (js+16) (by omega)
 have w3:=IntWalk.i64_in (js+16+jt) (by omega)
 have w4:=IntWalk.i64_in (jc-16-jt) (by omega)
 unfold ringW;obtain⟨q,hq⟩:∃q:Nat,jc-16-jt=q:=⟨(jc-16-jt).toNat,by omega⟩
 rw[hq]at w4⊢;rw[Int.toNat_natCast];by_cases g:(q:Int)<l.length
 ·rw[if_pos g]
  have f1:¬(l.length:Int)<q:=by omega
  have r1:encL opRow ([(0,js+16+jt,l.take q),(0,js+16,l.drop q)]++[(1,0,[])])=[[zV 0,zV (js+16+jt),.snap (encL encSec (l.take q))],[zV 0,zV (js+16),.snap (encL encSec (l.drop q))],[zV 1,zV 0,.snap []]]:=rfl;rw[r1];have hd:(l.drop q).take (l.length-q)=l.drop q:=List.take_of_length_le (by rw[List.length_drop];exact Nat.le_refl _)
  clear r1;by_cases hjz:jz=[]
  ·subst hjz
   refine zgo2 ?_;exact zfin2
  ·have hne:=isEmpty_f hjz
   refine zgo2 ?_;exact zfin2
 ·rw[if_neg g]
  have f1:(l.length:Int)<q∨(l.length:Int)=q:=by omega
  have r1:encL opRow ([(0,js+16+jt,l)]++[(1,0,[])])=[[zV 0,zV (js+16+jt),.snap (encL encSec l)],[zV 1,zV 0,.snap []]]:=rfl;rw[r1];have hd:l.take l.length=l:=List.take_length;clear r1;have hmin:(if(q:Int)<l.length then(q:Int)else l.length)=l.length:=if_neg g
  by_cases hjz:jz=[]
  ·subst hjz
   refine zgo2 ?_;exact zfin2
  ·have hne:=isEmpty_f hjz
   refine zgo2 ?_;exact zfin2
end Go.Proofs.YtpeldefimkdkdaaGreat
namespace Go.Proofs.YtpeldefimkdkdaaGreat
open Go.Proofs Go.AL
set_option maxRecDepth 100000
set_option maxHeartbeats 8000000
attribute [local irreducible] endA AW aops thenA blockA hold
attribute [local irreducible] numG
theorem unch_p(s:Stag)(hs:StagLen s):PC 50 [.agg (encSt s)] (.tup [.agg (encSt s),.snap (encL opRow []),zV 0]):=by
 refine pstart Tryz.func50 Tryz.ntmps50 (by simp only[go_sem,encSt]) ?_
 have c1:=cloneI_p s.j.sizes (by have:=hs.sizes;omega)
 have c2:=stcopied_p s.cycles hs.cycles hs.one;clear hs;obtain⟨⟨js,jc,jh,jt,jf,jz⟩,l⟩:=s;unfold encSt;simp only[]at*;refine zgo2 ?_;exact zfin
theorem added_p(s:Stag)(k:Int)(p:List Int)(x:Stg)(hs:StagLen s)(hso:SortS s.cycles)(hp:∀x∈p,ByteOK x)(hpl:p.length≤100000):PC 46 [.agg (encSt s),zV k,.snap (encL byteRow p),.agg (stgRow x)] (.tup [.agg (encSt (addedE s k p x).1),.snap (encL opRow (addedE s k p x).2.1),zV (addedE s k p x).2.2]):=by
 refine pstart Tryz.func46 Tryz.ntmps46 (by simp only[go_sem,encSt]) ?_
 have c1:=jappend_p s.j k p hs.sizes hp hpl;have c2:=stcopied_p s.cycles hs.cycles hs.one;have c3:=stput_p s.cycles x hso hs.cycles;obtain⟨M,hM⟩:∃M,addedE s k p x=M:=⟨_,rfl⟩;rw[hM];unfold addedE at hM;clear hs hso hp;obtain⟨⟨js,jc,jh,jt,jf,jz⟩,l⟩:=s;obtain⟨xn,xp,xs,xh,xe,xr,xc⟩:=x;unfold encSt;rw[stgRow_eq]at*;unfold encJ at c1;simp only[]at*;generalize appE ⟨js,jc,jh,jt,jf,jz⟩ k p=E at*;obtain⟨⟨ks,kc,kh,kt,kf,kz⟩,ops,e⟩:=E
 simp only[]at*;generalize putSt l ⟨xn,xp,xs,xh,xe,xr,xc⟩=L at*;by_cases g:e=0
 ·rw[if_pos g]at hM
  subst hM g;simp only[];refine zgo2 ?_;exact zfin
 ·rw[if_neg g]at hM
  subst hM;unfold zStag zJr;simp only[];refine zgo2 ?_;exact zfin
end Go.Proofs.YtpeldefimkdkdaaGreat
namespace Go.Proofs.YtpeldefimkdkdaaGreat
open Go.Proofs Go.AL
set_option maxRecDepth 100000
set_option maxHeartbeats 8000000
attribute [local irreducible] endA AW aops thenA blockA hold
attribute [local irreducible] numG
structure AsmOK(a:Asm):Prop where
 have_:a.have_.length≤100000
 seen:a.seen.length≤100000
 one:∀x∈a.have_,x.length≤100000∧∀y∈x,ByteOK y
theorem AsmLen.ok{a:Asm}(h:AsmLen a):AsmOK a:=⟨h.have_,h.seen,h.one⟩
theorem addE_OK{a:Asm}{b:List Int}(h:AsmOK a)(hb:∀x∈b,ByteOK x):AsmOK (addE a b).1:=by
 have h0:AsmOK zAsm:=⟨by simp[zAsm],by simp[zAsm],fun x hx=>by simp[zAsm]at hx⟩
 have hok:=parE_ok hb;unfold addE;split
 ·split
  ·rename_i g
   obtain⟨-,-,-,-,-,-,-,-,h9,h10,-⟩:=hok g;split
   ·split
    ·split
     ·exact h0
     ·refine⟨by simp only[List.length_set];exact h.have_,by simp only[List.length_set];exact h.seen,fun x hx=> ?_⟩
      simp only[]at hx;rcases List.mem_or_eq_of_mem_set hx with h1|h1
      ·exact h.one x h1
      ·subst h1
       exact⟨by omega,h10⟩
    ·exact h0
   ·exact h0
  ·exact h0
 ·exact h0
theorem begE_OK{b:List Int}(hb:∀x∈b,ByteOK x):AsmOK (begE b).1:=by
 have h0:AsmOK zAsm:=⟨by simp[zAsm],by simp[zAsm],fun x hx=>by simp[zAsm]at hx⟩
 have hok:=parE_ok hb;unfold begE;split
 ·rename_i g
  obtain⟨-,-,-,-,h5,-,-,-,h9,h10,-⟩:=hok g;refine⟨by simp only[List.length_set,List.length_replicate];omega,by simp only[List.length_set,List.length_replicate];omega,fun x hx=> ?_⟩
  simp only[]at hx;rcases List.mem_or_eq_of_mem_set hx with h1|h1
  ·rw[(List.mem_replicate.1 h1).2]
   exact⟨by simp,fun y hy=>by simp at hy⟩
  ·subst h1
   exact⟨by omega,h10⟩
 ·exact h0
theorem begE_e(b:List Int):(begE b).2=(parE b).2:=by
 unfold begE;split
 ·rename_i h;exact h.symm
 ·rfl
theorem corS_ne{j:Jr}{x:Stg}(h:corS j x=true):x.records≠[]:=fun he=>by
 unfold corS at h;split at h
 ·split at h
  ·exact absurd h (by decide)
  ·rename_i g
   split at h
   ·exact absurd h (by decide)
   ·split at h
    ·rw[he]at h
     have:0=needN x:=by simpa using h
     unfold needN at this;split at this<;>omega
    ·exact absurd h (by decide)
 ·exact absurd h (by decide)
theorem stadd_p(s:Stag)(p:List Int)(hs:StagLen s)(hp:∀x∈p,ByteOK x)(hpl:p.length≤100000):PC 17 [.agg (encSt s),.snap (encL byteRow p)] (.tup [.agg (encSt (addS s p).1),.snap (encL opRow (addS s p).2.1),zV (addS s p).2.2]):=by
 refine pstart Tryz.func17 Tryz.ntmps17 (by simp only[go_sem,encSt]) ?_
 have c1:=stchk_p s hs;have c2:=bheader_p p hp hpl;have c5:=bbeg_p p hp hpl;have c6:=unch_p s hs;have hbo:=begE_OK hp;have hbe:=begE_e p;have hJ:=jnext_p s.j hs.sizes;have hag:∀(x:Stg),StgLen x→AsmOK (addE (asm x) p).1:=fun x hx=>addE_OK hx.asm.ok hp
 have hadd:=fun(x:Stg) (hx:StgLen x)=>badd_p (asm x) p hx.asm hp hpl
 have had2:=fun k x hso=>added_p s k p x hs hso hp hpl
 have hG:= @stgE_G s;have hone:=hs.one;have hl:=hs.cycles;have hzs:encSt zStag=[zV 0,zV 0,zV 0,zV 0,zV 0,.snap (encL intRow []),.snap (encL stgRow [])]:=rfl;obtain⟨M,hM⟩:∃M,addS s p=M:=⟨_,rfl⟩;rw[hM];unfold addS at hM;clear hs;by_cases g1:stgE s=0
 case neg=>
  rw[if_neg g1]at hM;subst hM;obtain⟨⟨js,jc,jh,jt,jf,jz⟩,l⟩:=s;unfold encSt at*;simp only[]at*;generalize stgE ⟨⟨js,jc,jh,jt,jf,jz⟩,l⟩=e at*;clear hG hone hag hadd had2 c2 c5 c6 hJ hbo hbe;refine zgo2 ?_;exact zfin
 rw[if_pos g1]at hM;rw[g1]at c1;obtain⟨hj,-,h3⟩:=hG g1;have hso:=stG_sort h3;have hcor:=stG_cor s.j _ _ _ h3;rw[if_pos hj]at hJ;have hN:jN s.j=s.j.first+s.j.sizes.length:=by unfold jN;rw[if_pos hj]
 rw[hN]at hM;clear hN hG g1 h3 hj
 replace had2:=fun k x=>had2 k x hso
 generalize begE p=B at*;obtain⟨ba,be⟩:=B;simp only[]at hbo hbe c5;subst hbe;by_cases g2:(parE p).2=0
 case neg=>
  rw[if_neg g2]at hM;subst hM;obtain⟨⟨js,jc,jh,jt,jf,jz⟩,l⟩:=s;unfold encSt at*;simp only[]at*;generalize parE p=R at*;obtain⟨⟨n,i,pp,ps,pl⟩,e⟩:=R;clear hone hag hadd had2 c5 c6 hJ hbo;refine zgo2 ?_;exact zfin
 rw[if_pos g2]at hM;rw[g2]at c2 c5;have c4:=sfind_p s.cycles (parE p).1.number hso hl;generalize parE p=R at*;obtain⟨⟨n,pi,pp,ps,pl⟩,e⟩:=R;simp only[]at*;subst g2;by_cases g3:fndB s.cycles n=true
 case neg=>
  rw[if_neg g3]at hM;have g3':fndB s.cycles n=false:=by simpa using g3
  rw[g3']at c4;clear g3 g3' hadd hag hone hcor c6;generalize fndI s.cycles n=i at*;by_cases g4:1024≤s.cycles.length
  ·rw[if_pos g4]at hM
   subst hM;have g4':(1024:Int)≤s.cycles.length:=by omega
   obtain⟨⟨js,jc,jh,jt,jf,jz⟩,l⟩:=s;unfold encSt encJ at*;simp only[]at*;clear had2 hbo c5;refine zgo2 ?_;exact zfin
  ·rw[if_neg g4]at hM
   have g4':¬(1024:Int)≤s.cycles.length:=by omega
   have c7:=staged_p ba [s.j.first+s.j.sizes.length] false hbo.have_ hbo.seen (fun x hx=>(hbo.one x hx).1) (by simp)
   have c8:=had2 1 (stgOf ba [s.j.first+s.j.sizes.length] false)
   have hr1:encL intRow [s.j.first+(s.j.sizes.length:Int)]=[[zV (s.j.first+(s.j.sizes.length:Int))]]:=rfl
   rw[hr1]at c7;rw[hM]at c8;clear had2 hbo hM hr1;obtain⟨⟨⟨ks,kc,kh,kt,kf,kz⟩,kl⟩,ko,ke⟩:=M;rw[stgRow_eq]at c7 c8;unfold stgOf at c7 c8;obtain⟨⟨js,jc,jh,jt,jf,jz⟩,l⟩:=s;obtain⟨bn,bp,bs,bh,bz⟩:=ba;unfold encSt encJ encA at*;simp only[]at*;generalize jf+(jz.length:Int)=N at*;clear g4;refine zgo2 ?_;refine zdrawX ?_;refine zgo2 ?_;exact zfin
 ·rw[if_pos g3]at hM
  obtain⟨hi,-⟩:=fndB_lt g3;rw[g3]at c4;clear g3 c5 hbo;generalize fndI s.cycles n=i at*;have hgi:=gSt s.cycles i hi;have hx:=hone _ (getD_mem' zStg hi);have hxne:=corS_ne (hcor _ (getD_mem' zStg hi));generalize s.cycles.getD i zStg=x at*;have c7:=asm_p x;have c8:=hadd x hx;have hao:=hag x hx;have c9:=same_p (addE (asm x) p).1 (asm x) hao.have_ hx.asm.have_ hao.seen hx.asm.seen (fun y hy=>(hao.one y hy).2) (fun y hy=>(hx.asm.one y hy).2)
  have c10:=cloneI_o x.records hxne (by have:=hx.records;omega)
  have c11:=fun hr=>staged_p (addE (asm x) p).1 (x.records++[s.j.first+s.j.sizes.length]) x.closed hao.have_ hao.seen (fun x hx=>(hao.one x hx).1) hr
  have c12:=had2 1 (stgOf (addE (asm x) p).1 (x.records++[s.j.first+s.j.sizes.length]) x.closed)
  have hrl:=hx.records
  replace c11:=c11 (by rw[List.length_append];simp only[List.length_cons,List.length_nil];have:=hx.records;omega)
  clear hadd hag had2 hone hcor hx hao hxne;generalize addE (asm x) p=A at*;obtain⟨aa,ae⟩:=A;simp only[]at*;by_cases g5:ae=0
  case neg=>
   rw[if_neg g5]at hM;subst hM;obtain⟨⟨js,jc,jh,jt,jf,jz⟩,l⟩:=s;obtain⟨xn,xp,xs,xh,xe,xr,xc⟩:=x;obtain⟨bn,bp,bs,bh,bz⟩:=aa;rw[stgRow_eq]at*;unfold encSt encJ encA asm at*;simp only[]at*;clear c6 c9 c10 c11 c12;refine zgo2 ?_;exact zfin
  rw[if_pos g5]at hM;subst g5;by_cases g6:aa=asm x
  ·rw[if_pos g6]at hM
   subst hM;rw[decide_eq_true g6]at c9;subst g6;obtain⟨⟨js,jc,jh,jt,jf,jz⟩,l⟩:=s;obtain⟨xn,xp,xs,xh,xe,xr,xc⟩:=x;rw[stgRow_eq]at*;unfold encSt encJ encA asm at*;simp only[]at*;clear c10 c11 c12;refine zgo2 ?_;exact zfin
  ·rw[if_neg g6]at hM
   rw[decide_eq_false g6]at c9;rw[hM]at c12;clear g6 hM;obtain⟨⟨⟨ks,kc,kh,kt,kf,kz⟩,kl⟩,ko,ke⟩:=M;rw[stgRow_eq]at c11 c12;unfold stgOf at c11 c12;obtain⟨⟨js,jc,jh,jt,jf,jz⟩,l⟩:=s;obtain⟨xn,xp,xs,xh,xe,xr,xc⟩:=x;obtain⟨bn,bp,bs,bh,bz⟩:=aa;rw[stgRow_eq]at c7 hgi;unfold encSt encJ encA asm at*;simp only[]at*;generalize jf+(jz.length:Int)=N at*;have htk:(xr++[N]).take (xr.length+1)=xr++[N]:=List.take_of_length_le (by simp)
   clear c6;refine zgo2 ?_;refine zdrawX ?_;refine zgo2 ?_;exact zfin
end Go.Proofs.YtpeldefimkdkdaaGreat
