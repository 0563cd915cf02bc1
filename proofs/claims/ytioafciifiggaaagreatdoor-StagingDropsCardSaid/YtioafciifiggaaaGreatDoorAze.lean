/- Staging: contracts of its functions (Aze). No condition but those named. -/
import Derived.Test.YtioafciifiggaaaGreatDoorAzd
set_option linter.unusedVariables false
set_option linter.unusedSimpArgs false
namespace Go.Proofs.YtioafciifiggaaaGreatDoor
open Go.Proofs Go.AL
set_option maxRecDepth 100000
set_option maxHeartbeats 8000000
attribute [local irreducible] endA AW aops thenA blockA hold
attribute [local irreducible] numG
theorem qsuper_p(j:Jr):PC 99 [.agg (encJ j)] (.snap (encL byteRow (vint j.head++vint j.first))):=by
 refine pstart Tryz.func99 Tryz.ntmps99 (encL_noId _) ?_
 have c1:PC 168 [.c (.slice none 0 0),zV j.head] (.snap (encL byteRow (vint j.head))):=by
  have:=PCall.less (rputInt_p [] j.head (by simp)) (wks_cons (Wk.nil (a:=none) (cap:=0)) (wks_refl _))
  rwa[List.nil_append]at this
 have c2:=rputInt_p (vint j.head) j.first (by have:=vint_len8 j.head;omega)
 unfold encJ;refine zgo2 ?_;exact zfin
theorem qrls_p(d:Dsk)(j:Jr)(n:Int)(hl:j.sizes.length≤100000)(hs:d.st.length≤1000000)(h2:d.ca.length≤1000000)(hk:∀s∈newL d.st d.ca,SecOK s):PC 42 [.agg (encD d),.agg (encJ j),zV n] (.tup [.agg (encJ (rlsE d j n).1),.snap (encL opRow (rlsE d j n).2.1),zV (rlsE d j n).2.2]):=by
 refine pstartD Tryz.func42 Tryz.ntmps42 (by simp only[go_sem,encJ]) ?_
 have c0:=rdcheck_p d hs h2;have c1:=rchk14_p j hl;have h3:=jE_3 (j:=j);obtain⟨M,hM⟩:∃M,rlsE d j n=M:=⟨_,rfl⟩;rw[hM];unfold rlsE at hM;by_cases g0:dskE d=0
 case neg=>
  rw[if_neg g0]at hM;subst hM;have g0x:(dskE d !=0)=true:=by simpa using g0
  generalize dskE d=e at*;obtain⟨st,ca⟩:=d;obtain⟨js,jc,jh,jt,jf,jz⟩:=j;unfold encJ zJr encD at*;simp only[]at*;clear c1 hk h3 g0;refine zgo2 ?_;exact zfin
 rw[if_pos g0]at hM;rw[g0]at c0;by_cases g1:jE j=0
 case neg=>
  rw[if_neg g1]at hM;subst hM;rw[h3 g1]at c1;obtain⟨st,ca⟩:=d;obtain⟨js,jc,jh,jt,jf,jz⟩:=j;unfold encJ zJr encD at*;simp only[]at*;clear g1 hk h3;refine zgo2 ?_;exact zfin
 rw[if_pos g1]at hM;rw[g1]at c1;obtain⟨hv,e1,e2,e3,e4,e5,e6,e7⟩:=jE_ok g1;have h5:=validB_rng hv;have c2:=rnext_p j hl;rw[if_pos g1]at c2;have w1:IntKind.i64.wrap (j.first-1)=j.first-1:=IntWalk.i64_in _ (by omega)
 by_cases g2:n<j.first-1
 ·rw[if_pos (.inl g2)]at hM
  subst hM;obtain⟨st,ca⟩:=d;obtain⟨js,jc,jh,jt,jf,jz⟩:=j;unfold encJ zJr encD at*;simp only[]at*;clear hk g1 hv e7 e5 h3 g0;refine zgo2 ?_;exact zfin
 by_cases g3:j.first+(j.sizes.length:Int)≤n
 ·rw[if_pos (.inr g3)]at hM
  subst hM;obtain⟨st,ca⟩:=d;obtain⟨js,jc,jh,jt,jf,jz⟩:=j;unfold encJ zJr encD at*;simp only[]at*;clear hk g1 hv e7 e5 h3 g0;refine zgo2 ?_;exact zfin
 rw[if_neg (by omega)]at hM
 by_cases g4:n=j.first-1
 ·rw[if_pos g4]at hM
  subst hM;have g4':(n==j.first-1)=true:=by simpa using g4
  obtain⟨st,ca⟩:=d;obtain⟨js,jc,jh,jt,jf,jz⟩:=j;unfold encJ encD at*;simp only[]at*;clear hk g1 hv e7 e5 h3 g4 g0;refine zgo2 ?_;exact zfin
 have g4':(n==j.first-1)=false:=by simpa using g4
 rw[if_neg g4]at hM;obtain⟨k,hk2⟩:∃k:Nat,n+1-j.first=k:=⟨(n+1-j.first).toNat,by omega⟩
 have w2:IntKind.i64.wrap (n+1)=n+1:=IntWalk.i64_in _ (by omega)
 have w3:IntKind.i64.wrap (n+1-j.first)=(k:Int):=by rw[IntWalk.i64_in _ (by omega),hk2]
 rw[hk2,Int.toNat_natCast]at hM;have hall:=any_f e7;have hkl:k≤j.sizes.length:=by omega
 have c3:=rsum_p (j.sizes.take k) (by rw[List.length_take];omega)
 rw[sumW_sum (fun x hx=>hall x (List.mem_of_mem_take hx)) (by rw[List.length_take];omega)]at c3
 have hsl:=sum_len (j.sizes.take k) (fun x hx=>hall x (List.mem_of_mem_take hx))
 rw[List.length_take]at hsl;have w4:IntKind.i64.wrap (j.head+(j.sizes.take k).sum)=j.head+(j.sizes.take k).sum:=IntWalk.i64_in _ (by omega)
 have w5:IntKind.i64.wrap (j.count-16)=j.count-16:=IntWalk.i64_in _ (by omega)
 have w6:¬j.count-16=0:=by omega
 have hin:=rlsH_in (j:=j) (k:=k) (by omega)
 have w7:(j.head+(j.sizes.take k).sum) % (j.count-16)=rlsH j k:=rfl;have w8:(j.head+(j.sizes.take k).sum).tmod (j.count-16)=rlsH j k:=by rw[Int.tmod_eq_emod_of_nonneg (by omega)];rfl
 have c4:=rstore_p d j.start (vint (rlsH j k)++vint (n+1)) (by have:=pay_len (rlsH j k) (n+1);omega) hs h2 hk
 have c5:=qsuper_p ⟨j.start,j.count,rlsH j k,j.tail,n+1,j.sizes.drop k⟩;generalize hH:rlsH j k=H at*;obtain⟨st,ca⟩:=d;obtain⟨js,jc,jh,jt,jf,jz⟩:=j;unfold encJ encD at*;simp only[]at*;generalize storeE ⟨st,ca⟩ js (vint H++vint (n+1))=So at*;generalize vint H++vint (n+1)=V at*;obtain⟨so,se⟩:=So;simp only[]at*;have w9:IntKind.i64.wrap H=H:=IntWalk.i64_in _ (by omega)
 generalize hsm:(jz.take k).sum=SM at*;have hjn:(∀row,row∈encL intRow (jz.drop k)→∀x,x∈row→NoId x)=True:=eq_true (encL_ids _);have hjx:=fun G q=>intRows_expo G q (jz.drop k)
 have hjt:(jz.drop k).take (jz.drop k).length=jz.drop k:=List.take_length;clear hk g1 hv e7 e5 h3 g4 g0 hall hsl hH hsm;have htk2:List.take (jz.length-k) (jz.drop k)=jz.drop k:=List.take_of_length_le (by rw[List.length_drop];omega)
 by_cases hE:jz.drop k=[]
 ·clear hjn hjx hjt
  rw[hE]at c5 htk2 hM;by_cases g5:se=0
  ·rw[if_pos g5]at hM
   subst hM;subst g5;simp only[];refine zgo2 ?_;refine zdrawX ?_;refine zgo2 ?_;exact zfin2
  ·rw[if_neg g5]at hM
   subst hM;have g5x:(se !=0)=true:=by simpa using g5
   clear g5;unfold zJr;refine zgo2 ?_;refine zdrawX ?_;refine zgo2 ?_;exact zfin2
 ·have hne:=isEmpty_f hE
  have hdl:(jz.drop k).length≤100000:=by rw[List.length_drop];omega
  by_cases g5:se=0
  ·rw[if_pos g5]at hM
   subst hM;subst g5;simp only[];refine zgo2 ?_;refine zdrawX ?_;refine zgo2 ?_;exact zfin2
  ·rw[if_neg g5]at hM
   subst hM;have g5x:(se !=0)=true:=by simpa using g5
   clear g5;unfold zJr;refine zgo2 ?_;refine zdrawX ?_;refine zgo2 ?_;exact zfin2
end Go.Proofs.YtioafciifiggaaaGreatDoor
namespace Go.Proofs.YtioafciifiggaaaGreatDoor
open Go.Proofs Go.AL
set_option maxRecDepth 100000
set_option maxHeartbeats 8000000
attribute [local irreducible] endA AW aops thenA blockA hold
attribute [local irreducible] numG
theorem lastG_snoc(n:Int)(x:Stg):∀(l:List Stg) (m:Int),lastG n (l++[x]) m=if n<x.number then min (lastG n l m) (x.records.headD 0-1)else lastG n l m
 |[],m=>by simp only[List.nil_append,lastG]
 |y::l,m=>by
  simp only[List.cons_append,lastG];split
  ·exact lastG_snoc n x l _
  ·exact lastG_snoc n x l _
theorem corS_recs{j:Jr}{x:Stg}(h:corS j x=true):x.records≠[]∧∀n∈x.records,j.first-1<n∧n<jN j:=by
 unfold corS at h;split at h
 ·split at h
  ·exact absurd h (by decide)
  ·rename_i g2
   split at h
   ·exact absurd h (by decide)
   ·split at h
    ·rename_i g4
     have h5:=of_decide_eq_true h;refine⟨fun e=> ?_,recG_mem _ _ _ g4⟩
     rw[e]at h5;unfold needN at h5;split at h5
     ·simp at h5
     ·simp only[List.length_nil]at h5
      omega
    ·exact absurd h (by decide)
 ·exact absurd h (by decide)
theorem headD_cons{l:List Int}(h:l≠[]):∃a r,l=a::r:=by
 cases l with
 |nil=>exact absurd rfl h
 |cons a r=>exact⟨a,r,rfl⟩
theorem drop_p(d:Dsk)(s:Stag)(n:Int)(hS:StagLen s)(hs:d.st.length≤1000000)(h2:d.ca.length≤1000000)(hk:∀s∈newL d.st d.ca,SecOK s):PC 10 [.agg (encD d),.agg (encSt s),zV n] (.tup [.agg (encSt (drpE d s n).1),.snap (encL opRow (drpE d s n).2.1),zV (drpE d s n).2.2]):=by
 refine pstart Tryz.func10 Tryz.ntmps10 (by simp only[go_sem,encSt]) ?_
 have c0:=dcheck_p d hs h2;have c1:=stchk_p s hS;have hj:=hS.sizes;have hcl:=hS.cycles;obtain⟨M,hM⟩:∃M,drpE d s n=M:=⟨_,rfl⟩;rw[hM];unfold drpE at hM;by_cases g0:dskE d=0
 case neg=>
  rw[if_neg g0]at hM;subst hM;have g0x:(dskE d !=0)=true:=by simpa using g0
  generalize dskE d=e at*;obtain⟨st,ca⟩:=d;obtain⟨⟨js,jc,jh,jt,jf,jz⟩,l⟩:=s;unfold encSt zStag zJr encD at*;simp only[]at*;clear c1 hk hS g0;refine zgo2 ?_;exact zfin
 rw[if_pos g0]at hM;rw[g0]at c0;clear g0;by_cases g1:stgE s=0
 case neg=>
  rw[if_neg g1]at hM;subst hM;have g1x:(stgE s !=0)=true:=by simpa using g1
  generalize stgE s=e at*;obtain⟨st,ca⟩:=d;obtain⟨⟨js,jc,jh,jt,jf,jz⟩,l⟩:=s;unfold encSt zStag zJr encD at*;simp only[]at*;clear hk hS g1;refine zgo2 ?_;exact zfin
 rw[if_pos g1]at hM;rw[g1]at c1;obtain⟨gj,-,g3⟩:=stgE_G g1;have hcor:=stG_cor s.j _ _ _ g3;have hrec:=fun x hx=>corS_recs (hcor x hx)
 obtain⟨hv,e1,e2,e3,e4,e5,e6,e7⟩:=jE_ok gj;have hN:jN s.j=s.j.first+s.j.sizes.length:=by unfold jN;rw[if_pos gj]
 have c2:=jnext_p s.j hj;rw[if_pos gj]at c2;clear g1 g3 hcor hv e5 e6 e7 gj;rw[hN]at hM hrec;by_cases g2:n<0∨1073741824<n
 ·rw[if_pos g2]at hM
  subst hM;obtain⟨st,ca⟩:=d;obtain⟨⟨js,jc,jh,jt,jf,jz⟩,l⟩:=s;unfold encSt zStag zJr encD encJ at*;simp only[]at*;clear hk hS hrec c2;by_cases g3:n<0
  ·refine zgo2 ?_
   exact zfin
  ·have g4:1073741824<n:=by omega
   refine zgo2 ?_;exact zfin
 rw[if_neg g2]at hM;have g3:¬n<0:=by omega
 have g4:¬1073741824<n:=by omega
 clear g2;have c3:=stcopied_p s.cycles hcl hS.one;have c4:=fun q=>rls_p d s.j q hj hs h2 hk
 have w1:IntKind.i64.wrap (s.j.first+(s.j.sizes.length:Int)-1)=s.j.first+(s.j.sizes.length:Int)-1:=IntWalk.i64_in _ (by omega)
 have hg:=gSt s.cycles;clear hk hS;generalize hRl:rlsE d s.j=R at*;obtain⟨st,ca⟩:=d;obtain⟨⟨js,jc,jh,jt,jf,jz⟩,l⟩:=s;unfold encSt encD encJ at*;simp only[]at*;clear hN;generalize hm0:jf+(jz.length:Int)-1=m0 at*
 replace hrec:=Lat.mk hrec
 refine zgo2 ?_
 refine zfor (α:=Nat) l.length (fun k id=> [(45,true,zV k),(44,true,zV l.length),(43,true,.snap (encL stgRow l)),(11,true,zV (lastG n (l.take k) m0)),(12,true,oV1 ((l.take k).filter fun x=>decide (n<x.number)).length id),(3,true,.ptr 0 0 0),(4,true,.ptr 1 0 0),(6,true,.ptr 2 0 0),(2,true,zV n)])
  (fun k id=>(0,some (.cells 25 2 [[.snap (encL encSec st),.snap (encL encCa ca)]] true false))::(1,some (.cells 33 7 [[zV js,zV jc,zV jh,zV jt,zV jf,.snap (encL intRow jz),.snap (encL stgRow l)]] true false))::(2,some (.cells 33 7 [[zV 0,zV 0,zV 0,zV 0,zV 0,.c (.slice none 0 0),.c (.slice none 0 0)]] true false))::oT1 64 7 (encL stgRow ((l.take k).filter fun x=>decide (n<x.number))) ((l.take k).filter fun x=>decide (n<x.number)).length id)
  (fun k m id=>(3≤m∧((l.take k).filter fun x=>decide (n<x.number)).length≤k)∧(0<((l.take k).filter fun x=>decide (n<x.number)).length→3≤id∧id<m)) ⟨100,0,⟨⟨by omega,by simp⟩,fun h=>absurd h (by simp)⟩,zholds⟩ (fun k m id hk hR=> ?_) (fun m id hR=> ?_)
 ·obtain⟨⟨hm,hlk⟩,hR⟩:=hR
  have hgk:=hg k hk;rw[stgRow_eq]at hgk;have htk:=take_snoc9 zStg hk;have hlg:=lastG_snoc n (l.getD k zStg) (l.take k) m0;rw[←htk]at hlg;have hxr:=hrec.out _ (getD_mem' zStg hk);rw[hlg,htk,List.filter_append];clear htk hg hM hlg hrec;generalize l.getD k zStg=x at*;generalize lastG n (l.take k) m0=L at*;generalize (l.take k).filter (fun x=>decide (n<x.number))=F at*
  obtain⟨xn,xp,xs,xh,xe,xr,xc⟩:=x;simp only[]at*;obtain⟨a,r,rfl⟩:=headD_cons hxr.1;have ha:=hxr.2 a (by simp)
  have wa:IntKind.i64.wrap (a-1)=a-1:=IntWalk.i64_in _ (by omega)
  have hr0:(0:Int)<((r.length+1:Nat):Int):=by omega
  have hg0:(encL intRow (a::r))[0]? =some [zV a]:=rfl;have h0r:0<r.length+1:=by omega
  have h0s:0<(a::r).length:=by simp
  have hh:List.headD (a::r) (0:Int)=a:=rfl;have hmin:min L (a-1)=if a-1<L then a-1 else L:=by split<;>omega
  rw[hh,hmin];clear hxr hh hmin;by_cases gn:n<xn
  ·have gn':¬xn≤n:=by omega
   rw[if_pos gn,show List.filter (fun x:Stg=>decide (n<x.number)) [⟨xn,xp,xs,xh,xe,a::r,xc⟩]=[⟨xn,xp,xs,xh,xe,a::r,xc⟩]from by simp[gn]]
   cases hF:F.length with
   |zero=>
    have hF0:F=[]:=List.eq_nil_of_length_eq_zero hF;subst hF0;clear hR hF;refine zgo2 ?_;exact⟨m+40,m+1+1+1,⟨⟨by omega,by simp⟩,fun _=>by omega⟩,zholds⟩
   |succ q=>
    obtain⟨i1,i2⟩:=hR (by omega)
    have hF2:(F++[(⟨xn,xp,xs,xh,xe,a::r,xc⟩:Stg)]).length=q+1+1:=by simp[hF]
    rw[hF2];clear hR hF2;refine zgo2 ?_;exact⟨m+40,m+1+1+1,⟨⟨by omega,by omega⟩,fun _=>by omega⟩,zholds⟩
  ·have gn':xn≤n:=by omega
   rw[if_neg gn,show List.filter (fun x:Stg=>decide (n<x.number)) [⟨xn,xp,xs,xh,xe,a::r,xc⟩]=[]from by simp[gn],List.append_nil]
   cases hF:F.length with
   |zero=>
    have hF0:F=[]:=List.eq_nil_of_length_eq_zero hF;subst hF0;clear hR hF;refine zgo2 ?_;exact⟨m+40,0,⟨⟨by omega,by omega⟩,fun h=>absurd h (by simp)⟩,zholds⟩
   |succ q=>
    obtain⟨i1,i2⟩:=hR (by omega)
    clear hR;refine zgo2 ?_;exact⟨m+40,id,⟨⟨by omega,by omega⟩,fun _=>by omega⟩,zholds⟩
 ·rw[List.take_length]at hR⊢
  obtain⟨⟨hm,hlk⟩,hR⟩:=hR;have c5:=c4 (lastG n l m0);clear hg c4 hrec;generalize hRR:R (lastG n l m0)=RR at*;generalize lastG n l m0=L at*;obtain⟨⟨rs,rc,rh,rt,rf,rz⟩,ro,re⟩:=RR;simp only[]at*;by_cases g5:re=0
  case neg=>
   rw[if_neg g5]at hM;subst hM;have g5x:(re !=0)=true:=by simpa using g5
   unfold zStag zJr;clear g5;generalize l.filter (fun x=>decide (n<x.number))=F at*
   cases hF:F.length with
   |zero=>
    refine zgo2 ?_;exact zfin
   |succ q=>
    obtain⟨i1,i2⟩:=hR (by omega)
    refine zgo2 ?_;exact zfin
  rw[if_pos g5]at hM;subst hM;subst g5;simp only[];generalize l.filter (fun x=>decide (n<x.number))=F at*
  cases hF:F.length with
  |zero=>
   have hF0:F=[]:=List.eq_nil_of_length_eq_zero hF;subst hF0;clear hR hF;refine zgo2 ?_;exact zfin
  |succ q=>
   obtain⟨i1,i2⟩:=hR (by omega)
   have htk:F.take (q+1)=F:=List.take_of_length_le (by omega)
   refine zgo2 ?_;exact zfin
end Go.Proofs.YtioafciifiggaaaGreatDoor
namespace Go.Proofs.YtioafciifiggaaaGreatDoor
open Go.Proofs Go.AL
set_option maxRecDepth 100000
set_option maxHeartbeats 8000000
attribute [local irreducible] endA AW aops thenA blockA hold
attribute [local irreducible] numG
theorem qdrop_p(d:Dsk)(s:Stag)(n:Int)(hS:StagLen s)(hs:d.st.length≤1000000)(h2:d.ca.length≤1000000)(hk:∀s∈newL d.st d.ca,SecOK s):PC 11 [.agg (encD d),.agg (encSt s),zV n] (.tup [.agg (encSt (drpE d s n).1),.snap (encL opRow (drpE d s n).2.1),zV (drpE d s n).2.2]):=by
 refine pstart Tryz.func11 Tryz.ntmps11 (by simp only[go_sem,encSt]) ?_
 have c0:=rdcheck_p d hs h2;have c1:=qstchk_p s hS;have hj:=hS.sizes;have hcl:=hS.cycles;obtain⟨M,hM⟩:∃M,drpE d s n=M:=⟨_,rfl⟩;rw[hM];unfold drpE at hM;by_cases g0:dskE d=0
 case neg=>
  rw[if_neg g0]at hM;subst hM;have g0x:(dskE d !=0)=true:=by simpa using g0
  generalize dskE d=e at*;obtain⟨st,ca⟩:=d;obtain⟨⟨js,jc,jh,jt,jf,jz⟩,l⟩:=s;unfold encSt zStag zJr encD at*;simp only[]at*;clear c1 hk hS g0;refine zgo2 ?_;exact zfin
 rw[if_pos g0]at hM;rw[g0]at c0;clear g0;by_cases g1:stgE s=0
 case neg=>
  rw[if_neg g1]at hM;subst hM;have g1x:(stgE s !=0)=true:=by simpa using g1
  generalize stgE s=e at*;obtain⟨st,ca⟩:=d;obtain⟨⟨js,jc,jh,jt,jf,jz⟩,l⟩:=s;unfold encSt zStag zJr encD at*;simp only[]at*;clear hk hS g1;refine zgo2 ?_;exact zfin
 rw[if_pos g1]at hM;rw[g1]at c1;obtain⟨gj,-,g3⟩:=stgE_G g1;have hcor:=stG_cor s.j _ _ _ g3;have hrec:=fun x hx=>corS_recs (hcor x hx)
 obtain⟨hv,e1,e2,e3,e4,e5,e6,e7⟩:=jE_ok gj;have hN:jN s.j=s.j.first+s.j.sizes.length:=by unfold jN;rw[if_pos gj]
 have c2:=rnext_p s.j hj;rw[if_pos gj]at c2;clear g1 g3 hcor hv e5 e6 e7 gj;rw[hN]at hM hrec;by_cases g2:n<0∨1073741824<n
 ·rw[if_pos g2]at hM
  subst hM;obtain⟨st,ca⟩:=d;obtain⟨⟨js,jc,jh,jt,jf,jz⟩,l⟩:=s;unfold encSt zStag zJr encD encJ at*;simp only[]at*;clear hk hS hrec c2;by_cases g3:n<0
  ·refine zgo2 ?_
   exact zfin
  ·have g4:1073741824<n:=by omega
   refine zgo2 ?_;exact zfin
 rw[if_neg g2]at hM;have g3:¬n<0:=by omega
 have g4:¬1073741824<n:=by omega
 clear g2;have c3:=fun x hx=>qcopyS_p x (hS.one x hx).l2
 have c4:=fun q=>qrls_p d s.j q hj hs h2 hk
 have w1:IntKind.i64.wrap (s.j.first+(s.j.sizes.length:Int)-1)=s.j.first+(s.j.sizes.length:Int)-1:=IntWalk.i64_in _ (by omega)
 have hg:=gSt s.cycles;clear hk hS;generalize hRl:rlsE d s.j=R at*;obtain⟨st,ca⟩:=d;obtain⟨⟨js,jc,jh,jt,jf,jz⟩,l⟩:=s;unfold encSt encD encJ at*;simp only[]at*;clear hN;generalize hm0:jf+(jz.length:Int)-1=m0 at*
 replace hrec:=Lat.mk hrec
 replace c3:=Lat.mk c3
 refine zgo2 ?_
 refine zfor (α:=Nat) l.length (fun k id=> [(13,true,zV k),(11,true,.ptr 3 0 0),(12,true,zV (lastG n (l.take k) m0)),(3,true,.ptr 0 0 0),(4,true,.ptr 1 0 0),(6,true,.ptr 2 0 0),(2,true,zV n)])
  (fun k id=>(0,some (.cells 25 2 [[.snap (encL encSec st),.snap (encL encCa ca)]] true false))::(1,some (.cells 33 7 [[zV js,zV jc,zV jh,zV jt,zV jf,.snap (encL intRow jz),.snap (encL stgRow l)]] true false))::(2,some (.cells 33 7 [[zV 0,zV 0,zV 0,zV 0,zV 0,.c (.slice none 0 0),.c (.slice none 0 0)]] true false))::(3,some (.cells 33 7 [[zV 0,zV 0,zV 0,zV 0,zV 0,.c (.slice none 0 0),oV1 ((l.take k).filter fun x=>decide (n<x.number)).length id]] true false))::oT1 64 7 (encL stgRow ((l.take k).filter fun x=>decide (n<x.number))) ((l.take k).filter fun x=>decide (n<x.number)).length id)
  (fun k m id=>(4≤m∧((l.take k).filter fun x=>decide (n<x.number)).length≤k)∧(0<((l.take k).filter fun x=>decide (n<x.number)).length→4≤id∧id<m)) ⟨100,0,⟨⟨by omega,by simp⟩,fun h=>absurd h (by simp)⟩,zholds⟩ (fun k m id hk hR=> ?_) (fun m id hR=> ?_)
 ·obtain⟨⟨hm,hlk⟩,hR⟩:=hR
  have hgk:=hg k hk;rw[stgRow_eq]at hgk;have htk:=take_snoc9 zStg hk;have hlg:=lastG_snoc n (l.getD k zStg) (l.take k) m0;rw[←htk]at hlg;have hxr:=hrec.out _ (getD_mem' zStg hk);have cx:=c3.out _ (getD_mem' zStg hk);rw[stgRow_eq]at cx;rw[hlg,htk,List.filter_append];clear htk hg hM hlg hrec c3;generalize l.getD k zStg=x at*;generalize lastG n (l.take k) m0=L at*;generalize (l.take k).filter (fun x=>decide (n<x.number))=F at*
  obtain⟨xn,xp,xs,xh,xe,xr,xc⟩:=x;simp only[]at*;obtain⟨a,r,rfl⟩:=headD_cons hxr.1;have ha:=hxr.2 a (by simp)
  have wa:IntKind.i64.wrap (a-1)=a-1:=IntWalk.i64_in _ (by omega)
  have hr0:(0:Int)<((r.length+1:Nat):Int):=by omega
  have hg0:(encL intRow (a::r))[0]? =some [zV a]:=rfl;have h0r:0<r.length+1:=by omega
  have h0s:0<(a::r).length:=by simp
  have hh:List.headD (a::r) (0:Int)=a:=rfl;have hmin:min L (a-1)=if a-1<L then a-1 else L:=by split<;>omega
  rw[hh,hmin];clear hxr hh hmin;by_cases gn:n<xn
  ·have gn':¬xn≤n:=by omega
   rw[if_pos gn,show List.filter (fun x:Stg=>decide (n<x.number)) [⟨xn,xp,xs,xh,xe,a::r,xc⟩]=[⟨xn,xp,xs,xh,xe,a::r,xc⟩]from by simp[gn]]
   cases hF:F.length with
   |zero=>
    have hF0:F=[]:=List.eq_nil_of_length_eq_zero hF;subst hF0;clear hR hF;refine zgo2 ?_;exact⟨m+40,m+9,⟨⟨by omega,by simp⟩,fun _=>by omega⟩,zholds⟩
   |succ q=>
    obtain⟨i1,i2⟩:=hR (by omega)
    have hF2:(F++[(⟨xn,xp,xs,xh,xe,a::r,xc⟩:Stg)]).length=q+1+1:=by simp[hF]
    rw[hF2];clear hR hF2;refine zgo2 ?_;exact⟨m+40,m+9,⟨⟨by omega,by omega⟩,fun _=>by omega⟩,zholds⟩
  ·have gn':xn≤n:=by omega
   rw[if_neg gn,show List.filter (fun x:Stg=>decide (n<x.number)) [⟨xn,xp,xs,xh,xe,a::r,xc⟩]=[]from by simp[gn],List.append_nil]
   cases hF:F.length with
   |zero=>
    have hF0:F=[]:=List.eq_nil_of_length_eq_zero hF;subst hF0;clear hR hF;refine zgo2 ?_;exact⟨m+40,0,⟨⟨by omega,by omega⟩,fun h=>absurd h (by simp)⟩,zholds⟩
   |succ q=>
    obtain⟨i1,i2⟩:=hR (by omega)
    clear hR;refine zgo2 ?_;exact⟨m+40,id,⟨⟨by omega,by omega⟩,fun _=>by omega⟩,zholds⟩
 ·rw[List.take_length]at hR⊢
  obtain⟨⟨hm,hlk⟩,hR⟩:=hR;have c5:=c4 (lastG n l m0);clear hg c4 hrec c3;generalize hRR:R (lastG n l m0)=RR at*;generalize lastG n l m0=L at*;obtain⟨⟨rs,rc,rh,rt,rf,rz⟩,ro,re⟩:=RR;simp only[]at*;by_cases g5:re=0
  case neg=>
   rw[if_neg g5]at hM;subst hM;have g5x:(re !=0)=true:=by simpa using g5
   unfold zStag zJr;clear g5;generalize l.filter (fun x=>decide (n<x.number))=F at*
   cases hF:F.length with
   |zero=>
    refine zgo2 ?_;exact zfin
   |succ q=>
    obtain⟨i1,i2⟩:=hR (by omega)
    refine zgo2 ?_;exact zfin
  rw[if_pos g5]at hM;subst hM;subst g5;simp only[];generalize l.filter (fun x=>decide (n<x.number))=F at*
  cases hF:F.length with
  |zero=>
   have hF0:F=[]:=List.eq_nil_of_length_eq_zero hF;subst hF0;clear hR hF;refine zgo2 ?_;exact zfin
  |succ q=>
   obtain⟨i1,i2⟩:=hR (by omega)
   have htk:F.take (q+1)=F:=List.take_of_length_le (by omega)
   refine zgo2 ?_;exact zfin
end Go.Proofs.YtioafciifiggaaaGreatDoor
