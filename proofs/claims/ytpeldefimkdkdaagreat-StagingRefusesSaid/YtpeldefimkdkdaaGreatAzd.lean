/- Staging: contracts of its functions (Azd). No condition but those named. -/
import Derived.Test.YtpeldefimkdkdaaGreatAzc
set_option linter.unusedVariables false
set_option linter.unusedSimpArgs false
namespace Go.Proofs.YtpeldefimkdkdaaGreat
open Go.Proofs Go.AL
set_option maxRecDepth 100000
set_option maxHeartbeats 8000000
attribute [local irreducible] endA AW aops thenA blockA hold
attribute [local irreducible] numG
structure StgL2(x:Stg):Prop where
 asm:AsmOK (asm x)
 records:x.records.length≤100000
theorem StgLen.l2{x:Stg}(h:StgLen x):StgL2 x:=⟨h.asm.ok,h.records⟩
theorem qcopyS_p(x:Stg)(hx:StgL2 x):PC 101 [.agg (stgRow x)] (.agg (stgRow x)):=by
 refine pstart Tryz.func101 Tryz.ntmps101 (by rw[stgRow_eq];simp only[go_sem]) ?_
 have c1:=qasm_p x;have c2:=qcopyA_p (asm x) hx.asm;have c3:=with0_p x.records hx.records;have c4:PC 56 [.agg (encA (asm x)),.snap (encL intRow x.records),bV x.closed] (.agg (stgRow x)):=qstaged_p (asm x) x.records x.closed;clear hx;obtain⟨n,p,s,h,e,r,c⟩:=x;rw[stgRow_eq]at*;unfold asm encA at*;simp only[]at*;refine zgo2 ?_;exact zfin
theorem stgRows_expo(G:Nat→Option Blk)(k:Nat)(l:List Stg):(encL stgRow l).map (fun row=>row.map (expoD G k))=encL stgRow l:=by
 unfold encL;rw[List.map_map];refine List.map_congr_left fun o _=> ?_
 cases k<;>simp[stgRow,expoD]
theorem qcopy_p(s:Stag)(hz:s.j.sizes.length≤100000)(hl:s.cycles.length≤100000)(ho:∀x∈s.cycles,StgL2 x):PC 55 [.agg (encSt s)] (.agg (encSt s)):=by
 refine pstartD Tryz.func55 Tryz.ntmps55 (by simp only[go_sem,encSt]) ?_
 have c1:=cpj_p s.j hz;have hc:∀k,k<s.cycles.length→PC 101 [.agg (stgRow (s.cycles.getD k zStg))] (.agg (stgRow (s.cycles.getD k zStg))):=fun k hk=>qcopyS_p _ (ho _ (getD_mem' zStg hk))
 clear ho hz;obtain⟨⟨js,jc,jh,jt,jf,jz⟩,l⟩:=s;unfold encSt encJ at*;simp only[]at*;have hg:=gSt l
 replace hc:=Lat.mk hc
 refine zgo2 ?_;refine zfor (α:=Nat) l.length (fun k id=> [(4,true,zV k),(3,true,.ptr 2 0 0),(2,true,.ptr 1 0 0),(1,true,.ptr 0 0 0)]) (fun k id=>(0,some (.cells 29 7 [[zV js,zV jc,zV jh,zV jt,zV jf,.snap (encL intRow jz),.snap (encL stgRow l)]] true false))::(1,some (.cells 29 7 [[zV 0,zV 0,zV 0,zV 0,zV 0,.c (.slice none 0 0),.c (.slice none 0 0)]] true false))::(2,some (.cells 29 7 [[zV js,zV jc,zV jh,zV jt,zV jf,.snap (encL intRow jz),oV1 k id]] true false))::oT1 73 7 (encL stgRow (l.take k)) k id) (fun k m id=>3≤m∧(0<k→3≤id∧id<m)) ⟨100,0,⟨by omega,fun h=>absurd h (by omega)⟩,zholds⟩ (fun k m id hk hR=> ?_) (fun m id hR=> ?_)
 ·obtain⟨hm,hR⟩:=hR
  have hgk:=hg k hk;have c2:=hc.out k hk;have htk:=take_snoc9 zStg hk;have hFl:(l.take k).length=k:=by rw[List.length_take];omega
  rw[htk];clear htk hg hc c1;generalize l.take k=F at*;generalize l.getD k zStg=x at*;obtain⟨n,p,s,h,e,r,c⟩:=x;rw[stgRow_eq]at hgk c2;simp only[]at*;have hone:encL stgRow ([]++[⟨n,p,s,h,e,r,c⟩])=[[zV n,zV p,zV s,.snap (encL byteL h),.snap (encL boolRow e),.snap (encL intRow r),bV c]]:=rfl;cases k with
  |zero=>
   have hF0:F=[]:=List.eq_nil_of_length_eq_zero hFl;subst hF0;clear hR hFl;refine zgo2 ?_;exact⟨m+40,m+9,⟨by omega,fun _=>by omega⟩,zholds⟩
  |succ q=>
   obtain⟨i1,i2⟩:=hR (by omega)
   clear hR hone;refine zgo2 ?_;exact⟨m+40,m+9,⟨by omega,fun _=>by omega⟩,zholds⟩
 ·obtain⟨hm,hR⟩:=hR
  rw[List.take_length];clear hg hc c1;cases hh:l.length with
  |zero=>
   have hh0:l=[]:=List.eq_nil_of_length_eq_zero hh;subst hh0;clear hR hh;refine zgo2 ?_;exact zfin2
  |succ q=>
   obtain⟨i1,i2⟩:=hR (by omega)
   have hex:=fun G k=>stgRows_expo G k l
   have htk:l.take (q+1)=l:=List.take_of_length_le (by omega)
   have hno:(∀row,row∈encL stgRow l→∀x,x∈row→NoId x)=True:=eq_true (encL_ids l);clear hR;refine zgo2 ?_;exact zfin2
end Go.Proofs.YtpeldefimkdkdaaGreat
namespace Go.Proofs.YtpeldefimkdkdaaGreat
open Go.Proofs Go.AL
set_option maxRecDepth 100000
set_option maxHeartbeats 8000000
attribute [local irreducible] endA AW aops thenA blockA hold
attribute [local irreducible] numG
theorem corS_len{j:Jr}{x:Stg}(h:corS j x=true):x.records.length≤65537:=by
 unfold corS at h;split at h
 ·rename_i g
  obtain⟨-,-,-,p,-,-,-,q,-⟩:=asmE_ok g;split at h
  ·exact absurd h (by decide)
  ·split at h
   ·exact absurd h (by decide)
   ·split at h
    ·have h2:x.records.length=needN x:=by simpa using h
     have h3:seenN x≤x.seen.length:=List.length_filter_le _ _;have h4:(x.seen.length:Int)=(asm x).parts:=q;rw[h2];unfold needN;split<;>omega
    ·exact absurd h (by decide)
 ·exact absurd h (by decide)
theorem putSt_len(l:List Stg)(x:Stg):(putSt l x).length≤l.length+1:=by
 have:=fndI_le l x.number;unfold putSt;split
 ·rw[List.length_set];omega
 ·rw[List.length_append,List.length_cons,List.length_take,List.length_drop];omega
theorem putSt_mem{l:List Stg}{x y:Stg}(h:y∈putSt l x):y=x∨y∈l:=by
 unfold putSt at h;split at h
 ·rcases List.mem_or_eq_of_mem_set h with h|h
  ·exact .inr h
  ·exact .inl h
 ·rcases List.mem_append.1 h with h|h
  ·exact .inr (List.mem_of_mem_take h)
  ·rcases List.mem_cons.1 h with h|h
   ·exact .inl h
   ·exact .inr (List.mem_of_mem_drop h)
theorem appE_len{j:Jr}{k:Int}{p:List Int}:(appE j k p).1.sizes.length≤j.sizes.length+1:=by
 unfold appE;split
 ·split
  ·split
   ·simp[zJr]
   ·split
    ·simp[zJr]
    ·simp
  ·simp[zJr]
 ·simp[zJr]
theorem sizes_len{j:Jr}(h:jE j=0):j.sizes.length≤2100:=by
 obtain⟨hv,-,-,-,-,-,h6,h7⟩:=jE_ok h;have:=(sum_len _ (any_f h7)).1;have:=validB_rng hv;omega
theorem qtail{s:Stag}(k:Int)(p:List Int)(x:Stg)(hs:StagLen s)(hg:stgE s=0)(hx:StgL2 x)(hp:∀x∈p,ByteOK x)(hpl:p.length≤100000):
  PC 60 [.agg (encJ s.j),zV k,.snap (encL byteRow p)] (.tup [.agg (encJ (appE s.j k p).1),.snap (encL opRow (appE s.j k p).2.1),zV (appE s.j k p).2.2])∧
  PC 61 [.snap (encL stgRow s.cycles),.agg (stgRow x)] (.snap (encL stgRow (putSt s.cycles x)))∧
  PC 55 [.agg (encSt ⟨(appE s.j k p).1,putSt s.cycles x⟩)] (.agg (encSt ⟨(appE s.j k p).1,putSt s.cycles x⟩)):=by
 obtain⟨hj,hcl,h3⟩:=stgE_G hg;have hso:=stG_sort h3;have hz:=sizes_len hj;refine⟨rappend_p s.j k p hs.sizes hp hpl,qput_p s.cycles x hso hs.cycles,qcopy_p _ ?_ ?_ fun y hy=> ?_⟩
 ·have:=appE_len (j:=s.j) (k:=k) (p:=p)
  simp only[];omega
 ·have:=putSt_len s.cycles x
  simp only[];omega
 ·rcases putSt_mem hy with h|h
  ·subst h;exact hx
  ·exact(hs.one y h).l2
theorem qstadd_p(s:Stag)(p:List Int)(hs:StagLen s)(hp:∀x∈p,ByteOK x)(hpl:p.length≤100000):PC 18 [.agg (encSt s),.snap (encL byteRow p)] (.tup [.agg (encSt (addS s p).1),.snap (encL opRow (addS s p).2.1),zV (addS s p).2.2]):=by
 refine pstart Tryz.func18 Tryz.ntmps18 (by simp only[go_sem,encSt]) ?_
 have c1:=qstchk_p s hs;have c2:=qheader_p p hp hpl;have c5:=qbeg_p p hp hpl;have c6:=qcopy_p s hs.sizes hs.cycles (fun x hx=>(hs.one x hx).l2)
 have hbo:=begE_OK hp;have hbe:=begE_e p;have hJ:=rnext_p s.j hs.sizes;have hag:∀(x:Stg),StgLen x→AsmOK (addE (asm x) p).1:=fun x hx=>addE_OK hx.asm.ok hp
 have hadd:=fun(x:Stg) (hx:StgLen x)=>qadd_p (asm x) p hx.asm hp hpl
 have hT:=fun(x:Stg) (hg:stgE s=0) (hx:StgL2 x)=>qtail 1 p x hs hg hx hp hpl
 have hG:= @stgE_G s;have hone:=hs.one;have hl:=hs.cycles;obtain⟨M,hM⟩:∃M,addS s p=M:=⟨_,rfl⟩;rw[hM];unfold addS at hM;clear hs;by_cases g1:stgE s=0
 case neg=>
  rw[if_neg g1]at hM;subst hM;obtain⟨⟨js,jc,jh,jt,jf,jz⟩,l⟩:=s;unfold encSt at*;simp only[]at*;generalize stgE ⟨⟨js,jc,jh,jt,jf,jz⟩,l⟩=e at*;clear hG hone hag hadd hT c2 c5 c6 hJ hbo hbe;refine zgo2 ?_;exact zfin
 rw[if_pos g1]at hM
 replace hT:=fun x=>hT x g1
 rw[g1]at c1;obtain⟨hj,-,h3⟩:=hG g1;have hso:=stG_sort h3;have hcor:=stG_cor s.j _ _ _ h3;rw[if_pos hj]at hJ;have hN:jN s.j=s.j.first+s.j.sizes.length:=by unfold jN;rw[if_pos hj]
 rw[hN]at hM;clear hN hG g1 h3 hj;generalize begE p=B at*;obtain⟨ba,be⟩:=B;simp only[]at hbo hbe c5;subst hbe;by_cases g2:(parE p).2=0
 case neg=>
  rw[if_neg g2]at hM;subst hM;obtain⟨⟨js,jc,jh,jt,jf,jz⟩,l⟩:=s;unfold encSt at*;simp only[]at*;generalize parE p=R at*;obtain⟨⟨n,i,pp,ps,pl⟩,e⟩:=R;clear hone hag hadd hT c5 c6 hJ hbo;refine zgo2 ?_;exact zfin
 rw[if_pos g2]at hM;rw[g2]at c2 c5;have c4:=qfind_p s.cycles (parE p).1.number hso hl;unfold fndQ at c4;generalize parE p=R at*;obtain⟨⟨n,pi,pp,ps,pl⟩,e⟩:=R;simp only[]at*;subst g2;by_cases g3:fndB s.cycles n=true
 case neg=>
  rw[if_neg g3]at hM c4;clear g3 hadd hag hone hcor c6;by_cases g4:1024≤s.cycles.length
  ·rw[if_pos g4]at hM
   subst hM;have g4':(1024:Int)≤s.cycles.length:=by omega
   obtain⟨⟨js,jc,jh,jt,jf,jz⟩,l⟩:=s;unfold encSt encJ at*;simp only[]at*;clear hT hbo c5;refine zgo2 ?_;exact zfin
  ·rw[if_neg g4]at hM
   have g4':¬(1024:Int)≤s.cycles.length:=by omega
   have c7:=qstaged_p ba [s.j.first+s.j.sizes.length] false
   have hr1:encL intRow [s.j.first+(s.j.sizes.length:Int)]=[[zV (s.j.first+(s.j.sizes.length:Int))]]:=rfl
   rw[hr1]at c7;obtain⟨c12,c13,c14⟩:=hT (stgOf ba [s.j.first+s.j.sizes.length] false) ⟨hbo,by simp[stgOf]⟩
   clear hT hbo hr1;unfold addedE at hM;obtain⟨⟨js,jc,jh,jt,jf,jz⟩,l⟩:=s;obtain⟨bn,bp,bs,bh,bz⟩:=ba;rw[stgRow_eq]at c7 c13;unfold stgOf at*;simp only[]at*;generalize appE ⟨js,jc,jh,jt,jf,jz⟩ 1 p=E at*;obtain⟨⟨ks,kc,kh,kt,kf,kz⟩,ops,e⟩:=E;unfold encSt encJ encA at*;simp only[]at*;generalize putSt l ⟨bn,bp,bs,bh,bz,[jf+(jz.length:Int)],false⟩=L at*;generalize jf+(jz.length:Int)=N at*;by_cases gE:e=0
   ·rw[if_pos gE]at hM
    subst hM gE;simp only[];refine zgo2 ?_;refine zdrawX ?_;refine zgo2 ?_;exact zfin
   ·rw[if_neg gE]at hM
    subst hM;unfold zStag zJr;simp only[];clear c13 c14;refine zgo2 ?_;refine zdrawX ?_;refine zgo2 ?_;exact zfin
 ·rw[if_pos g3]at hM c4
  obtain⟨hi,-⟩:=fndB_lt g3;clear g3 c5 hbo;generalize fndI s.cycles n=i at*;have hgi:=gSt s.cycles i hi;have hx:=hone _ (getD_mem' zStg hi);have hxl:=corS_len (hcor _ (getD_mem' zStg hi));generalize s.cycles.getD i zStg=x at*;have c7:=qasm_p x;have c8:=hadd x hx;have hao:=hag x hx;have c9:=qsame_p (addE (asm x) p).1 (asm x) hao.have_ hx.asm.have_ hao.seen hx.asm.seen (fun y hy=>(hao.one y hy).2) (fun y hy=>(hx.asm.one y hy).2)
  have c10:=with_p x.records [s.j.first+s.j.sizes.length] (by omega) (by simp)
  have hr1:encL intRow [s.j.first+(s.j.sizes.length:Int)]=[[zV (s.j.first+(s.j.sizes.length:Int))]]:=rfl
  rw[hr1]at c10;have c11:=qstaged_p (addE (asm x) p).1 (x.records++[s.j.first+s.j.sizes.length]) x.closed
  have hT2:=hT (stgOf (addE (asm x) p).1 (x.records++[s.j.first+s.j.sizes.length]) x.closed) ⟨hao,by unfold stgOf;simp only[List.length_append,List.length_cons,List.length_nil];omega⟩
  clear hadd hag hT hone hcor hx hao hr1;generalize addE (asm x) p=A at*;obtain⟨aa,ae⟩:=A;simp only[]at*;by_cases g5:ae=0
  case neg=>
   rw[if_neg g5]at hM;subst hM;obtain⟨⟨js,jc,jh,jt,jf,jz⟩,l⟩:=s;obtain⟨xn,xp,xs,xh,xe,xr,xc⟩:=x;obtain⟨bn,bp,bs,bh,bz⟩:=aa;rw[stgRow_eq]at*;unfold encSt encJ encA asm at*;simp only[]at*;clear c6 c9 c10 c11 hT2;refine zgo2 ?_;exact zfin
  rw[if_pos g5]at hM;subst g5;by_cases g6:aa=asm x
  ·rw[if_pos g6]at hM
   subst hM;rw[decide_eq_true g6]at c9;subst g6;obtain⟨⟨js,jc,jh,jt,jf,jz⟩,l⟩:=s;obtain⟨xn,xp,xs,xh,xe,xr,xc⟩:=x;rw[stgRow_eq]at*;unfold encSt encJ encA asm at*;simp only[]at*;clear c10 c11 hT2;refine zgo2 ?_;exact zfin
  ·rw[if_neg g6]at hM
   rw[decide_eq_false g6]at c9;clear g6 c6;obtain⟨c12,c13,c14⟩:=hT2;unfold addedE at hM;obtain⟨⟨js,jc,jh,jt,jf,jz⟩,l⟩:=s;obtain⟨xn,xp,xs,xh,xe,xr,xc⟩:=x;obtain⟨bn,bp,bs,bh,bz⟩:=aa;rw[stgRow_eq]at c7 hgi c11 c13;unfold stgOf asm at*;simp only[]at*;generalize appE ⟨js,jc,jh,jt,jf,jz⟩ 1 p=E at*;obtain⟨⟨ks,kc,kh,kt,kf,kz⟩,ops,e⟩:=E;unfold encSt encJ encA at*;simp only[]at*;generalize putSt l ⟨bn,bp,bs,bh,bz,xr++[jf+(jz.length:Int)],xc⟩=L at*
   generalize jf+(jz.length:Int)=N at*;by_cases gE:e=0
   ·rw[if_pos gE]at hM
    subst hM gE;simp only[];refine zgo2 ?_;refine zdrawX ?_;refine zgo2 ?_;exact zfin
   ·rw[if_neg gE]at hM
    subst hM;unfold zStag zJr;simp only[];clear c13 c14;refine zgo2 ?_;refine zdrawX ?_;refine zgo2 ?_;exact zfin
end Go.Proofs.YtpeldefimkdkdaaGreat
namespace Go.Proofs.YtpeldefimkdkdaaGreat
open Go.Proofs Go.AL
set_option maxRecDepth 100000
set_option maxHeartbeats 8000000
attribute [local irreducible] endA AW aops thenA blockA hold
attribute [local irreducible] numG
theorem qstseal_p(s:Stag)(n:Int)(hs:StagLen s):PC 20 [.agg (encSt s),zV n] (.tup [.agg (encSt (sealS s n).1),.snap (encL opRow (sealS s n).2.1),zV (sealS s n).2.2]):=by
 refine pstart Tryz.func20 Tryz.ntmps20 (by simp only[go_sem,encSt]) ?_
 have c1:=qstchk_p s hs;have c6:=qcopy_p s hs.sizes hs.cycles (fun x hx=>(hs.one x hx).l2)
 have hJ:=rnext_p s.j hs.sizes;have hvl:(vint n).length≤100000:=by have:=vint_len n;omega
 have hT:=fun(x:Stg) (hg:stgE s=0) (hx:StgL2 x)=>qtail 2 (vint n) x hs hg hx (vint_ok n) hvl
 have hG:= @stgE_G s;have hone:=hs.one;have hl:=hs.cycles
 have c3:PC 63 [.c (.slice none 0 0),zV n] (.snap (encL byteRow (vint n))):=by
  have:=rputInt_p [] n (by simp)
  rw[List.nil_append]at this;exact PCall.less this (wks_mid (xs:=[]) (ys:=[zV n]))
 obtain⟨M,hM⟩:∃M,sealS s n=M:=⟨_,rfl⟩;rw[hM];unfold sealS at hM;clear hs;by_cases g1:stgE s=0
 case neg=>
  rw[if_neg g1]at hM;subst hM;obtain⟨⟨js,jc,jh,jt,jf,jz⟩,l⟩:=s;unfold encSt at*;simp only[]at*;generalize stgE ⟨⟨js,jc,jh,jt,jf,jz⟩,l⟩=e at*;clear hG hone hT c3 c6 hJ;refine zgo2 ?_;exact zfin
 rw[if_pos g1]at hM
 replace hT:=fun x=>hT x g1
 rw[g1]at c1;obtain⟨hj,-,h3⟩:=hG g1;have hso:=stG_sort h3;have hcor:=stG_cor s.j _ _ _ h3;rw[if_pos hj]at hJ;have hN:jN s.j=s.j.first+s.j.sizes.length:=by unfold jN;rw[if_pos hj]
 rw[hN]at hM;clear hN hG g1 h3 hj;have c4:=qfind_p s.cycles n hso hl;unfold fndQ at c4;by_cases g3:fndB s.cycles n=true
 case neg=>
  rw[if_neg g3]at hM c4;subst hM;clear g3 hone hcor c3 c6 hT;obtain⟨⟨js,jc,jh,jt,jf,jz⟩,l⟩:=s;unfold encSt encJ at*;simp only[]at*;refine zgo2 ?_;exact zfin
 rw[if_pos g3]at hM c4;obtain⟨hi,-⟩:=fndB_lt g3;clear g3;generalize fndI s.cycles n=i at*;have hgi:=gSt s.cycles i hi;have hx:=hone _ (getD_mem' zStg hi);have hxl:=corS_len (hcor _ (getD_mem' zStg hi));generalize s.cycles.getD i zStg=x at*;by_cases g4:x.closed=true
 ·rw[if_pos g4]at hM
  subst hM;obtain⟨⟨js,jc,jh,jt,jf,jz⟩,l⟩:=s;obtain⟨xn,xp,xs,xh,xe,xr,xc⟩:=x;rw[stgRow_eq]at*;unfold encSt encJ at*;simp only[]at*;subst g4;clear hT hone hcor c3;refine zgo2 ?_;exact zfin
 rw[if_neg g4]at hM;have g4':x.closed=false:=by simpa using g4
 have c7:=qasm_p x;have c8:=qcyc_p (asm x) hx.asm;have c10:=with_p x.records [s.j.first+s.j.sizes.length] (by omega) (by simp)
 have hr1:encL intRow [s.j.first+(s.j.sizes.length:Int)]=[[zV (s.j.first+(s.j.sizes.length:Int))]]:=rfl
 rw[hr1]at c10;have c11:=qstaged_p (asm x) (x.records++[s.j.first+s.j.sizes.length]) true
 have hT2:=hT (stgOf (asm x) (x.records++[s.j.first+s.j.sizes.length]) true) ⟨hx.asm.ok,by unfold stgOf;simp only[List.length_append,List.length_cons,List.length_nil];omega⟩
 clear hT hone hcor hx c6 g4 hr1;generalize acyE (asm x)=cy at*;obtain⟨⟨cb,cn,ct,cp,cw⟩,ce⟩:=cy;unfold encC at c8;simp only[]at*;by_cases g5:ce=0
 case neg=>
  rw[if_neg g5]at hM;subst hM;obtain⟨⟨js,jc,jh,jt,jf,jz⟩,l⟩:=s;obtain⟨xn,xp,xs,xh,xe,xr,xc⟩:=x;rw[stgRow_eq]at hgi c7;unfold encSt encJ encA asm at*;simp only[]at*;subst g4';clear c3 c10 c11 hT2;refine zgo2 ?_;exact zfin
 rw[if_pos g5]at hM;subst g5;obtain⟨c12,c13,c14⟩:=hT2;unfold addedE at hM;obtain⟨⟨js,jc,jh,jt,jf,jz⟩,l⟩:=s;obtain⟨xn,xp,xs,xh,xe,xr,xc⟩:=x;rw[stgRow_eq]at c7 hgi c11 c13;unfold stgOf asm at*;simp only[]at*;subst g4';generalize appE ⟨js,jc,jh,jt,jf,jz⟩ 2 (vint n)=E at*;obtain⟨⟨ks,kc,kh,kt,kf,kz⟩,ops,e⟩:=E;unfold encSt encJ encA at*;simp only[]at*;generalize putSt l ⟨xn,xp,xs,xh,xe,xr++[jf+(jz.length:Int)],true⟩=L at*
 generalize jf+(jz.length:Int)=N at*;generalize vint n=V at*;by_cases gE:e=0
 ·rw[if_pos gE]at hM
  subst hM gE;simp only[];refine zgo2 ?_;refine zdrawX ?_;refine zgo2 ?_;exact zfin
 ·rw[if_neg gE]at hM
  subst hM;unfold zStag zJr;simp only[];clear c13 c14;refine zgo2 ?_;exact zfin
end Go.Proofs.YtpeldefimkdkdaaGreat
