/- Staging: contracts of its functions (Aza). No condition but those named. -/
import Derived.Test.YtpeldefimkdkdaaGreatAw
import Derived.Test.YtpeldefimkdkdaaGreatAv
import Derived.Test.YtpeldefimkdkdaaGreatAu
import Derived.Test.YtpeldefimkdkdaaGreatLg
import Derived.Test.YtpeldefimkdkdaaGreatAr
set_option linter.unusedVariables false
set_option linter.unusedSimpArgs false
namespace Go.Proofs.YtpeldefimkdkdaaGreat
open Go.Proofs Go.AL
set_option maxRecDepth 100000
set_option maxHeartbeats 8000000
attribute [local irreducible] endA AW aops thenA blockA hold
attribute [local irreducible] numG
theorem stcopied_p(l:List Stg)(hl:l.length≤100000)(ho:∀x∈l,StgLen x):PC 91 [.snap (encL stgRow l)] (.snap (encL stgRow l)):=by
 refine pstart Tryz.func91 Tryz.ntmps91 (encL_noId _) ?_;have hg:=gSt l
 replace ho:=Lat.mk ho
 refine zgo2 ?_;refine zfor (α:=Nat) l.length (fun k id=> [(8,true,zV k),(7,true,zV l.length),(6,true,.snap (encL stgRow l)),(3,true,oV1 k id)]) (fun k id=>oT1 73 7 (encL stgRow (l.take k)) k id) (fun k m id=>(0<k→id<m)) ⟨100,0,fun h=>absurd h (by omega),zholds⟩ (fun k m id hk hR=> ?_) (fun m id hR=> ?_)
 ·have hgk:=hg k hk
  have hx:=ho.out _ (getD_mem' zStg hk);have htk:=take_snoc9 zStg hk;have hFl:(l.take k).length=k:=by rw[List.length_take];omega
  have c1:=asm_p (l.getD k zStg);have c2:PC 47 [.agg (encA (asm (l.getD k zStg))),.snap (encL intRow (l.getD k zStg).records),bV (l.getD k zStg).closed] (.agg (stgRow (l.getD k zStg))):=staged_p (asm (l.getD k zStg)) (l.getD k zStg).records (l.getD k zStg).closed hx.asm.have_ hx.asm.seen (fun y hy=>(hx.asm.one y hy).1) (by have:=hx.records;omega)
  rw[htk];clear htk hg ho hx;generalize l.take k=F at*;generalize l.getD k zStg=x at*;obtain⟨n,p,s,h,e,r,c⟩:=x;rw[stgRow_eq]at hgk c1 c2;unfold asm encA at c1 c2;simp only[]at*;have hone:encL stgRow ([]++[⟨n,p,s,h,e,r,c⟩])=[[zV n,zV p,zV s,.snap (encL byteL h),.snap (encL boolRow e),.snap (encL intRow r),bV c]]:=rfl;cases k with
  |zero=>
   have hF0:F=[]:=List.eq_nil_of_length_eq_zero hFl;subst hF0;clear hR hFl;refine zgo2 ?_;exact⟨m+40,m+1+1+9,fun _=>by omega,zholds⟩
  |succ q=>
   have i2:=hR (by omega)
   clear hR hone;refine zgo2 ?_;exact⟨m+40,m+1+1+9,fun _=>by omega,zholds⟩
 ·rw[List.take_length]
  clear hg ho;cases hh:l.length with
  |zero=>
   have hh0:l=[]:=List.eq_nil_of_length_eq_zero hh;subst hh0;clear hR hh;refine zgo2 ?_;exact zfin
  |succ q=>
   have i2:=hR (by omega)
   have htk:l.take (q+1)=l:=List.take_of_length_le (by omega)
   clear hR;refine zgo2 ?_;exact zfin
theorem stput_p(l:List Stg)(x:Stg)(hs:SortS l)(hl:l.length≤100000):PC 92 [.snap (encL stgRow l),.agg (stgRow x)] (.snap (encL stgRow (putSt l x))):=by
 have c1:=sfind_p l x.number hs hl;by_cases hne:l=[]
 ·subst hne
  have hp:putSt [] x=[x]:=rfl;have hfi:fndI [] x.number=0:=rfl;have hfb:fndB [] x.number=false:=rfl;rw[hp];rw[hfi,hfb]at c1;clear hp hfi hfb hs hl;obtain⟨n,p,s,h,e,r,c⟩:=x;refine PCall.nil (pre:=[]) (post:=[.agg (stgRow ⟨n,p,s,h,e,r,c⟩)]) fun a cap=> ?_
  show PC 92 [.c (.slice a 0 cap),.agg (stgRow ⟨n,p,s,h,e,r,c⟩)] _
  refine pstart Tryz.func92 Tryz.ntmps92 (encL_noId _) ?_;have hone:encL stgRow [⟨n,p,s,h,e,r,c⟩]=[[zV n,zV p,zV s,.snap (encL byteL h),.snap (encL boolRow e),.snap (encL intRow r),bV c]]:=rfl;rw[hone];rw[stgRow_eq];simp only[]at*
  have c2:PC 30 [.c (.slice a 0 cap),zV n] (.tup [zV 0,bV false]):=PCall.less c1 (by
   refine wks_cons .nil (wks_refl _))
  clear c1;have hz:((0:Nat):Int)=0:=rfl;refine zgo2 ?_;refine zin Tryz.func139 Tryz.ntmps139 ?_;cases a with
  |none=>
   refine zgo2 ?_;refine zin Tryz.func140 Tryz.ntmps140 ?_
   (repeat (first|refine zappT (p:=_) ?_ uC uS rfl rfl rfl (by(first|rfl|decide)) (by(first|(simp(maxSteps:=2000000) (disch:=omega) only[go_sem, *]<;>exact rfl)|fail))|refine zstep ?_))
   exact zfin
  |some a=>
   refine zgo2 ?_;refine zin Tryz.func140 Tryz.ntmps140 ?_
   (repeat (first|refine zappT (p:=_) ?_ uC uS rfl rfl rfl (by(first|rfl|decide)) (by(first|(simp(maxSteps:=2000000) (disch:=omega) only[go_sem, *]<;>exact rfl)|fail))|refine zstep ?_))
   exact zfin
 ·refine pstart Tryz.func92 Tryz.ntmps92 (encL_noId _) ?_
  have c2:=cloneSt_o l hne (by omega)
  have hle:=fndI_le l x.number;have hlt:=fun h=>(fndB_lt (l:=l) (n:=x.number) h).1
  obtain⟨R,hR⟩:∃R,putSt l x=R:=⟨_,rfl⟩;rw[hR];unfold putSt at hR;generalize fndI l x.number=i at*;generalize fndB l x.number=fb at*;clear hs;have hset:(encL stgRow l).set i (stgRow x)=encL stgRow (l.set i x):=encL_set l i x
  have hins:insR (encL stgRow l) i (stgRow x)=encL stgRow (l.take i++x::l.drop i):=by
   unfold insR;rw[encL_take,encL_drop,encL_one,encL_app,encL_app];simp
  have hall:(encL stgRow l).all (fun r=>r.length==7&&r.all AV.one)=true:=encL_all l
  have hall1:([stgRow x]).all (fun r=>r.length==7&&r.all AV.one)=true:=encL_all (f:=stgRow) [x]
  have hend:i=l.length→encL stgRow l++[stgRow x]=encL stgRow (l.take i++x::l.drop i):=fun h=>by rw[h,List.take_length,List.drop_length];exact encL_snoc l x
  have hEl:(encL stgRow l).length=l.length:=encL_len l;have hno:(∀row,row∈encL stgRow l→∀x,x∈row→NoId x)=True:=eq_true (encL_ids l);obtain⟨n,p,s,h,e,r,c⟩:=x;rw[stgRow_eq]at hset hins hall1 hend⊢;simp only[]at*;cases fb with
  |true=>
   have hi:=hlt rfl;rw[if_pos rfl]at hR;rw[hR]at hset;have hgi:=gSt l i hi;rw[stgRow_eq]at hgi;clear hins hall hall1 hend hlt hle hR;have hEr:(encL stgRow R).length=l.length:=by rw[←hset,List.length_set,hEl]
   have hno2:(∀row,row∈encL stgRow R→∀x,x∈row→NoId x)=True:=eq_true (encL_ids R);have htk:(encL stgRow R).take l.length=encL stgRow R:=List.take_of_length_le (by omega)
   generalize encL stgRow R=RR at*;refine zgo2 ?_;exact zfin
  |false=>
   rw[if_neg (by decide)]at hR
   rw[hR]at hins hend;clear hset hlt;rcases Nat.lt_or_ge i l.length with hi|hi
   ·clear hend
    have ha:=ins_act (H:=⟨3,tabG [(1,some (.cells 73 7 (encL stgRow l) true true)),(2,some (.cells 73 7 [[zV n,zV p,zV s,.snap (encL byteL h),.snap (encL boolRow e),.snap (encL intRow r),bV c]] true true))]⟩) (id:=1) (id2:=2) (i:=i) (by decide) rfl rfl (by omega) (by omega) hall hall1
    rw[hEl,hins]at ha
    have hRl:R.length=l.length+1:=by
     have h9:=congrArg List.length hR;rw[List.length_append,List.length_cons,List.length_take,List.length_drop]at h9;omega
    have hno2:(∀row,row∈encL stgRow R→∀x,x∈row→NoId x)=True:=eq_true (encL_ids R);have htk:R.take (l.length+1)=R:=List.take_of_length_le (by omega)
    clear hins hall hall1 hR;refine zgo2 ?_;refine zact ha ?_;rintro r' H' ⟨rfl,rfl⟩;refine zgo2 ?_;exact zfin
   ·have hi':i=l.length:=by omega
    have hend:=hend hi'
    have hRl:R.length=l.length+1:=by
     have h9:=congrArg List.length hR;rw[List.length_append,List.length_cons,List.length_take,List.length_drop]at h9;omega
    have hno2:(∀row,row∈encL stgRow R→∀x,x∈row→NoId x)=True:=eq_true (encL_ids R);have htk:R.take (l.length+1)=R:=List.take_of_length_le (by omega)
    clear hins hall hall1 hle hi hR;subst hi';refine zgo2 ?_;refine zin Tryz.func140 Tryz.ntmps140 ?_
    (repeat (first|refine zappT (p:=_) ?_ uC uS rfl rfl rfl (by(first|rfl|decide)) (by(first|(simp(maxSteps:=2000000) (disch:=omega) only[go_sem, *]<;>exact rfl)|fail))|refine zstep ?_))
    exact zfin
end Go.Proofs.YtpeldefimkdkdaaGreat
namespace Go.Proofs.YtpeldefimkdkdaaGreat
open Go.Proofs Go.AL
set_option maxRecDepth 100000
set_option maxHeartbeats 8000000
attribute [local irreducible] endA AW aops thenA blockA hold
attribute [local irreducible] numG
theorem with_p(l m:List Int)(hl:l.length≤100000)(hm:m.length≤100000):PC 57 [.snap (encL intRow l),.snap (encL intRow m)] (.snap (encL intRow (l++m))):=by
 refine pstart Tryz.func57 Tryz.ntmps57 (encL_noId _) ?_;have he:encL intRow l++encL intRow m=encL intRow (l++m):=encL_app l m;have e1:(encL intRow l).length=l.length:=encL_len l;have e2:(encL intRow m).length=m.length:=encL_len m;by_cases h:l=[]
 ·subst h
  rw[List.nil_append];by_cases h2:m=[]
  ·subst h2
   refine zgo ?_;exact zfin
  ·have h3:=isEmpty_f h2
   refine zgo ?_;exact zfin
 ·have h1:=isEmpty_f h
  by_cases h2:m=[]
  ·subst h2
   rw[List.append_nil];clear he e2;refine zgo ?_;exact zfin
  ·have h3:=isEmpty_f h2
   have h4:(encL intRow (l++m)).take (l.length+m.length)=encL intRow (l++m):=List.take_of_length_le (by rw[encL_len,List.length_append];exact Nat.le_refl _)
   refine zgo ?_;exact zfin
theorem with0_p(l:List Int)(hl:l.length≤100000):PC 57 [.snap (encL intRow l),.c (.slice none 0 0)] (.snap (encL intRow l)):=by
 have:=with_p l [] hl (by simp)
 rw[List.append_nil]at this;exact PCall.less this (wks_mid (xs:=[.snap (encL intRow l)]) (ys:=[]))
theorem cpj_p(j:Jr)(hl:j.sizes.length≤100000):PC 100 [.agg (encJ j)] (.agg (encJ j)):=by
 refine pstart Tryz.func100 Tryz.ntmps100 (by simp only[go_sem,encJ]) ?_
 have c1:=with0_p j.sizes hl;obtain⟨js,jc,jh,jt,jf,jz⟩:=j;unfold encJ;simp only[]at*;refine zgo2 ?_;exact zfin
theorem qstaged_p(a:Asm)(r:List Int)(c:Bool):PC 56 [.agg (encA a),.snap (encL intRow r),bV c] (.agg (stgRow (stgOf a r c))):=by
 refine pstart Tryz.func56 Tryz.ntmps56 (by rw[stgRow_eq];simp only[go_sem]) ?_
 obtain⟨n,p,s,h,e⟩:=a;rw[stgRow_eq];unfold stgOf encA;simp only[];refine zgo2 ?_;exact zfin
end Go.Proofs.YtpeldefimkdkdaaGreat
namespace Go.Proofs.YtpeldefimkdkdaaGreat
open Go.Proofs Go.AL
set_option maxRecDepth 100000
set_option maxHeartbeats 8000000
attribute [local irreducible] endA AW aops thenA blockA hold
attribute [local irreducible] numG
theorem getD_take_drop(l:List Int)(k i:Nat)(hi:i<4):((l.drop k).take 4).getD i 0=l.getD (k+i) 0:=by
 simp[List.getD_eq_getElem?_getD,List.getElem?_take,hi,List.getElem?_drop]
theorem getD_pad(l:List Int)(r i:Nat):(l++List.replicate r 0).getD i 0=l.getD i 0:=by
 simp only[List.getD_eq_getElem?_getD];rcases Nat.lt_or_ge i l.length with h|h
 ·rw[List.getElem?_append_left h]
 ·rw[List.getElem?_append_right h,List.getElem?_eq_none h,List.getElem?_replicate]
  split<;>rfl
theorem secN_pad(s:Int)(l:List Int)(r j:Nat):secN s (pieceN (l++List.replicate r 0) 4 j)=secN s (pieceN l 4 j):=by
 unfold secN pieceN;rw[getD_take_drop _ _ 0 (by decide),getD_take_drop _ _ 1 (by decide),getD_take_drop _ _ 2 (by decide),getD_take_drop _ _ 3 (by decide),getD_take_drop _ _ 0 (by decide),getD_take_drop _ _ 1 (by decide),getD_take_drop _ _ 2 (by decide),getD_take_drop _ _ 3 (by decide)]
 simp only[getD_pad]
theorem rrecenc_p(k s:Int)(p:List Int)(hp:∀x∈p,ByteOK x)(hl:p.length≤100000):PC 102 [.agg [zV k,zV s,.snap (encL byteRow p)]] (.tup [.snap (encL encSec (recE k s p).1),zV (recE k s p).2]):=by
 refine pstart Tryz.func102 Tryz.ntmps102 (by simp only[go_sem]) ?_
 obtain⟨M,hM⟩:∃M,recE k s p=M:=⟨_,rfl⟩;rw[hM];unfold recE at hM;by_cases g1:k<1
 ·rw[if_pos (.inl g1)]at hM
  subst hM;refine zgo2 ?_;exact zfin
 by_cases g2:255<k
 ·rw[if_pos (.inr (.inl g2))]at hM
  subst hM;refine zgo2 ?_;exact zfin
 by_cases g3:s<1
 ·rw[if_pos (.inr (.inr (.inl g3)))]at hM
  subst hM;refine zgo2 ?_;exact zfin
 by_cases g4:4294967295<s
 ·rw[if_pos (.inr (.inr (.inr g4)))]at hM
  subst hM;refine zgo2 ?_;exact zfin
 rw[if_neg (by omega)]at hM
 by_cases g5:4096<p.length
 ·rw[if_pos g5]at hM
  subst hM;have g5':(4096:Int)<p.length:=by omega
  refine zgo2 ?_;exact zfin
 rw[if_neg g5]at hM;have g5':¬(4096:Int)<p.length:=by omega
 have hw:∀x∈strW k p,ByteOK x:=fun x hx=>by
  unfold strW at hx;rcases List.mem_append.1 hx with h|h
  ·rcases List.mem_cons.1 h with rfl|h
   ·unfold ByteOK;omega
   ·exact litB_ok _ _ x h
  ·exact hp x h
 have hwl:(strW k p).length=3+p.length:=by unfold strW;simp only[List.length_append,List.length_cons,litB_len]
 have hcr:=crc_rng (strW k p);have w4:IntKind.i64.wrap (crc (strW k p))=crc (strW k p):=IntWalk.i64_in _ (by omega)
 have hk1:litB k 1=[k]:=by
  show [k % 256]=[k]
  rw[show k % 256=k by omega]
 have c1:=rput1_f k (by omega) (by omega)
 rw[hk1]at c1;have c2:=fun id=>rput2_c [k] p.length (by simp) (by omega) (by omega) id
 have c3:FC 82 [.snap (encL byteRow (strW k p))] (.c (.int .u32 (crc (strW k p)))):=FCall.ofK (rsum4_p (strW k p) hw (by omega)) rfl
 have c4:=fun id=>rput4_c (strW k p) (crc (strW k p)) (by omega) (by omega) (by omega) id
 have c5:=rput4_f s (by omega) (by omega)
 have e2:encL byteRow (k::litB p.length 2)++encL byteRow p=encL byteRow (strW k p):=encL_app _ _;have hgE:strW k p++litB (crc (strW k p)) 4=strG k p:=rfl;rw[hgE]at c4;have hgl:(strG k p).length=7+p.length:=by unfold strG;rw[List.length_append,hwl,litB_len];omega
 have htw:(strW k p).take (3+p.length)=strW k p:=List.take_of_length_le (by omega)
 have l1:(litB (p.length:Int) 2).length=2:=litB_len _ _;rw[hwl]at c4;generalize hst:strG k p=st at*;generalize crc (strW k p)=cr at*;generalize hsw:strW k p=sw at*;clear hw hp hcr hgE hst hsw;have h4:litB s 4=[s % 256,s/256 % 256,s/256/256 % 256,s/256/256/256 % 256]:=rfl;have h4r:encL byteRow [s % 256,s/256 % 256,s/256/256 % 256,s/256/256/256 % 256]=[[uV (s % 256)],[uV (s/256 % 256)],[uV (s/256/256 % 256)],[uV (s/256/256/256 % 256)]]:=rfl
 have hsN:∀l:List Int,secN s l=((s % 256,s/256 % 256,s/256/256 % 256,s/256/256/256 % 256),(l.getD 0 0,l.getD 1 0,l.getD 2 0,l.getD 3 0)):=fun _=>rfl
 rw[h4,h4r]at c5;clear h4 h4r
 replace hM:=Lat.mk hM
 replace hsN:=Lat.mk hsN
 have hsl:st.length≤4103:=by omega
 replace hgl:=Lat.mk hgl
 refine zgoC ?_;obtain⟨N,hN⟩:∃N,N=st.length:=⟨_,rfl⟩;have hNl:st.length=N:=hN.symm;rw[←hN];clear c1 c2 c3 c4 e2 l1 htw hwl w4 hk1 g1 g2 g3 g4 g5 g5' hgl hN;refine zwhile (α:=Nat×Nat) (fun a=> [(4,true,.own a.2 0 (N+a.1)),(1,true,.ptr 0 0 0)]) (fun a=> [(0,some (.cells 173 3 [[zV k,zV s,.snap (encL byteRow p)]] true false)),(a.2,some (.cells 5 1 (encL byteRow (st++List.replicate a.1 0)) true true))]) (fun m a=>N+a.1≤4*nParts N 4∧1≤a.2∧a.2<m) (fun a=>4*nParts N 4-(N+a.1)) (0,4) ⟨100,⟨by unfold nParts;omega,by omega,by omega⟩,by simp only[List.replicate_zero,List.append_nil,Nat.add_zero];exact zholds⟩ ?_
 rintro m ⟨r,ids⟩ ⟨hr,i1,i2⟩;simp only[]at hr i1 i2⊢;have hPl:(st++List.replicate r (0:Int)).length=N+r:=by rw[List.length_append,List.length_replicate,hNl]
 have hNb:N+r≤4200:=by unfold nParts at hr;omega
 by_cases g:(N+r) % 4=0
 case neg=>
  have g1:(((N+r:Nat):Int) % 4 !=0)=true:=by rw[bne_iff_ne];omega
  have hr1:st++List.replicate (r+1) (0:Int)=st++List.replicate r 0++[0]:=by rw[List.replicate_succ',List.append_assoc]
  have hlt:N+(r+1)≤4*nParts N 4:=by unfold nParts at hr⊢;omega
  have hsn:encL byteRow (st++List.replicate r 0)++[[uV 0]]=encL byteRow (st++List.replicate r 0++[0]):=encL_snoc _ (0:Int);clear c5;refine zgoC ?_;exact⟨m+20,(r+1,m+1),(by omega:4*nParts N 4-(N+(r+1))<4*nParts N 4-(N+r)),⟨hlt,(by omega:1≤m+1),(by omega:m+1<m+20)⟩,by rw[show(r+1,m+1).1=r+1 from rfl,hr1];exact zholds⟩
 have g1:(((N+r:Nat):Int) % 4 !=0)=false:=by rw[bne_eq_false_iff_eq];omega
 obtain⟨n,hn⟩:∃n,nParts N 4=n:=⟨_,rfl⟩;have hnr:4*n=N+r:=by rw[←hn]at*;unfold nParts at hr⊢;omega
 obtain⟨F,hF⟩:∃F:Nat→Sec,F=fun(i:Nat)=>secN s (pieceN (st++List.replicate r 0) 4 i):=⟨_,rfl⟩
 have hM':Lat (((List.range n).map F,(0:Int))=M):=⟨by
  rw[←hM.out,hF,hNl,hn]
  simp only[secN_pad]⟩
 clear hM hr g hn;generalize st++List.replicate r (0:Int)=PD at*;generalize N+r=Q at*;refine zgoC ?_;refine zfor (α:=Nat) n (fun j id=> [(6,true,zV (j*4:Nat)),(5,true,oV1 j id),(4,true,.own ids 0 Q),(1,true,.ptr 0 0 0)]) (fun j id=>(0,some (.cells 173 3 [[zV k,zV s,.snap (encL byteRow p)]] true false))::(ids,some (.cells 5 1 (encL byteRow PD) true true))::oT1 132 8 (encL encSec ((List.range j).map F)) j id) (fun j m' id=>m≤m'∧(0<j→m≤id∧id<m')) ⟨m+100,0,⟨by omega,fun h=>absurd h (by omega)⟩,by rw[Nat.zero_mul];exact zholds⟩ (fun j m' id hj hR=> ?_) (fun m' id hR=> ?_)
 ·obtain⟨hm,hid⟩:=hR
  have hK2:(j+1)*4=j*4+4:=Nat.succ_mul j 4;have hkl:j*4+4≤Q:=by omega
  have hpl:(pieceN PD 4 j).length=4:=by unfold pieceN;rw[List.length_take,List.length_drop];omega
  have hpN:(PD.drop (j*4)).take 4=pieceN PD 4 j:=rfl;have hFk:F j=secN s (pieceN PD 4 j):=by rw[hF]
  have hrs:(List.range (j+1)).map F=(List.range j).map F++[F j]:=by rw[List.range_succ,List.map_append];rfl
  have hLl:((List.range j).map F).length=j:=by simp
  rw[hrs,hK2,hFk,hsN.out];have hnj:j≤5000:=by omega
  clear hF hFk hrs hsN hM' hnr hK2;generalize s % 256=s0 at*;generalize s/256 % 256=s1 at*;generalize s/256/256 % 256=s2 at*;generalize s/256/256/256 % 256=s3 at*;generalize (List.range j).map F=L at*;have hT:(((j*4:Nat):Int)+4-(j*4:Nat)).toNat=4:=by omega
  have hT2:j*4+4-j*4=4:=by omega
  generalize pieceN PD 4 j=pc at*;generalize j*4=K at*
  obtain⟨p1,p2,p3,p4,rfl⟩:∃a b c d,pc=[a,b,c,d]:=by
   match pc,hpl with
   |[a,b,c,d],_=>exact⟨a,b,c,d,rfl⟩
  have hpr:encL byteRow [p1,p2,p3,p4]=[[uV p1],[uV p2],[uV p3],[uV p4]]:=rfl;have hx:encL encSec ([]++[((s0,s1,s2,s3),([p1,p2,p3,p4].getD 0 0,[p1,p2,p3,p4].getD 1 0,[p1,p2,p3,p4].getD 2 0,[p1,p2,p3,p4].getD 3 0))])=[[uV s0,uV s1,uV s2,uV s3,uV p1,uV p2,uV p3,uV p4]]:=rfl;have hz8:encSec zSec=[uV 0,uV 0,uV 0,uV 0,uV 0,uV 0,uV 0,uV 0]:=rfl;have hsn:encL encSec L++[[uV s0,uV s1,uV s2,uV s3,uV p1,uV p2,uV p3,uV p4]]=encL encSec (L++[((s0,s1,s2,s3),([p1,p2,p3,p4].getD 0 0,[p1,p2,p3,p4].getD 1 0,[p1,p2,p3,p4].getD 2 0,[p1,p2,p3,p4].getD 3 0))]):=encL_snoc L ((s0,s1,s2,s3),([p1,p2,p3,p4].getD 0 0,[p1,p2,p3,p4].getD 1 0,[p1,p2,p3,p4].getD 2 0,[p1,p2,p3,p4].getD 3 0))
  cases j with
  |zero=>
   have hL0:L=[]:=List.eq_nil_of_length_eq_zero hLl;subst hL0;clear hid hsn hLl;refine zgoC ?_;refine w_rounds 9 ?_;refine w_round ?_;refine zgoC ?_;exact⟨m'+100,m'+10+1+1+1+1+1+1+1+1+1+1,⟨by omega,fun _=>by omega⟩,zholds⟩
  |succ j=>
   obtain⟨i3,i4⟩:=hid (by omega)
   clear hid hx;refine zgoC ?_;refine w_rounds 9 ?_;refine w_round ?_;refine zgoC ?_;exact⟨m'+100,m'+10+1+1+1+1+1+1+1+1+1+1,⟨by omega,fun _=>by omega⟩,zholds⟩
 ·obtain⟨hm,hid⟩:=hR
  have hnq:¬n*4<Q:=by omega
  obtain hM':=hM'.out;subst hM';simp only[];have hLl:((List.range n).map F).length=n:=by simp
  have hnb:n≤2000:=by omega
  clear hF hsN hnr hNl;generalize n*4=K at*;generalize (List.range n).map F=L at*;cases n with
  |zero=>
   have hL0:L=[]:=List.eq_nil_of_length_eq_zero hLl;subst hL0;clear hid;refine zgoC ?_;exact zfin
  |succ j=>
   obtain⟨i3,i4⟩:=hid (by omega)
   have t1:L.take (j+1)=L:=List.take_of_length_le (by omega)
   clear hid;refine zgoC ?_;exact zfin
end Go.Proofs.YtpeldefimkdkdaaGreat
