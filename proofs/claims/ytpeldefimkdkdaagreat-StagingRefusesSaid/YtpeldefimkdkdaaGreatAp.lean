/- Staging: contracts of its functions (Ap). No condition but those named. -/
import Derived.Test.YtpeldefimkdkdaaGreatAo
set_option linter.unusedVariables false
set_option linter.unusedSimpArgs false
namespace Go.Proofs.YtpeldefimkdkdaaGreat
open Go.Proofs Go.AL
set_option maxRecDepth 100000
set_option maxHeartbeats 4000000
attribute [local irreducible] endA AW aops thenA blockA hold
attribute [local irreducible] numG
theorem qcor_p(j:Jr)(x:Stg)(hj:jE j=0)(hl:j.sizes.length≤100000)(hx:StgLen x):PC 39 [.agg (encJ j),.agg (stgRow x)] (bV (corS j x)):=by
 refine pstart Tryz.func39 Tryz.ntmps39 (.c _) ?_;have c1:=qasm_p x;have c2:=qchk_p (asm x) (by have:=hx.asm.have_;omega) (by have:=hx.asm.seen;omega) (fun y hy=>by have:=(hx.asm.one y hy).1;omega)
 have c3:=qcyc_p (asm x) hx.asm;have c4:=rnext_p j hl;rw[if_pos hj]at c4;obtain⟨-,-,-,f1,f2,-⟩:=jE_ok hj;have hN:jN j=j.first+j.sizes.length:=if_pos hj
 have hsn:seenN x=cntB x.seen:=rfl;have hnn:needN x=if x.closed=true then cntB x.seen+1 else cntB x.seen:=rfl
 have hrec:=hx.records;have hseen:x.seen.length≤100000:=hx.asm.seen;obtain⟨M,hM⟩:∃M,corS j x=M:=⟨_,rfl⟩;rw[hM];unfold corS at hM;rw[hN,hsn,hnn]at hM;have h3:=asmE_3 (a:=asm x);generalize asmE (asm x)=ae at*;generalize acyE (asm x)=cy at*;obtain⟨⟨cb,cn,ct,cp,cw⟩,ce⟩:=cy;clear hN hsn hnn hx;obtain⟨n,p,s,h,e,r,cl⟩:=x;obtain⟨js,jc,jh,jt,jf,jz⟩:=j;unfold encJ stgRow encC encA asm at*;simp only[]at*;generalize hNN:jf+(jz.length:Int)=N at*
 by_cases g1:ae=0
 case neg=>
  rw[if_neg g1]at hM;subst hM;have h3:=h3 g1;subst h3;clear c3 c4;refine zgo ?_;exact zfin
 rw[if_pos g1]at hM;subst g1;clear h3;have hge:=gBl e;have hgr:=gI r;refine zgo ?_;refine zfor1 e.length 100 [(0,some (.cells 26 6 [[zV js,zV jc,zV jh,zV jt,zV jf,.snap (encL intRow jz)]] true false)),(1,some (.cells 73 7 [[zV n,zV p,zV s,.snap (encL byteL h),.snap (encL boolRow e),.snap (encL intRow r),bV cl]] true false)),(2,some (.cells 79 5 [[zV n,zV p,zV s,.snap (encL byteL h),.snap (encL boolRow e)]] true false))] (fun k=> [(7,true,zV k),(6,true,zV (cntB (e.take k))),(5,true,.ptr 2 0 0),(3,true,.ptr 1 0 0),(2,true,.ptr 0 0 0)]) zholds (fun k m hk hm=> ?_) (fun m hm=> ?_)
 ·have hgk:(encL boolRow e)[k]? =some [bV (e.getD k false)]:=hge k hk
  have hs:=cntB_snoc hk;have hle:=cntB_le (e.take k);have hle2:(e.take k).length≤100000:=by rw[List.length_take];omega
  generalize e.getD k false=b at*;clear hge hgr c1 c2 c3 c4 hM;cases b with
  |true=>
   rw[if_pos rfl]at hs;generalize cntB (e.take k)=q at*;generalize cntB (e.take (k+1))=q' at*;subst hs;refine zgo ?_;exact⟨m+20,by omega,zholds⟩
  |false=>
   rw[if_neg (by decide),Nat.add_zero]at hs
   generalize cntB (e.take k)=q at*;generalize cntB (e.take (k+1))=q' at*;subst hs;refine zgo ?_;exact⟨m+20,by omega,zholds⟩
 rw[List.take_length];have hle:=cntB_le e;generalize cntB e=q at*;clear hge;by_cases g2:q=0
 ·rw[if_pos g2]at hM
  subst hM;have g2':(q:Int)=0:=by omega
  clear g2 hgr c1 c2 c3 c4;refine zgo ?_;exact zfin
 rw[if_neg g2]at hM;have g2':¬(q:Int)=0:=by omega
 cases cl with
 |false=>
  rw[if_neg (by simp),if_neg (by decide:¬(false=true))]at hM
  clear c1 c2 c3;refine zgo ?_;refine zfor (α:=Int) r.length (fun k last=> [(10,true,zV k),(6,true,zV q),(3,true,.ptr 1 0 0),(2,true,.ptr 0 0 0)]) (fun _ _=> [(0,some (.cells 26 6 [[zV js,zV jc,zV jh,zV jt,zV jf,.snap (encL intRow jz)]] true false)),(1,some (.cells 73 7 [[zV n,zV p,zV s,.snap (encL byteL h),.snap (encL boolRow e),.snap (encL intRow r),bV false]] true false)),(2,some (.cells 79 5 [[zV n,zV p,zV s,.snap (encL byteL h),.snap (encL boolRow e)]] true false))]) (fun k m last=>3≤m∧jf-1≤last∧(k=0→last=jf-1)∧(0<k→last=r.getD (k-1) 0)∧recG last N (r.drop k)=recG (jf-1) N r) ⟨m+200,jf-1,⟨by omega,by omega,fun _=>rfl,fun h=>absurd h (by omega),rfl⟩,zholds⟩ (fun k m' last hk hR=> ?_) (fun m' last hR=> ?_)
  ·obtain⟨hm',hlo,hk0,hk1,hR⟩:=hR
   have hgk:=hgr k hk;rw[drop_at 0 hk,recG_cons]at hR;have hF:recG (jf-1) N r=false→M=false:=fun h=>by rw[if_neg (by rw[h];decide)]at hM;exact hM.symm
   obtain⟨v,hv⟩:∃v,r.getD k 0=v:=⟨_,rfl⟩;rw[hv]at hgk hR;clear hM;by_cases g5:v<jf
   ·rw[if_pos (.inl (by omega))]at hR
    obtain rfl:=hF hR.symm;clear hR hF hgr hk0 hk1 hv;refine zgo2 ?_;exact zfin
   by_cases g6:N≤v
   ·rw[if_pos (.inr g6)]at hR
    obtain rfl:=hF hR.symm;clear hR hF hgr hk0 hk1 hv;refine zgo2 ?_;exact zfin
   cases k with
   |zero=>
    have g7:=hk0 rfl;rw[if_neg (by omega)]at hR
    have hR3:=Lat.mk hR;have hv:=Lat.mk hv;clear hR hF hgr hk0 hk1;refine zgo2 ?_;exact⟨m'+100,v,⟨by omega,by omega,fun h=>absurd h (by omega),fun _=>hv.out.symm,hR3.out⟩,zholds⟩
   |succ p0=>
    have g7:=hk1 (by omega)
    rw[Nat.add_sub_cancel]at g7;have hgp:=hgr p0 (by omega)
    rw[←g7]at hgp;have w1:IntKind.i64.wrap ((p0:Int)+1-1)=p0:=by rw[IntWalk.i64_in _ (by omega)];omega
    have w2:(0:Int)<(p0:Int)+1:=by omega
    have w3:IntKind.i64.wrap (((p0+1:Nat):Int)-1)=p0:=by rw[IntWalk.i64_in _ (by omega)];omega
    have w4:(0:Int)<((p0+1:Nat):Int):=by omega
    have w5:p0<r.length:=by omega
    clear g7;by_cases g5:v≤last
    ·rw[if_pos (.inl g5)]at hR
     obtain rfl:=hF hR.symm;clear hR hF hgr hk0 hk1 hv;refine zgo2 ?_;exact zfin
    ·rw[if_neg (by omega)]at hR
     have hR3:=Lat.mk hR;have hv:=Lat.mk hv;clear hR hF hgr hk0 hk1;refine zgo2 ?_;exact⟨m'+100,v,⟨by omega,by omega,fun h=>absurd h (by omega),fun _=>hv.out.symm,hR3.out⟩,zholds⟩
  ·obtain⟨hm',-,-,-,hR⟩:=hR
   rw[List.drop_length]at hR;have hR1:recG (jf-1) N r=true:=by rw[←hR];rfl
   rw[if_pos hR1]at hM;clear hR hR1 hgr c4;by_cases g5:r.length=q
   ·have hd:decide (r.length=q)=true:=by simp[g5]
    rw[hd]at hM;subst hM;have g5':((r.length:Int)==(q:Int))=true:=by simpa using(by omega:(r.length:Int)=(q:Int))
    clear g5 hd;refine zgo ?_;exact zfin
   ·have hd:decide (r.length=q)=false:=by simp[g5]
    rw[hd]at hM;subst hM;have g5':((r.length:Int)==(q:Int))=false:=beq_eq_false_iff_ne.2 (by omega)
    clear g5 hd;refine zgo ?_;exact zfin
 |true=>
  rw[if_pos rfl]at hM;by_cases g3:ce=0
  ·subst g3
   rw[if_neg (by simp)]at hM
   obtain⟨nd,hnd⟩:∃nd,nd=q+1:=⟨_,rfl⟩;have hnd2:(nd:Int)=(q:Int)+1:=by omega
   rw[←hnd]at hM;clear hnd;clear c2;refine zgo ?_;refine zfor (α:=Int) r.length (fun k last=> [(10,true,zV k),(6,true,zV nd),(3,true,.ptr 1 0 0),(2,true,.ptr 0 0 0)]) (fun _ _=> [(0,some (.cells 26 6 [[zV js,zV jc,zV jh,zV jt,zV jf,.snap (encL intRow jz)]] true false)),(1,some (.cells 73 7 [[zV n,zV p,zV s,.snap (encL byteL h),.snap (encL boolRow e),.snap (encL intRow r),bV true]] true false)),(2,some (.cells 79 5 [[zV n,zV p,zV s,.snap (encL byteL h),.snap (encL boolRow e)]] true false))]) (fun k m last=>3≤m∧jf-1≤last∧(k=0→last=jf-1)∧(0<k→last=r.getD (k-1) 0)∧recG last N (r.drop k)=recG (jf-1) N r) ⟨m+200,jf-1,⟨by omega,by omega,fun _=>rfl,fun h=>absurd h (by omega),rfl⟩,zholds⟩ (fun k m' last hk hR=> ?_) (fun m' last hR=> ?_)
   ·obtain⟨hm',hlo,hk0,hk1,hR⟩:=hR
    have hgk:=hgr k hk;rw[drop_at 0 hk,recG_cons]at hR;have hF:recG (jf-1) N r=false→M=false:=fun h=>by rw[if_neg (by rw[h];decide)]at hM;exact hM.symm
    obtain⟨v,hv⟩:∃v,r.getD k 0=v:=⟨_,rfl⟩;rw[hv]at hgk hR;clear hM c1 c3;by_cases g5:v<jf
    ·rw[if_pos (.inl (by omega))]at hR
     obtain rfl:=hF hR.symm;clear hR hF hgr hk0 hk1 hv;refine zgo2 ?_;exact zfin
    by_cases g6:N≤v
    ·rw[if_pos (.inr g6)]at hR
     obtain rfl:=hF hR.symm;clear hR hF hgr hk0 hk1 hv;refine zgo2 ?_;exact zfin
    cases k with
    |zero=>
     have g7:=hk0 rfl;rw[if_neg (by omega)]at hR
     have hR3:=Lat.mk hR;have hv:=Lat.mk hv;clear hR hF hgr hk0 hk1;refine zgo2 ?_;exact⟨m'+100,v,⟨by omega,by omega,fun h=>absurd h (by omega),fun _=>hv.out.symm,hR3.out⟩,zholds⟩
    |succ p0=>
     have g7:=hk1 (by omega)
     rw[Nat.add_sub_cancel]at g7;have hgp:=hgr p0 (by omega)
     rw[←g7]at hgp;have w1:IntKind.i64.wrap ((p0:Int)+1-1)=p0:=by rw[IntWalk.i64_in _ (by omega)];omega
     have w2:(0:Int)<(p0:Int)+1:=by omega
     have w3:IntKind.i64.wrap (((p0+1:Nat):Int)-1)=p0:=by rw[IntWalk.i64_in _ (by omega)];omega
     have w4:(0:Int)<((p0+1:Nat):Int):=by omega
     have w5:p0<r.length:=by omega
     clear g7;by_cases g5:v≤last
     ·rw[if_pos (.inl g5)]at hR
      obtain rfl:=hF hR.symm;clear hR hF hgr hk0 hk1 hv;refine zgo2 ?_;exact zfin
     ·rw[if_neg (by omega)]at hR
      have hR3:=Lat.mk hR;have hv:=Lat.mk hv;clear hR hF hgr hk0 hk1;refine zgo2 ?_;exact⟨m'+100,v,⟨by omega,by omega,fun h=>absurd h (by omega),fun _=>hv.out.symm,hR3.out⟩,zholds⟩
   ·obtain⟨hm',-,-,-,hR⟩:=hR
    rw[List.drop_length]at hR;have hR1:recG (jf-1) N r=true:=by rw[←hR];rfl
    rw[if_pos hR1]at hM;clear hR hR1 hgr c4 hnd2;by_cases g5:r.length=nd
    ·have hd:decide (r.length=nd)=true:=by simp[g5]
     rw[hd]at hM;subst hM;have g5':((r.length:Int)==(nd:Int))=true:=by simpa using(by omega:(r.length:Int)=(nd:Int))
     clear g5 hd;refine zgo ?_;exact zfin
    ·have hd:decide (r.length=nd)=false:=by simp[g5]
     rw[hd]at hM;subst hM;have g5':((r.length:Int)==(nd:Int))=false:=beq_eq_false_iff_ne.2 (by omega)
     clear g5 hd;refine zgo ?_;exact zfin
  ·rw[if_pos ⟨rfl,g3⟩]at hM
   subst hM;clear c2 c4 hgr;refine zgo ?_;exact zfin
end Go.Proofs.YtpeldefimkdkdaaGreat
