/- Staging: contracts of its functions (Ad). No condition but those named. -/
import Derived.Test.YtpeldefimkdkdaaGreatAc
import Derived.Test.YtpeldefimkdkdaaGreatLe
set_option linter.unusedVariables false
set_option linter.unusedSimpArgs false
namespace Go.Proofs.YtpeldefimkdkdaaGreat
open Go.Proofs Go.AL
set_option maxRecDepth 100000
set_option maxHeartbeats 1000000
attribute [local irreducible] endA AW aops thenA blockA hold
@[go_sem] theorem ca_take(v:Value)(s:Sec):List.take 9 (AV.c v::(encSec s++[]))=AV.c v::encSec s:=rfl
@[go_sem] theorem ca_take2(v:Value)(s:Sec):List.take 9 (AV.c v::encSec s)=AV.c v::encSec s:=rfl
@[go_sem] theorem ca_drop(v:Value)(s:Sec):List.drop 9 (AV.c v::encSec s)=[]:=rfl
end Go.Proofs.YtpeldefimkdkdaaGreat
namespace Go.Proofs.YtpeldefimkdkdaaGreat
open Go.Proofs Go.AL
set_option maxRecDepth 100000
set_option maxHeartbeats 1000000
attribute [local irreducible] endA AW aops thenA blockA hold
abbrev Opr:=Int×Int×List Sec
def zOp:Opr:=(0,0,[])
theorem gO(l:List Opr)(k:Nat)(h:k<l.length):(encL opRow l)[k]? =some (opRow (l.getD k zOp)):=encL_get zOp h
theorem drop_at{α:Type}{l:List α}{k:Nat}(z:α)(h:k<l.length):l.drop k=l.getD k z::l.drop (k+1):=by
 rw[List.drop_eq_getElem_cons h,List.getD_eq_getElem?_getD,List.getElem?_eq_getElem h];rfl
end Go.Proofs.YtpeldefimkdkdaaGreat
namespace Go.Proofs.YtpeldefimkdkdaaGreat
open Go.Proofs Go.AL
set_option maxRecDepth 100000
set_option maxHeartbeats 1000000
attribute [local irreducible] endA AW aops thenA blockA hold
@[go_sem] theorem by_fresh(G:Nat→Option Blk)(k:Nat)(l:List Int):((encL byteRow l).all fun row=>row.all (fresh G k))=true:=by
  rw[List.all_eq_true];intro row hr;simp only[encL,List.mem_map]at hr;obtain⟨x,_,rfl⟩:=hr;cases k<;>rfl
end Go.Proofs.YtpeldefimkdkdaaGreat
namespace Go.Proofs.YtpeldefimkdkdaaGreat
open Go.Proofs Go.AL
set_option maxRecDepth 100000
set_option maxHeartbeats 1000000
attribute [local irreducible] endA AW aops thenA blockA hold
def inB(n lo hi:Int):Bool:=decide (lo≤n)&&decide (n≤hi)
theorem in_p(n lo hi:Int):PC 143 [zV n,zV lo,zV hi] (bV (inB n lo hi)):=by
 refine pstart Tryz.func143 Tryz.ntmps143 (.c _) ?_;unfold inB;by_cases g1:lo≤n
 ·refine zgo ?_
  exact zfin
 ·refine zgo ?_
  exact zfin
def badPos(n:Int):Bool:= !(inB n 0 1073741824)
theorem pos1_p(n:Int):PC 176 [zV n] (bV (badPos n)):=by
 refine pstart Tryz.func176 Tryz.ntmps176 (.c _) ?_;have c1:=in_p n 0 1073741824;unfold badPos;refine zgo ?_;exact zfin
theorem posIdx_p(l:List Int)(hl:l.length≤1000000):PC 189 [.snap (encL intRow l),.fn (.func 176) [] []] (zV (idxZ (l.findIdx? badPos))):=by
 refine pstart Tryz.func189 Tryz.ntmps189 (.c _) ?_;unfold idxZ;refine zgo ?_;have hg:=gI l;have c1:=pos1_p;refine zfor (α:=Unit) l.length (fun k _=> [(8,true,zV k),(7,true,zV l.length),(0,true,.snap (encL intRow l)),(1,true,.fn (.func 176) [] [])]) (fun _ _=> []) (fun k m _=>∀i,i<k→badPos (l.getD i 0)=false) ⟨0,(),fun i hi=>by omega,zholds⟩ (fun k m _ hk hR=> ?_) (fun m _ hR=> ?_)
 ·refine zgo ?_
  refine zsplit (fun h=> ?_) (fun h=> ?_)
  ·have hf:l.findIdx? badPos=some k:=by
    rw[List.findIdx?_eq_some_iff_getElem];exact⟨hk,by simpa[hk]using h,fun j hj=>by have:=hR j hj;simp[show j<l.length by omega]at this;simpa using this⟩
   refine zgo ?_;exact zfin
  ·refine zgo ?_
   refine⟨m,(),fun i hi=> ?_,zholds⟩
   by_cases hik:i=k
   ·subst hik;exact h
   ·exact hR i (by omega)
 ·have hf:l.findIdx? badPos=none:=by
   rw[List.findIdx?_eq_none_iff];intro x hx;obtain⟨i,hi⟩:=List.mem_iff_getElem?.1 hx;obtain⟨h1,h2⟩:=List.getElem?_eq_some_iff.1 hi;have:=hR i h1;simp[h1,h2]at this;exact this
  refine zgo ?_;exact zfin
theorem idxZ_any{α:Type}(q:α→Bool)(l:List α):decide (0≤idxZ (l.findIdx? q))=l.any q:=by
 cases h:l.findIdx? q with
 |none=>
  rw[List.findIdx?_eq_none_iff]at h;simp only[idxZ];symm;simpa using h
 |some i=>
  rw[List.findIdx?_eq_some_iff_getElem]at h;obtain⟨h1,h2,_⟩:=h;simp only[idxZ];have:l.any q=true:=List.any_eq_true.2 ⟨_,List.getElem_mem h1,h2⟩;rw[this];simp
theorem posAny_p(l:List Int)(hl:l.length≤1000000):PC 175 [.snap (encL intRow l),.fn (.func 176) [] []] (bV (l.any badPos)):=by
 refine pstart Tryz.func175 Tryz.ntmps175 (.c _) ?_;have c1:=posIdx_p l hl;have h1:=idxZ_any badPos l;refine zgo ?_;exact zfin
def posE(l:List Int):Int:=if 8<l.length then 6 else if l.any badPos=true then 2 else 0
theorem positions_p(l:List Int)(hl:l.length≤1000000):PC 144 [.snap (encL intRow l),zV 0] (zV (posE l)):=by
 refine pstart Tryz.func144 Tryz.ntmps144 (.c _) ?_;have c1:=in_p (l.length:Int) 0 8;have c2:=posAny_p l hl;unfold posE;unfold inB at c1;by_cases g1:8<l.length
 ·rw[if_pos g1]
  rw[dec_leT (by omega),dec_leF (by omega)]at c1
  refine zgo ?_;exact zfin
 ·rw[if_neg g1]
  rw[dec_leT (by omega),dec_leT (by omega)]at c1
  cases h:l.any badPos with
  |true=>
   rw[h]at c2;refine zgo ?_;exact zfin
  |false=>
   rw[h]at c2;refine zgo ?_;exact zfin
theorem rpos_p(l:List Int)(hl:l.length≤1000000):PC 167 [.snap (encL intRow l)] (zV (if l.any badPos=true then 2 else 0)):=by
 refine pstart Tryz.func167 Tryz.ntmps167 (.c _) ?_;have hg:=gI l;refine zgo ?_;refine zfor (α:=Unit) l.length (fun k _=> [(3,true,zV k),(0,true,.snap (encL intRow l))]) (fun _ _=> []) (fun k m _=>∀i,i<k→badPos (l.getD i 0)=false) ⟨0,(),fun i hi=>by omega,zholds⟩ (fun k m _ hk hR=> ?_) (fun m _ hR=> ?_)
 ·have h4:=getD_mem' 0 hk
  by_cases g1:l.getD k 0<0
  ·have h3:l.any badPos=true:=List.any_eq_true.2 ⟨_,h4,by unfold badPos inB;rw[dec_leF (by omega)];rfl⟩
   rw[if_pos h3];clear hR;refine zgo ?_;exact zfin
  ·by_cases g2:1073741824<l.getD k 0
   ·have h3:l.any badPos=true:=List.any_eq_true.2 ⟨_,h4,by unfold badPos inB;rw[dec_leF (a:=l.getD k 0) (by omega)];simp⟩
    rw[if_pos h3];clear hR;refine zgo ?_;exact zfin
   ·have hR2:∀i,i<k+1→badPos (l.getD i 0)=false:=fun i hi=>by
     by_cases hik:i=k
     ·subst hik;unfold badPos inB;rw[dec_leT (by omega),dec_leT (by omega)];rfl
     ·exact hR i (by omega)
    clear hR;refine zgo ?_;exact⟨m,(),hR2,zholds⟩
 ·have h3:l.any badPos=false:=by
   rw[List.any_eq_false];intro x hx;obtain⟨i,hi⟩:=List.mem_iff_getElem?.1 hx;obtain⟨h1,h2⟩:=List.getElem?_eq_some_iff.1 hi;have:=hR i h1;simp[h1,h2]at this;simp[this]
  rw[h3,if_neg (by decide)]
  clear hR h3;refine zgo ?_;exact zfin
def szOf(im:List (List Sec)):List Int:=im.map fun v=>(v.length:Int)
theorem gV(l:List (List Sec))(k:Nat)(h:k<l.length):(encL volRow l)[k]? =some (volRow (l.getD k [])):=encL_get [] h
theorem len1_p(v:List Sec):PC 200 [.snap (encL encSec v)] (zV v.length):=by
 refine pstart Tryz.func200 Tryz.ntmps200 (.c _) ?_;refine zgo ?_;exact zfin
theorem lens_p(im:List (List Sec))(hl:im.length≤1000):PC 199 [.snap (encL volRow im),.fn (.func 200) [] []] (.snap (encL intRow (szOf im))):=by
 refine pstart Tryz.func199 Tryz.ntmps199 (encL_noId _) ?_;have hg:=gV im;have c1:=len1_p;unfold szOf;refine zgo ?_;refine zfor (α:=Nat) im.length (fun k id=> [(13,true,zV k),(12,true,zV im.length),(11,true,.snap (encL volRow im)),(1,true,.fn (.func 200) [] []),(5,true,.own id 0 k)]) (fun k id=> [(id,some (.cells 3 1 (encL intRow ((im.map fun v=>(v.length:Int)).take k)) true true))]) (fun k m id=>id<m) ⟨9,0,by omega,zholds⟩ (fun k m id hk hR=> ?_) (fun m id hR=> ?_)
 ·have h5:=map_snoc (fun v:List Sec=>(v.length:Int)) [] hk
  have h6:((im.map fun v=>(v.length:Int)).take k).length=k:=by simp;omega
  refine zgo ?_;exact⟨m+2,m+1,by omega,zholds⟩
 ·have h6:(im.map fun v=>(v.length:Int)).take im.length=im.map fun v=>(v.length:Int):=List.take_of_length_le (by simp)
  refine zgo ?_;exact zfin
theorem szs_p(im:List (List Sec))(hl:im.length≤1000):PC 197 [.snap (encL volRow im)] (.snap (encL intRow (szOf im))):=by
 refine pstart Tryz.func197 Tryz.ntmps197 (encL_noId _) ?_;have c1:=lens_p im hl;refine zgo ?_;exact zfin
theorem szOf_len(im:List (List Sec)):(szOf im).length=im.length:=by simp[szOf]
theorem icheck_p(im:List (List Sec))(hl:im.length≤1000):PC 190 [.snap (encL volRow im)] (zV (sizesE (szOf im))):=by
 refine pstart Tryz.func190 Tryz.ntmps190 (.c _) ?_;have c1:=szs_p im hl;have c2:=sizes_p (szOf im) (by rw[szOf_len];omega)
 refine zgo ?_;exact zfin
def fitE(sz:List Int)(w:Int×Int×List Sec):Int:=
 if w.1<0∨(sz.length:Int)≤w.1 then 7
 else if w.2.2.length=0 then 1
 else if w.2.1<0∨sz.getD w.1.toNat 0-w.2.2.length<w.2.1 then 2
 else 0
theorem fits_p(im:List (List Sec))(w:Int×Int×List Sec)(hl:im.length≤1000)(hv:∀v∈im,v.length≤1000000)(hw:w.2.2.length≤1000000):PC 191 [.snap (encL volRow im),.agg (opRow w)] (zV (fitE (szOf im) w)):=by
 refine pstart Tryz.func191 Tryz.ntmps191 (.c _) ?_;have hg:=gV im;obtain⟨v,s,l⟩:=w;unfold opRow;simp only[]at*;unfold fitE;by_cases g1:v<0
 ·rw[if_pos (.inl g1)]
  refine zgo ?_;exact zfin
 by_cases g2:(im.length:Int)≤v
 ·rw[if_pos (by rw[szOf_len];exact .inr g2)]
  refine zgo ?_;exact zfin
 rw[if_neg (by rw[szOf_len];omega)]
 by_cases g3:l.length=0
 ·rw[if_pos g3]
  have g4:(l.length:Int)=0:=by omega
  refine zgo ?_;exact zfin
 rw[if_neg g3];have g4:¬(l.length:Int)=0:=by omega
 obtain⟨n,rfl⟩:=Int.eq_ofNat_of_zero_le (by omega:0≤v)
 have g5:n<im.length:=by omega
 have e1:(szOf im).getD ((n:Int)).toNat 0=((im.getD n []).length:Int):=by
  rw[Int.toNat_natCast];unfold szOf;rw[List.getD_eq_getElem?_getD,List.getD_eq_getElem?_getD,List.getElem?_map,List.getElem?_eq_getElem g5];rfl
 rw[e1];have hvn:=hv _ (getD_mem' [] g5);have hgn:=hg n g5;clear hg hv e1;generalize im.getD n []=V at*;have w1:IntKind.i64.wrap ((V.length:Int)-l.length)=(V.length:Int)-l.length:=IntWalk.i64_in _ (by omega)
 by_cases g6:s<0
 ·rw[if_pos (.inl g6)]
  refine zgo ?_;exact zfin
 by_cases g7:(V.length:Int)-l.length<s
 ·rw[if_pos (.inr g7)]
  refine zgo ?_;exact zfin
 rw[if_neg (fun h=>by simp only[]at h;omega)]
 refine zgo ?_;exact zfin
theorem fitsI_p(im:List (List Sec))(w:Int×Int×List Sec)(hl:im.length≤1000)(hv:∀v∈im,v.length≤1000000)(hw:w.2.2.length≤1000000):PC 179 [.snap (encL volRow im),.agg (opRow w)] (zV (if sizesE (szOf im)=0 then fitE (szOf im) w else sizesE (szOf im))):=by
 refine pstart Tryz.func179 Tryz.ntmps179 (.c _) ?_;have c1:=icheck_p im hl;have c2:=fits_p im w hl hv hw;unfold opRow at*;by_cases g:sizesE (szOf im)=0
 ·rw[if_pos g]
  rw[g]at c1;refine zgo ?_;exact zfin
 ·rw[if_neg g]
  refine zgo ?_;exact zfin
end Go.Proofs.YtpeldefimkdkdaaGreat
namespace Go.Proofs.YtpeldefimkdkdaaGreat
open Go.Proofs Go.AL
set_option maxRecDepth 100000
set_option maxHeartbeats 1000000
attribute [local irreducible] endA AW aops thenA blockA hold
abbrev Wrt:=Int×Int×List Sec
def zWr:Wrt:=(0,0,[])
theorem gW(l:List Wrt)(k:Nat)(h:k<l.length):(encL opRow l)[k]? =some (opRow (l.getD k zWr)):=encL_get zWr h
theorem szs_ok{sz:List Int}(h:sizesE sz=0){v:Nat}(hv:v<sz.length):1≤sz.getD v 0∧sz.getD v 0≤4096:=by
 obtain⟨h1,h2,h3⟩:=sizes_ok h;exact h3 _ (getD_mem' 0 hv)
theorem fit_ok{sz:List Int}{w:Wrt}(h:sizesE sz=0)(hf:fitE sz w=0):0≤w.1∧w.1.toNat<sz.length∧1≤w.2.2.length∧0≤w.2.1∧w.2.1+w.2.2.length≤sz.getD w.1.toNat 0∧w.2.1+w.2.2.length≤4096:=by
 unfold fitE at hf;by_cases g1:w.1<0∨(sz.length:Int)≤w.1
 ·rw[if_pos g1]at hf;exact absurd hf (by decide)
 rw[if_neg g1]at hf;by_cases g2:w.2.2.length=0
 ·rw[if_pos g2]at hf;exact absurd hf (by decide)
 rw[if_neg g2]at hf;by_cases g3:w.2.1<0∨sz.getD w.1.toNat 0-w.2.2.length<w.2.1
 ·rw[if_pos g3]at hf;exact absurd hf (by decide)
 have g4:w.1.toNat<sz.length:=by omega
 have:=szs_ok h g4;exact⟨by omega,g4,by omega,by omega,by omega,by omega⟩
def ordB(x w:Wrt):Bool:=decide (w.1<x.1)||(decide (w.1=x.1)&&decide (w.2.1≤x.2.1+x.2.2.length))
def cwG(sz:List Int):Option Wrt→List Wrt→Int
 |_,[]=>0
 |p,w::r=>if fitE sz w=0 then(match p with|none=>cwG sz (some w) r|some x=>if ordB x w=true then 3 else cwG sz (some w) r)else fitE sz w
def prevO(l:List Wrt):Nat→Option Wrt
 |0=>none
 |k+1=>some (l.getD k zWr)
theorem chk1_p(im:List (List Sec))(w:Wrt)(hl:im.length≤1000)(hv:∀v∈im,v.length≤1000000)(hw:w.2.2.length≤1000000)(h0:sizesE (szOf im)=0):PC 178 [.agg (opRow w),.sptr [[.snap (encL volRow im)]] 0 0] (zV (fitE (szOf im) w)):=by
 refine pstart Tryz.func178 Tryz.ntmps178 (.c _) ?_;have c1:=fitsI_p im w hl hv hw;rw[if_pos h0]at c1;unfold opRow at*;refine zgo ?_;exact zfin
theorem cw_p(im:List (List Sec))(l:List Wrt)(hl:im.length≤1000)(hv:∀v∈im,v.length≤1000000)(hw:∀w∈l,w.2.2.length≤1000000)(hn:l.length≤1000000)(h0:sizesE (szOf im)=0):PC 177 [.snap (encL opRow l),.fn (.func 178) [] [.sptr [[.snap (encL volRow im)]] 0 0]] (zV (cwG (szOf im) none l)):=by
 refine pstart Tryz.func177 Tryz.ntmps177 (.c _) ?_;generalize hF:cwG (szOf im) none l=F;have hg:=gW l;refine zgo ?_;refine zfor (α:=Unit) l.length (fun k _=> [(11,true,zV k),(10,true,zV l.length),(9,true,.snap (encL opRow l)),(1,true,.fn (.func 178) [] [.sptr [[.snap (encL volRow im)]] 0 0]),(0,true,.snap (encL opRow l))]) (fun _ _=> []) (fun k m _=>cwG (szOf im) (prevO l k) (l.drop k)=F∧(0<k→fitE (szOf im) (l.getD (k-1) zWr)=0)) ⟨9,(),⟨hF,fun h=>by omega⟩,zholds⟩ (fun k m _ hk hR=> ?_) (fun m _ hR=> ?_)
 ·obtain⟨r1,r2⟩:=hR
  have c1:=chk1_p im (l.getD k zWr) hl hv (hw _ (getD_mem' zWr hk)) h0;have hgk:=hg k hk;rw[drop_at zWr hk]at r1;by_cases g1:fitE (szOf im) (l.getD k zWr)=0
  ·have f1:=fit_ok h0 g1
   rw[g1]at c1;cases k with
   |zero=>
    have r3:Lat (cwG (szOf im) (prevO l (0+1)) (l.drop (0+1))=F∧(0<0+1→fitE (szOf im) (l.getD (0+1-1) zWr)=0)):=⟨by
     simp only[cwG,prevO]at r1;rw[if_pos g1]at r1
     exact r1,fun _=>g1⟩
    clear r1 r2 hF hg hw f1 g1;generalize l.getD 0 zWr=w at*;obtain⟨v,s,d⟩:=w;have hgk2:(encL opRow l)[0]? =some [zV v,zV s,.snap (encL encSec d)]:=hgk;clear hgk;unfold opRow at c1;refine zgo ?_;exact⟨m+30,(),r3.out,zholds⟩
   |succ j=>
    have f2:=fit_ok h0 (r2 (by omega))
    have hgj:=hg j (by omega)
    have e1:j+1-1=j:=by omega
    rw[e1]at f2;have e2:((j+1:Nat):Int)-1=(j:Int):=by omega
    have e3:((j:Int)+1)-1=(j:Int):=by omega
    have hz:¬((j+1:Nat):Int)=0:=by omega
    simp only[cwG,prevO]at r1;rw[if_pos g1]at r1;by_cases g2:ordB (l.getD j zWr) (l.getD (j+1) zWr)=true
    ·rw[if_pos g2]at r1
     rw[←r1];clear r1 r2 hF hg hw g1;generalize l.getD j zWr=x at*;generalize l.getD (j+1) zWr=w at*;obtain⟨v,s,d⟩:=w;obtain⟨v2,s2,d2⟩:=x;have hgk2:(encL opRow l)[j+1]? =some [zV v,zV s,.snap (encL encSec d)]:=hgk;have hgj2:(encL opRow l)[j]? =some [zV v2,zV s2,.snap (encL encSec d2)]:=hgj;clear hgk hgj;unfold opRow at c1;unfold ordB at g2;simp only[]at*;have w1:IntKind.i64.wrap (s2+(d2.length:Int))=s2+d2.length:=IntWalk.i64_in _ (by omega)
     simp only[Bool.or_eq_true,Bool.and_eq_true,decide_eq_true_eq]at g2;by_cases g3:v<v2
     ·clear g2
      refine zgo ?_;exact zfin
     ·have g4:v=v2:=by omega
      have g5:s≤s2+d2.length:=by omega
      subst g4;clear g2;refine zgo ?_;exact zfin
    ·rw[if_neg g2]at r1
     have r3:Lat (cwG (szOf im) (prevO l (j+1+1)) (l.drop (j+1+1))=F∧(0<j+1+1→fitE (szOf im) (l.getD (j+1+1-1) zWr)=0)):=⟨r1,fun _=>g1⟩
     clear r1 r2 hF hg hw g1;generalize l.getD j zWr=x at*;generalize l.getD (j+1) zWr=w at*;obtain⟨v,s,d⟩:=w;obtain⟨v2,s2,d2⟩:=x;have hgk2:(encL opRow l)[j+1]? =some [zV v,zV s,.snap (encL encSec d)]:=hgk;have hgj2:(encL opRow l)[j]? =some [zV v2,zV s2,.snap (encL encSec d2)]:=hgj;clear hgk hgj;unfold opRow at c1;unfold ordB at g2;simp only[]at*;have w1:IntKind.i64.wrap (s2+(d2.length:Int))=s2+d2.length:=IntWalk.i64_in _ (by omega)
     simp only[Bool.or_eq_true,Bool.and_eq_true,decide_eq_true_eq]at g2;have g3:¬v<v2:=by omega
     by_cases g4:v=v2
     ·have g5:¬s≤s2+d2.length:=by omega
      subst g4;clear g2;refine zgo ?_;exact⟨m+30,(),r3.out,zholds⟩
     ·clear g2
      refine zgo ?_;exact⟨m+30,(),r3.out,zholds⟩
  ·simp only[cwG]at r1
   rw[if_neg g1]at r1;rw[←r1];clear r1 r2 hF hg hw;generalize fitE (szOf im) (l.getD k zWr)=e at*;generalize l.getD k zWr=w at*;obtain⟨v,s,d⟩:=w;have hgk2:(encL opRow l)[k]? =some [zV v,zV s,.snap (encL encSec d)]:=hgk;clear hgk;unfold opRow at c1;refine zgo ?_;exact zfin
 ·have r1:=hR.1
  rw[List.drop_length]at r1;rw[←r1];clear r1 hR hF;refine zgo ?_;exact zfin
end Go.Proofs.YtpeldefimkdkdaaGreat
