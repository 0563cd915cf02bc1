/- Staging: contracts of its functions (Af). No condition but those named. -/
import Derived.Test.YtioafciifiggaaaGreatDoorAe
set_option linter.unusedVariables false
set_option linter.unusedSimpArgs false
namespace Go.Proofs.YtioafciifiggaaaGreatDoor
open Go.Proofs Go.AL
set_option maxRecDepth 100000
set_option maxHeartbeats 1000000
attribute [local irreducible] endA AW aops thenA blockA hold
theorem cloneB_e(a:Option Addr)(cap:Nat):PC 151 [.c (.slice a 0 cap)] (.snap (encL byteRow [])):=by
 refine pstart Tryz.func151 Tryz.ntmps151 (encL_noId _) ?_;cases a with
 |none=>
  refine zgo ?_;simp only[encL_nil];exact zfin
 |some a=>
  refine zgo ?_;simp only[encL_nil];exact zfin
theorem cloneB_p(l:List Int)(hl:l.length≤1000000):PC 151 [.snap (encL byteRow l)] (.snap (encL byteRow l)):=by
 by_cases h:l=[]
 ·subst h
  exact PCall.nil (pre:=[]) (post:=[]) cloneB_e
 ·refine pstart Tryz.func151 Tryz.ntmps151 (encL_noId l) ?_
  have h1:=isEmpty_f h;refine zgo ?_;exact zfin
end Go.Proofs.YtioafciifiggaaaGreatDoor
namespace Go.Proofs.YtioafciifiggaaaGreatDoor
open Go.Proofs Go.AL
set_option maxRecDepth 100000
set_option maxHeartbeats 1000000
attribute [local irreducible] endA AW aops thenA blockA hold
theorem find_err(d:Dsk)(a:Int)(hs:d.st.length≤1000000)(h2:d.ca.length≤1000000)(he:(readE d a 16).2≠0):PC 161 [.agg (encD d),zV a] (.tup [.agg (bothV ([],0) ([],0) [] []),zV 0,zV (readE d a 16).2]):=by
 refine pstart Tryz.func161 Tryz.ntmps161 (by simp only[go_sem,bothV]) ?_
 have c2:=dread_p d a 16 hs h2;generalize readE d a 16=F at*;obtain⟨L,e⟩:=F;simp only[]at c2 he;unfold encD at c2⊢;unfold bothV;refine zgo ?_;exact zfin
end Go.Proofs.YtioafciifiggaaaGreatDoor
namespace Go.Proofs.YtioafciifiggaaaGreatDoor
open Go.Proofs Go.AL
set_option maxRecDepth 100000
set_option maxHeartbeats 1000000
attribute [local irreducible] endA AW aops thenA blockA hold
theorem readE_ok{d:Dsk}{a:Int}(g:(readE d a 16).2=0):dskE d=0∧0≤a∧a≤(d.st.length:Int)-16:=by
 unfold readE at g;by_cases h0:dskE d=0
 ·rw[if_pos h0]at g
  split at g
  ·exact absurd g (by decide)
  ·exact⟨h0,by omega,by omega⟩
 ·rw[if_neg h0]at g
  exact absurd g h0
theorem findE_err{d:Dsk}{a:Int}(hs:d.st.length≤1000000)(g:(readE d a 16).2≠0):findE d a=([],0,[],0,(readE d a 16).2):=by
 unfold readE at g⊢;unfold findE;by_cases h0:dskE d=0
 ·rw[if_pos h0]at g⊢
  split at g
  ·rename_i h1
   rw[if_pos h0,if_pos h1,if_pos (by omega)]
  ·exact absurd rfl g
 ·rw[if_neg h0]at g⊢
  rw[if_neg h0]
theorem find_new{d:Dsk}{a:Int}(h0:dskE d=0)(h3:0≤a)(h4:a≤(d.st.length:Int)-16)(hA:0≤(parseS ((sbL d a).take 8)).2)(hB:0≤(parseS ((sbL d a).drop 8)).2):
  findE d a=if(newE (parseS ((sbL d a).take 8)) (parseS ((sbL d a).drop 8))).2=0 then(if(newE (parseS ((sbL d a).take 8)) (parseS ((sbL d a).drop 8))).1=1 then(sbL d a,1,(parseS ((sbL d a).drop 8)).1,(parseS ((sbL d a).drop 8)).2,0)else(sbL d a,0,(parseS ((sbL d a).take 8)).1,(parseS ((sbL d a).take 8)).2,0))else([],0,[],0,9):=by
 unfold findE newE;rw[if_pos h0,if_neg (by omega)]
 generalize parseS ((sbL d a).take 8)=A at*;generalize parseS ((sbL d a).drop 8)=B at*;by_cases g1:A.2<B.2
 ·rw[if_pos g1,if_pos g1,if_neg (by omega:¬B.2=0),if_neg (by omega:¬(A.2=0∧B.2=0)),if_pos rfl,if_pos rfl]
 ·rw[if_neg g1,if_neg g1]
  by_cases g2:A.2=0
  ·rw[if_pos g2,if_pos (by omega:A.2=0∧B.2=0),if_neg (by decide)]
  ·rw[if_neg g2,if_neg (by omega:¬(A.2=0∧B.2=0)),if_pos rfl,if_neg (by decide)]
end Go.Proofs.YtioafciifiggaaaGreatDoor
namespace Go.Proofs.YtioafciifiggaaaGreatDoor
open Go.Proofs Go.AL
set_option maxRecDepth 100000
set_option maxHeartbeats 1000000
attribute [local irreducible] endA AW aops thenA blockA hold
theorem and127{x:Int}(h0:0≤x)(h1:x<256):bits .and .u8 x 127=x % 128:=bits_mask .u8 8 (by decide) wraps_u8 7 (by decide) x h0 h1
theorem and128{x:Int}(h0:0≤x)(h1:x<256):bits .and .u8 x 128=(if 128≤x then 128 else 0):=by
 have key:∀i:Fin 256,bits .and .u8 ((i.val:Nat):Int) 128=(if 128≤i.val then 128 else 0):=by decide
 have:=key ⟨x.toNat,by omega⟩
 simp only at this;rw[show((x.toNat:Nat):Int)=x by omega]at this
 rw[this];by_cases h:128≤x
 ·rw[if_pos h,if_pos (by omega)]
 ·rw[if_neg h,if_neg (by omega)]
def numG:Nat→List Int→Nat→Int→Int×Nat×Int
 |0,_,_,_=>(0,0,3)
 |f+1,src,i,n=>
  if i<src.length then
   if 128≤src.getD i 0 then numG f src (i+1) (n+src.getD i 0 % 128*2 ^ (7*i))
   else if(src.getD i 0=0∧0<i)∨9007199254740991<n+src.getD i 0 % 128*2 ^ (7*i)then(0,0,3)
   else(n+src.getD i 0 % 128*2 ^ (7*i),i+1,0)
  else(0,0,10)
theorem numG_succ(f:Nat)(src:List Int)(i:Nat)(n:Int):numG (f+1) src i n=if i<src.length then if 128≤src.getD i 0 then numG f src (i+1) (n+src.getD i 0 % 128*2 ^ (7*i))else if(src.getD i 0=0∧0<i)∨9007199254740991<n+src.getD i 0 % 128*2 ^ (7*i)then(0,0,3)else(n+src.getD i 0 % 128*2 ^ (7*i),i+1,0)else(0,0,10):=rfl
theorem numG_zero(src:List Int)(i:Nat)(n:Int):numG 0 src i n=(0,0,3):=rfl
theorem pow7(k:Nat):(2:Int) ^ (7*(k+1))=128*2 ^ (7*k):=by
 rw[Nat.mul_add,Int.pow_add];omega
theorem pow7_pos(k:Nat):(0:Int)<2 ^ (7*k):=Int.pow_pos (by decide)
theorem pow7_le{k:Nat}(h:k≤8):(2:Int) ^ (7*k)≤2 ^ 56:=by
 obtain⟨j,hj⟩:=Nat.exists_eq_add_of_le h;have e:(2:Int) ^ 56=2 ^ (7*k)*2 ^ (7*j):=by rw[←Int.pow_add];congr 1;omega
 rw[e];have h1:=pow7_pos j;have h2:=pow7_pos k;have:=Int.mul_le_mul_of_nonneg_left (show(1:Int)≤2 ^ (7*j)by omega) (show(0:Int)≤2 ^ (7*k)by omega)
 omega
theorem step7{k:Nat}{n b:Int}(hk:k<8)(h0:0≤n)(h1:n<2 ^ (7*k)):
  IntKind.i64.wrap (b % 128*2 ^ (7*k))=b % 128*2 ^ (7*k)∧bits .or .i64 n (b % 128*2 ^ (7*k))=n+b % 128*2 ^ (7*k)∧0≤n+b % 128*2 ^ (7*k)∧n+b % 128*2 ^ (7*k)<2 ^ (7*(k+1)):=by
 have e56:(2:Int) ^ 56=72057594037927936:=by decide
 have h2:=pow7_pos k;have h3:=pow7 k;have h4:=pow7_le (k:=k+1) (by omega)
 generalize hm:b % 128=m at*;have hm0:0≤m:=by omega
 have hm1:m≤127:=by omega
 have h5:m*2 ^ (7*k)≤127*2 ^ (7*k):=Int.mul_le_mul_of_nonneg_right hm1 (by omega)
 have h6:0≤m*2 ^ (7*k):=Int.mul_nonneg hm0 (by omega)
 refine⟨IntWalk.i64_in _ (by omega),?_,by omega,by omega⟩
 have e:=bits_join .i64 56 (by decide) (fun n a b=>IntWalk.i64_in _ (by omega)) (7*k) (m*2 ^ (7*k)) n h6 (by simp) (by omega) h0 h1 (by omega)
 simp only[bits,BitVec.or_comm]at e⊢;rw[e];omega
def intE(src:List Int):Int×List Int×Int:=
 if(numG 8 src 0 0).2.2=0 then((numG 8 src 0 0).1,src.drop (numG 8 src 0 0).2.1,0)else(0,[],(numG 8 src 0 0).2.2)
attribute [local irreducible] numG
theorem int_p(src:List Int)(hb:∀x∈src,ByteOK x)(hl:src.length≤100000):PC 170 [.snap (encL byteRow src)] (.tup [zV (intE src).1,.snap (encL byteRow (intE src).2.1),zV (intE src).2.2]):=by
 refine pstart Tryz.func170 Tryz.ntmps170 (by simp only[go_sem]) ?_
 refine zgo ?_;refine zin Tryz.func211 Tryz.ntmps211 ?_;refine zgo ?_;refine zin Tryz.func212 Tryz.ntmps212 ?_;refine zgo ?_;have hg:=gB src;unfold intE;generalize hF:numG 8 src 0 0=F;refine zfor (α:=Int) 8 (fun k n=> [(7,true,zV k),(4,true,zV n),(0,true,.ptr 0 0 0)]) (fun _ _=> [(0,some (.cells 376 1 [[.snap (encL byteRow src)]] true false))]) (fun k m n=>1≤m∧numG (8-k) src k n=F∧0≤n∧n<2 ^ (7*k)) ⟨1,0,⟨Nat.le_refl _,hF,by decide,by decide⟩,zholds⟩ (fun k m n hk hR=> ?_) (fun m n hR=> ?_)
 ·obtain⟨h1,h2,h3,h4⟩:=hR
  have w0:IntKind.i64.wrap (7*(k:Int))=((7*k:Nat):Int):=by rw[IntWalk.i64_in _ (by omega)];omega
  by_cases g1:k<src.length
  ·have hx:=hb _ (getD_mem' 0 g1)
   obtain⟨w1,w2,w3,w4⟩:=step7 (b:=src.getD k 0) hk h3 h4;have a1:=and127 hx.1 hx.2;have a2:=and128 hx.1 hx.2;obtain⟨f,hf⟩:∃f,8-k=f+1:=⟨7-k,by omega⟩
   have hf2:8-(k+1)=f:=by omega
   rw[hf]at h2;have wm:min (7*k) 64=7*k:=by omega
   have hgk:=hg k g1;clear hb hg hF;generalize hv:src.getD k 0=b at*;rw[numG_succ,if_pos g1,hv]at h2;generalize hp0:(2:Int) ^ (7*k)=p at*;have hp:(2:Int) ^ min (7*k) 64=p:=by rw[wm,hp0]
   clear wm h4;generalize hq:b % 128*p=q at*;have w5:Lat (n+q<2 ^ (7*(k+1))):=⟨w4⟩;clear w4;by_cases g2:128≤b
   ·rw[if_pos g2]at a2
    have h5:Lat (numG (8-(k+1)) src (k+1) (n+q)=F):=⟨by rw[hf2,←h2,if_pos g2]⟩
    clear h2 hf2 hf;refine zgo ?_;exact⟨m,_,⟨h1,h5.out,w3,w5.out⟩,zholds⟩
   ·rw[if_neg g2]at a2
    have h5:F=if(b=0∧0<k)∨9007199254740991<n+q then(0,0,3)else(n+q,k+1,0):=by
     rw[←h2,if_neg g2]
    clear h2 hf2 hf;by_cases g3:b=0∧0<k
    ·have h6:F=(0,0,3):=by rw[h5,if_pos (.inl g3)]
     obtain⟨g4,g5⟩:=g3;have g6:(0:Int)<k:=by omega
     rw[h6];clear h5 h6;have hb0:(b==(0:Int))=true:=by rw[g4];rfl
     clear g4;refine zgo ?_;exact zfin
    ·by_cases g4:9007199254740991<n+q
     ·have h6:F=(0,0,3):=by rw[h5,if_pos (.inr g4)]
      rw[h6];clear h5 h6;by_cases g5:b=0
      ·have g6:¬(0:Int)<k:=by omega
       clear g3;have hb0:(b==(0:Int))=true:=by rw[g5];rfl
       clear g5;refine zgo ?_;exact zfin
      ·clear g3
       refine zgo ?_;exact zfin
     ·have h6:F=(n+q,k+1,0):=by rw[h5,if_neg (by omega)]
      rw[h6];clear h5 h6;have c3:=cloneB_p (src.drop (k+1)) (by rw[List.length_drop];omega)
      have e3:(src.drop (k+1)).take (src.length-(k+1))=src.drop (k+1):=List.take_of_length_le (by rw[List.length_drop];omega)
      by_cases g5:b=0
      ·have g6:¬(0:Int)<k:=by omega
       clear g3;have hb0:(b==(0:Int))=true:=by rw[g5];rfl
       clear g5;refine zgo ?_;exact zfin
      ·clear g3
       refine zgo ?_;exact zfin
  ·refine zgo ?_
   have h9:F=(0,0,10):=by rw[←h2,show 8-k=(7-k)+1 by omega];rw[numG_succ,if_neg g1]
   rw[h9];exact zfin
 ·have h9:F=(0,0,3):=by rw[←hR.2.1,Nat.sub_self,numG_zero]
  refine zgo ?_;rw[h9];exact zfin
end Go.Proofs.YtioafciifiggaaaGreatDoor
namespace Go.Proofs.YtioafciifiggaaaGreatDoor
open Go.Proofs Go.AL
set_option maxRecDepth 100000
set_option maxHeartbeats 1000000
attribute [local irreducible] endA AW aops thenA blockA hold
attribute [local irreducible] numG
theorem rnum_p(src:List Int)(hb:∀x∈src,ByteOK x)(hl:src.length≤100000):PC 216 [.snap (encL byteRow src)] (.tup [zV (numG 8 src 0 0).1,zV ((numG 8 src 0 0).2.1:Nat),zV (numG 8 src 0 0).2.2]):=by
 refine pstart Tryz.func216 Tryz.ntmps216 (by simp only[go_sem]) ?_
 refine zgo ?_;have hg:=gB src;generalize hF:numG 8 src 0 0=F;refine zfor (α:=Int) 8 (fun k n=> [(7,true,zV k),(6,true,zV (2 ^ (7*k))),(5,true,zV n),(0,true,.snap (encL byteRow src))]) (fun _ _=> []) (fun k m n=>numG (8-k) src k n=F∧0≤n∧n<2 ^ (7*k)) ⟨0,0,⟨hF,by decide,by decide⟩,zholds⟩ (fun k m n hk hR=> ?_) (fun m n hR=> ?_)
 ·obtain⟨h2,h3,h4⟩:=hR
  by_cases g1:k<src.length
  ·have hx:=hb _ (getD_mem' 0 g1)
   obtain⟨w1,w2,w3,w4⟩:=step7 (b:=src.getD k 0) hk h3 h4;obtain⟨f,hf⟩:∃f,8-k=f+1:=⟨7-k,by omega⟩
   have hf2:8-(k+1)=f:=by omega
   rw[hf]at h2;have hgk:=hg k g1;obtain⟨hx1,hx2⟩:=hx;clear hb hg hF;generalize hv:src.getD k 0=b at*;rw[numG_succ,if_pos g1,hv]at h2;have hp1:=pow7 k;have hp2:=pow7_pos k;have hp3:=pow7_le (k:=k+1) (by omega)
   have e56:(2:Int) ^ 56=72057594037927936:=by decide
   rw[e56]at hp3;have w5:Lat (n+b % 128*2 ^ (7*k)<2 ^ (7*(k+1))):=⟨w4⟩;have wt:IntKind.i64.wrap (2 ^ (7*k)*128)=2 ^ (7*(k+1)):=by rw[IntWalk.i64_in _ (by omega)];omega
   have wr:b.tmod 128=b % 128:=Int.tmod_eq_emod_of_nonneg hx1;have wn:IntKind.i64.wrap (n+b % 128*2 ^ (7*k))=n+b % 128*2 ^ (7*k):=IntWalk.i64_in _ (by omega)
   clear hp1 hp3 e56 w2 w4;generalize (2:Int) ^ (7*(k+1))=p2 at*;generalize (2:Int) ^ (7*k)=p at*;clear h4 hp2;generalize hq:b % 128*p=q at*;by_cases g2:128≤b
   ·have h5:Lat (numG (8-(k+1)) src (k+1) (n+q)=F):=⟨by rw[hf2,←h2,if_pos g2]⟩
    clear h2 hf2 hf;have g3:¬b<128:=by omega
    refine zgo ?_;exact⟨m,_,⟨h5.out,w3,w5.out⟩,zholds⟩
   ·have h5:F=if(b=0∧0<k)∨9007199254740991<n+q then(0,0,3)else(n+q,k+1,0):=by
     rw[←h2,if_neg g2]
    clear h2 hf2 hf;have g9:b<128:=by omega
    by_cases g3:b=0∧0<k
    ·have h6:F=(0,0,3):=by rw[h5,if_pos (.inl g3)]
     obtain⟨g4,g5⟩:=g3;have g6:(0:Int)<k:=by omega
     rw[h6];clear h5 h6;have hb0:(b==(0:Int))=true:=by rw[g4];rfl
     clear g4;refine zgo ?_;exact zfin
    ·by_cases g4:9007199254740991<n+q
     ·have h6:F=(0,0,3):=by rw[h5,if_pos (.inr g4)]
      rw[h6];clear h5 h6;by_cases g5:b=0
      ·have g6:¬(0:Int)<k:=by omega
       clear g3;have hb0:(b==(0:Int))=true:=by rw[g5];rfl
       clear g5;refine zgo ?_;exact zfin
      ·clear g3
       refine zgo ?_;exact zfin
     ·have h6:F=(n+q,k+1,0):=by rw[h5,if_neg (by omega)]
      rw[h6];clear h5 h6;by_cases g5:b=0
      ·have g6:¬(0:Int)<k:=by omega
       clear g3;have hb0:(b==(0:Int))=true:=by rw[g5];rfl
       clear g5;refine zgo ?_;exact zfin
      ·clear g3
       refine zgo ?_;exact zfin
  ·have h9:F=(0,0,10):=by rw[←h2,show 8-k=(7-k)+1 by omega,numG_succ,if_neg g1]
   rw[h9];clear h9 h2;refine zgo ?_;exact zfin
 ·have h9:F=(0,0,3):=by rw[←hR.1,Nat.sub_self,numG_zero]
  rw[h9];clear h9 hR;refine zgo ?_;exact zfin
theorem rrest_p(src:List Int)(n:Nat)(hn:n≤src.length)(hl:src.length≤100000):PC 217 [.snap (encL byteRow src),zV n] (.snap (encL byteRow (src.drop n))):=by
 refine pstart Tryz.func217 Tryz.ntmps217 (by simp only[go_sem]) ?_
 have e3:(src.drop n).take (src.length-n)=src.drop n:=List.take_of_length_le (by rw[List.length_drop];omega)
 cases hE:src.drop n with
 |nil=>
  rw[hE]at e3;refine zgo ?_;exact zfin
 |cons x r=>
  have hl2:(x::r).length≤100000:=by rw[←hE,List.length_drop];omega
  simp only[List.length_cons]at hl2;rw[hE]at e3;refine zgo ?_;exact zfin
theorem numG_le:∀(f:Nat) (src:List Int) (i:Nat) (n:Int),(numG f src i n).2.2=0→(numG f src i n).2.1≤src.length
 |0,_,_,_,h=>by rw[numG_zero]at h;simp at h
 |f+1,src,i,n,h=>by
  rw[numG_succ]at h⊢;split at h
  ·rename_i h1
   rw[if_pos h1];split at h
   ·rename_i h2
    rw[if_pos h2];exact numG_le f src _ _ h
   ·rename_i h2
    rw[if_neg h2];split at h
    ·simp at h
    ·rename_i h3
     rw[if_neg h3];exact h1
  ·simp at h
theorem rint_p(src:List Int)(hb:∀x∈src,ByteOK x)(hl:src.length≤100000):PC 177 [.snap (encL byteRow src)] (.tup [zV (intE src).1,.snap (encL byteRow (intE src).2.1),zV (intE src).2.2]):=by
 refine pstart Tryz.func177 Tryz.ntmps177 (by simp only[go_sem]) ?_
 have c1:=rnum_p src hb hl;have h1:=numG_le 8 src 0 0;unfold intE;generalize numG 8 src 0 0=F at*;obtain⟨n,k,e⟩:=F;simp only[]at c1 h1⊢;by_cases g:e=0
 ·have c2:=rrest_p src k (h1 g) hl
  rw[if_pos g];clear h1 hb;refine zgo ?_;exact zfin
 ·rw[if_neg g]
  clear h1 hb;refine zgo ?_;exact zfin
theorem intE_ok{src:List Int}(hb:∀x∈src,ByteOK x):(∀x∈(intE src).2.1,ByteOK x)∧(intE src).2.1.length≤src.length:=by
 unfold intE;split
 ·exact⟨fun x hx=>hb x (List.mem_of_mem_drop hx),by simp⟩
 ·exact⟨fun x hx=>by simp at hx,by simp⟩
end Go.Proofs.YtioafciifiggaaaGreatDoor
namespace Go.Proofs.YtioafciifiggaaaGreatDoor
open Go.Proofs Go.AL
set_option maxRecDepth 100000
set_option maxHeartbeats 1000000
attribute [local irreducible] endA AW aops thenA blockA hold
@[go_sem] theorem ca_take(v:Value)(s:Sec):List.take 9 (AV.c v::(encSec s++[]))=AV.c v::encSec s:=rfl
@[go_sem] theorem ca_take2(v:Value)(s:Sec):List.take 9 (AV.c v::encSec s)=AV.c v::encSec s:=rfl
@[go_sem] theorem ca_drop(v:Value)(s:Sec):List.drop 9 (AV.c v::encSec s)=[]:=rfl
end Go.Proofs.YtioafciifiggaaaGreatDoor
namespace Go.Proofs.YtioafciifiggaaaGreatDoor
open Go.Proofs Go.AL
set_option maxRecDepth 100000
set_option maxHeartbeats 1000000
attribute [local irreducible] endA AW aops thenA blockA hold
abbrev Opr:=Int×Int×List Sec
def zOp:Opr:=(0,0,[])
theorem gO(l:List Opr)(k:Nat)(h:k<l.length):(encL opRow l)[k]? =some (opRow (l.getD k zOp)):=encL_get zOp h
theorem drop_at{α:Type}{l:List α}{k:Nat}(z:α)(h:k<l.length):l.drop k=l.getD k z::l.drop (k+1):=by
 rw[List.drop_eq_getElem_cons h,List.getD_eq_getElem?_getD,List.getElem?_eq_getElem h];rfl
end Go.Proofs.YtioafciifiggaaaGreatDoor
namespace Go.Proofs.YtioafciifiggaaaGreatDoor
open Go.Proofs Go.AL
set_option maxRecDepth 100000
set_option maxHeartbeats 1000000
attribute [local irreducible] endA AW aops thenA blockA hold
theorem topS_app{A B:List Sec}{k:Nat}(h:k<B.length):max (topS (A++B.take k)) (genS (B.getD k zSec))=topS (A++B.take (k+1)):=by
 rw[List.take_succ_eq_append_getElem h];have e:B.getD k zSec=B[k]:=by rw[List.getD_eq_getElem?_getD,List.getElem?_eq_getElem h];rfl
 rw[e];simp only[topS,List.foldl_append,List.foldl_cons,List.foldl_nil]
theorem store_ok(d:Dsk)(a:Int)(p:List Int)(A B:List Sec)(x y:List Int)(gx gy N:Int)(hp:p.length≤31)(hA:A.length=8)(hB:B.length=8)(h3:0≤a)(h4:a≤1000000)(hN:N=0∨N=1)(hk:∀s∈A++B,SecOK s)(hc:PC 161 [.agg (encD d),zV a] (.tup [.agg [zV gx,.snap (encL byteRow x),.snap (encL encSec A),zV gy,.snap (encL byteRow y),.snap (encL encSec B)],zV N,zV 0])):
  PC 88 [.agg (encD d),zV a,.snap (encL byteRow p)] (.tup (if topS (A++B)=4294967295 then [.snap (encL opRow []),zV 11]else [.snap (encL opRow [(0,a+8-8*N,putS (topS (A++B)+1) p),(1,0,[])]),zV 0])):=by
 refine pstartD Tryz.func88 Tryz.ntmps88 (by split<;>simp only[go_sem]) ?_
 have hT:=topS_in _ hk;have g2:¬(31:Int)<p.length:=by omega
 have hgA:=gS A;have hgB:=gS B;have e0:A.take 0=[]:=rfl;have e2:topS ([]:List Sec)=0:=rfl;unfold encD at hc⊢;refine zgo ?_;refine w_rounds 3 ?_;refine w_round ?_;refine zgo ?_;refine zfor1 8 40 [] (fun k=> [(37,true,zV k),(36,true,zV 8),(35,true,.snap (encL encSec A)),(31,true,zV 0),(30,true,.agg [zV gx,.snap (encL byteRow x),.snap (encL encSec A),zV gy,.snap (encL byteRow y),.snap (encL encSec B)]),(11,true,zV (topS (A.take k))),(9,true,zV N),(1,true,zV a),(2,true,.snap (encL byteRow p))]) zholds (fun k m hkk hm=> ?_) (fun m hm=> ?_)
 ·have hs:=(hk (A.getD k zSec) (List.mem_append_left _ (getD_mem' zSec (by omega)))).1
  have c2:=generation_p (A.getD k zSec) hs;have h7:=topS_succ (l:=A) (k:=k) (by omega)
  have h8:(if genS (A.getD k zSec)>topS (A.take k)then genS (A.getD k zSec)else topS (A.take k))=topS (A.take (k+1)):=by
   rw[←h7];split<;>omega
  clear hk hs h7;refine zgo ?_;refine⟨m+9,by omega,?_⟩
  exact zholds
 ·have e8:A.take 8=A:=List.take_of_length_le (by omega)
  have e9:topS (A++B.take 0)=topS A:=by rw[List.take_zero,List.append_nil]
  rw[e8];refine zgo ?_;refine zfor1 8 (m+40) [] (fun k=> [(37,true,zV k),(36,true,zV 8),(35,true,.snap (encL encSec B)),(31,true,zV 1),(30,true,.agg [zV gx,.snap (encL byteRow x),.snap (encL encSec A),zV gy,.snap (encL byteRow y),.snap (encL encSec B)]),(11,true,zV (topS (A++B.take k))),(9,true,zV N),(1,true,zV a),(2,true,.snap (encL byteRow p))]) zholds (fun k m hkk hm=> ?_) (fun m hm=> ?_)
  ·have hs:=(hk (B.getD k zSec) (List.mem_append_right _ (getD_mem' zSec (by omega)))).1
   have c2:=generation_p (B.getD k zSec) hs;have h7:=topS_app (A:=A) (B:=B) (k:=k) (by omega)
   have h8:(if genS (B.getD k zSec)>topS (A++B.take k)then genS (B.getD k zSec)else topS (A++B.take k))=topS (A++B.take (k+1)):=by
    rw[←h7];split<;>omega
   clear hk hs h7 e9 e8;refine zgo ?_;refine⟨m+9,by omega,?_⟩
   exact zholds
  ·have e10:B.take 8=B:=List.take_of_length_le (by omega)
   rw[e10];clear hk e9 e8 e10 hgA hgB;generalize topS (A++B)=T at*;by_cases g3:T=4294967295
   ·rw[if_pos g3]
    refine zgo ?_;exact zfin
   ·rw[if_neg g3]
    have c3:=put_p (T+1) p hp;have w1:IntKind.i64.wrap (T+1)=T+1:=IntWalk.i64_in _ (by omega)
    have w2:IntKind.i64.wrap (1-N)=1-N:=IntWalk.i64_in _ (by omega)
    have w3:IntKind.i64.wrap ((1-N)*8)=(1-N)*8:=IntWalk.i64_in _ (by omega)
    have w4:IntKind.i64.wrap (a+(1-N)*8)=a+8-8*N:=by rw[IntWalk.i64_in _ (by omega)];omega
    refine zgo ?_;exact zfin
end Go.Proofs.YtioafciifiggaaaGreatDoor
