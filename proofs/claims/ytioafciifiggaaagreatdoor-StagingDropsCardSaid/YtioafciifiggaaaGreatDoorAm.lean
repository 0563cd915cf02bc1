/- Staging: contracts of its functions (Am). No condition but those named. -/
import Derived.Test.YtioafciifiggaaaGreatDoorAl
import Derived.Test.YtioafciifiggaaaGreatDoorAj
import Derived.Test.YtioafciifiggaaaGreatDoorLg
set_option linter.unusedVariables false
set_option linter.unusedSimpArgs false
namespace Go.Proofs.YtioafciifiggaaaGreatDoor
open Go.Proofs Go.AL
set_option maxRecDepth 100000
set_option maxHeartbeats 1000000
attribute [local irreducible] endA AW aops thenA blockA hold
theorem xor8_lt{a b:Nat}(ha:a<256)(hb:b<256):a ^^^ b<256:=Nat.xor_lt_two_pow (n:=8) ha hb
theorem xor_u8{a b:Nat}(ha:a<256)(hb:b<256):bits .xor .u8 (a:Int) (b:Int)=((a ^^^ b:Nat):Int):=by
 have h:bits .xor .u8 (a:Int) (b:Int)=IntKind.u8.wrap ((BitVec.ofInt 8 (a:Int) ^^^ BitVec.ofInt 8 (b:Int)).toNat:Int):=rfl;have h2:=xor8_lt ha hb;rw[h,BitVec.ofInt_natCast,BitVec.ofInt_natCast,BitVec.toNat_xor,BitVec.toNat_ofNat,BitVec.toNat_ofNat,Nat.mod_eq_of_lt (by omega),Nat.mod_eq_of_lt (by omega),IntKind.wrap_u8]
 omega
def tix(r:W32)(x:Int):Nat:=(r.toNat % 256) ^^^ x.toNat
theorem tix_lt(r:W32){x:Int}(h:ByteOK x):tix r x<256:=xor8_lt (Nat.mod_lt _ (by decide)) (by have:=h.2;omega)
theorem tix_eq(r:W32){x:Int}(h:ByteOK x):bits .xor .u8 (IntKind.u8.wrap (nV r)) x=(tix r x:Nat):=by
 obtain⟨n,rfl,hn⟩:=byte_lt h;rw[IntKind.wrap_u8];have:nV r % 256=((r.toNat % 256:Nat):Int):=by unfold nV;omega
 rw[this,xor_u8 (Nat.mod_lt _ (by decide)) hn]
 unfold tix;simp
theorem tix_reg(r:W32){x:Int}(h:ByteOK x):BitVec.ofNat 32 (tix r x)=(r&&&0xFF#32) ^^^ BitVec.ofInt 32 x:=by
 have ht:=tix_lt r h;obtain⟨n,rfl,hn⟩:=byte_lt h;apply BitVec.eq_of_toNat_eq;have h1:255 % 2 ^ 32=2 ^ 8-1:=rfl;rw[BitVec.toNat_ofNat,Nat.mod_eq_of_lt (by omega),BitVec.toNat_xor,BitVec.toNat_and,BitVec.ofInt_natCast,BitVec.toNat_ofNat,BitVec.toNat_ofNat,h1,Nat.and_two_pow_sub_one_eq_mod,Nat.mod_eq_of_lt (by omega:n<2 ^ 32)]
 unfold tix;simp
theorem tbl_step(r:W32){x:Int}(h:ByteOK x):bits .xor .u32 ((nV r).fdiv (2 ^ min 8 32)) (nV (stpN 8 (BitVec.ofNat 32 (tix r x))))=nV (stpN 8 (r ^^^ BitVec.ofInt 32 x)):=by
 have h1:(nV r).fdiv (2 ^ min 8 32)=nV (r>>>8):=nV_shr r 8;rw[h1,nV_xor,tix_reg r h,←tbl_law]
attribute [local irreducible] tblR stpN
theorem update_p(l:List Int)(hb:∀x∈l,ByteOK x)(hl:l.length≤1000000):PC 141 [.c (.int .u32 0),.snap (encL byteRow l)] (.c (.int .u32 (crc l))):=by
 refine pstart Tryz.func141 Tryz.ntmps141 (.c _) ?_;have hg:=gB l;have h0:bits .xor .u32 (if IntKind.u32.signed=true then-1 else IntKind.u32.max) 0=nV (~~~ 0#32):=nV_notI 0#32
 have c1:=registers_p;have h1:(tblR 256).take 256=tblR 256:=List.take_of_length_le (by rw[tblR_len];decide)
 have h2:(tblR 256).all AV.one=true:=tblR_one 256;have h3:(tblR 0).drop 256=[]:=List.drop_of_length_le (by rw[tblR_len];decide)
 have h5:(∀x∈tblR 256,NoId x)=True:=eq_true (tblR_no 256);have t0:=tblR_0;have tl:=tblR_len;unfold crc;refine zgo ?_;refine zfor1 l.length 100 [(0,some (.cells 304 256 [tblR 256] true false))] (fun k=> [(14,true,zV k),(13,true,zV l.length),(12,true,.snap (encL byteRow l)),(6,true,u32V (crcR (~~~ 0#32) (l.take k))),(5,true,.ptr 0 0 0),(1,true,.snap (encL byteRow l))]) zholds (fun k m hk hm=> ?_) (fun m hm=> ?_)
 ·have hx:=hb _ (getD_mem' 0 hk)
  have k1:=tix_eq (crcR (~~~ 0#32) (l.take k)) hx;have k2:=tix_lt (crcR (~~~ 0#32) (l.take k)) hx;have k3:=tbl_step (crcR (~~~ 0#32) (l.take k)) hx;rw[←crcR_succ hk]at k3;have k4:=tblR_at (k:=256) k2;rw[if_pos k2]at k4;have hgk:=hg k hk;generalize tix (crcR (~~~ 0#32) (l.take k)) (l.getD k 0)=i at*;generalize crcR (~~~ 0#32) (l.take k)=r at*;generalize crcR (~~~ 0#32) (l.take (k+1))=r' at*;clear h0 hb hg c1 h1 h2 h3 h5 t0 hx
  refine zgo ?_;exact⟨m,hm,zholds⟩
 ·rw[List.take_length]
  have k1:=nV_notI (crcR (~~~ 0#32) l);clear h0 hb hg c1 h1 h2 h3 h5 t0 tl;refine zgo ?_;exact zfin
theorem sum_p(l:List Int)(hb:∀x∈l,ByteOK x)(hl:l.length≤1000000):PC 66 [.snap (encL byteRow l)] (.c (.int .u32 (crc l))):=by
 refine pstart Tryz.func66 Tryz.ntmps66 (.c _) ?_;have c1:=update_p l hb hl;refine zgo ?_;exact zfin
end Go.Proofs.YtioafciifiggaaaGreatDoor
namespace Go.Proofs.YtioafciifiggaaaGreatDoor
open Go.Proofs Go.AL
set_option maxRecDepth 100000
set_option maxHeartbeats 1000000
attribute [local irreducible] endA AW aops thenA blockA hold
theorem m64_p:PC 278 [.c (.int .u64 1),.c (.int .u64 8)] (.tup [.c (.int .u64 0),.c (.int .u64 8)]):=by
 refine pstart Tryz.func278 Tryz.ntmps278 (.tup _ (by simp;exact⟨.c _,.c _⟩)) ?_
 have e1:bits .and .u64 1 4294967295=1:=by decide
 have e2:bits .and .u64 8 4294967295=8:=by decide
 have e3:bits .and .u64 0 4294967295=0:=by decide
 refine zgo ?_;exact zfin
theorem mul_p:PC 236 [.c (.int .u64 1),.c (.int .u64 8)] (.tup [.c (.int .u64 0),.c (.int .u64 8)]):=by
 refine pstart Tryz.func236 Tryz.ntmps236 (.tup _ (by simp;exact⟨.c _,.c _⟩)) ?_
 have c1:=m64_p;refine zgo ?_;exact zfin
theorem most_p:PC 224 [] (.snap (encL intRow big8)):=by
 refine pstart Tryz.func224 Tryz.ntmps224 (encL_noId _) ?_;refine zgo2 ?_;refine w_rounds 9 ?_;refine w_round ?_;refine zgo2 ?_;exact zfin
theorem largest_p:PC 138 [] (.snap (encL intRow big8)):=by
 refine pstart Tryz.func138 Tryz.ntmps138 (encL_noId _) ?_;have c1:=mul_p;have n1:Nat.min 1 8=1:=rfl;have n2:Nat.min 1 7=1:=rfl;have n3:Nat.min 2 6=2:=rfl;have n4:Nat.min 4 4=4:=rfl;refine zgo2 ?_;refine zin Tryz.func190 Tryz.ntmps190 ?_;refine zgo2 ?_;refine w_rounds 4 ?_;refine w_round ?_;refine zgo2 ?_;exact zfin
end Go.Proofs.YtioafciifiggaaaGreatDoor
namespace Go.Proofs.YtioafciifiggaaaGreatDoor
open Go.Proofs Go.AL
set_option maxRecDepth 100000
set_option maxHeartbeats 1000000
attribute [local irreducible] endA AW aops thenA blockA hold
attribute [local irreducible] numG
theorem wrtE_len(src:List Int)(h:(wrtE src).2.2=0):(wrtE src).1.2.2.length≤65536:=by
 unfold wrtE at h⊢;split
 ·split
  ·exact manyE_len _
  ·simp[zWr]
 ·simp[zWr]
theorem decCyc_len(b n t:Int)(s1 s2:List Int):CycLen ⟨b,n,t,(manyE intE s1).1,(manyE wrtE s2).1⟩:=
 ⟨by have:=manyE_len (one:=intE) s1;simp only[];omega,by have:=manyE_len (one:=wrtE) s2;simp only[];omega,fun w hw=>by
   have:=manyE_all (one:=wrtE) (p:=fun w=>w.2.2.length≤65536) (fun src h=>wrtE_len src h) s2 w hw
   omega⟩
theorem rdecode_p(b:List Int)(hb:∀x∈b,ByteOK x)(hl:b.length≤100000):PC 181 [.snap (encL byteRow b)] (.tup [.agg (encC (decE b).1),zV (decE b).2]):=by
 refine pstart Tryz.func181 Tryz.ntmps181 (by simp only[go_sem,encC]) ?_
 have c1:=rint_p b hb hl;have k1:=intE_ok hb;have c2:=rint_p (intE b).2.1 k1.1 (by omega)
 have k2:=intE_ok k1.1;have c3:=rint_p (intE (intE b).2.1).2.1 k2.1 (by omega)
 have k3:=intE_ok k2.1;have c4:=rints_p (intE (intE (intE b).2.1).2.1).2.1 k3.1 (by omega)
 have k4:=manyE_less intE_less _ k3.1;have c5:=rwrts_p (manyE intE (intE (intE (intE b).2.1).2.1).2.1).2.1 k4.1 (by omega)
 have c6:=rcycheck_p ⟨(intE b).1,(intE (intE b).2.1).1,(intE (intE (intE b).2.1).2.1).1,(manyE intE (intE (intE (intE b).2.1).2.1).2.1).1,(manyE wrtE (manyE intE (intE (intE (intE b).2.1).2.1).2.1).2.1).1⟩ big8 (by decide) (decCyc_len _ _ _ _ _)
 have c7:=most_p;have hn:(encL opRow (manyE wrtE (manyE intE (intE (intE (intE b).2.1).2.1).2.1).2.1).1).length=(encL opRow (manyE wrtE (manyE intE (intE (intE (intE b).2.1).2.1).2.1).2.1).1).length:=rfl;obtain⟨M,hM⟩:∃M,decE b=M:=⟨_,rfl⟩;rw[hM];unfold decE at hM;by_cases g0:65536<b.length
 ·rw[if_pos g0]at hM
  subst hM;clear c1 c2 c3 c4 c5 c6 c7 k1 k2 k3 k4 hb hn;refine zgo ?_;exact zfin
 rw[if_neg g0]at hM;generalize manyE wrtE (manyE intE (intE (intE (intE b).2.1).2.1).2.1).2.1=W at*;generalize manyE intE (intE (intE (intE b).2.1).2.1).2.1=L at*;generalize intE (intE (intE b).2.1).2.1=Z at*;generalize intE (intE b).2.1=Y at*;generalize intE b=X at*;obtain⟨x,xr,xe⟩:=X;obtain⟨y,yr,ye⟩:=Y;obtain⟨z,zr,ze⟩:=Z;obtain⟨l,lr,le⟩:=L;obtain⟨w,wr,we⟩:=W;unfold decG at hM;simp only[]at*;clear k1 k2 k3 k4 hb hn
 by_cases g1:xe=0
 ·subst g1
  rw[if_pos rfl]at hM;by_cases g2:ye=0
  ·subst g2
   rw[if_pos rfl]at hM;by_cases g3:ze=0
   ·subst g3
    rw[if_pos rfl]at hM;by_cases g4:le=0
    ·subst g4
     rw[if_pos rfl]at hM;by_cases g5:we=0
     ·subst g5
      rw[if_pos rfl]at hM;by_cases g6:wr=[]
      ·subst g6
       rw[if_pos rfl]at hM;unfold encC at c6;simp only[]at c6;generalize cycE ⟨x,y,z,l,w⟩ big8=ce at*;by_cases g7:ce=0
       ·rw[if_pos g7]at hM
        subst hM g7;refine zgo ?_;exact zfin
       ·rw[if_neg g7]at hM
        subst hM;refine zgo ?_;exact zfin
      ·rw[if_neg g6]at hM
       subst hM;have g8:(0:Int)<wr.length:=by have:=List.length_pos_iff.2 g6;omega
       clear c6;refine zgo ?_;exact zfin
     ·rw[if_neg g5]at hM
      subst hM;clear c6;refine zgo ?_;exact zfin
    ·rw[if_neg g4]at hM
     subst hM;clear c6 c5;refine zgo ?_;exact zfin
   ·rw[if_neg g3]at hM
    subst hM;clear c6 c5 c4;refine zgo ?_;exact zfin
  ·rw[if_neg g2]at hM
   subst hM;clear c6 c5 c4 c3;refine zgo ?_;exact zfin
 ·rw[if_neg g1]at hM
  subst hM;clear c6 c5 c4 c3 c2;refine zgo ?_;exact zfin
end Go.Proofs.YtioafciifiggaaaGreatDoor
namespace Go.Proofs.YtioafciifiggaaaGreatDoor
open Go.Proofs Go.AL
set_option maxRecDepth 100000
set_option maxHeartbeats 1000000
attribute [local irreducible] endA AW aops thenA blockA hold
attribute [local irreducible] numG
theorem decc_xT(e:Int)(N:Nat)(T:List (Nat×Option Blk))(x0 x1 x2 x3 x4 a:AV):
  DCall Tryz.prog 203 [.ptr 0 0 0,.ptr 1 0 0] ⟨N,tabG ((0,some (.cells 79 5 [[x0,x1,x2,x3,x4]] true false))::(1,some (.cells 38 1 [[a]] true false))::T)⟩ (some (failV e))
   (fun H'=>H'=⟨N+1+1,tabG ((0,some (.cells 79 5 [[zV 0,zV 0,zV 0,.c (.slice none 0 0),.c (.slice none 0 0)]] true false))::(1,some (.cells 38 1 [[zV e]] true false))::T)⟩):=decc_x e N (tabG T) x0 x1 x2 x3 x4 a
theorem decc_nT(H:Heap):DCall Tryz.prog 203 [.ptr 0 0 0,.ptr 1 0 0] H none (fun H'=>H'=H):=decc_n 0 1 H.next H.get
theorem decode_p(b:List Int)(hb:∀x∈b,ByteOK x)(hl:b.length≤100000):PC 158 [.snap (encL byteRow b)] (.tup [.agg (encC (decE b).1),zV (decE b).2]):=by
 refine dstart Tryz.func158 Tryz.ntmps158 (by simp only[go_sem,encC]) ?_
 have c1:=int_p b hb hl;have k1:=intE_ok hb;have c2:=int_p (intE b).2.1 k1.1 (by omega)
 have k2:=intE_ok k1.1;have c3:=int_p (intE (intE b).2.1).2.1 k2.1 (by omega)
 have k3:=intE_ok k2.1;have c4:=ints_p (intE (intE (intE b).2.1).2.1).2.1 k3.1 (by omega)
 have k4:=manyE_less intE_less _ k3.1;have c5:=writes_p (manyE intE (intE (intE (intE b).2.1).2.1).2.1).2.1 k4.1 (by omega)
 have c6:=cycheck_p ⟨(intE b).1,(intE (intE b).2.1).1,(intE (intE (intE b).2.1).2.1).1,(manyE intE (intE (intE (intE b).2.1).2.1).2.1).1,(manyE wrtE (manyE intE (intE (intE (intE b).2.1).2.1).2.1).2.1).1⟩ big8 (by decide) (decCyc_len _ _ _ _ _)
 have c7:=largest_p;have hzc:encC zCyc=[zV 0,zV 0,zV 0,.snap (encL intRow []),.snap (encL opRow [])]:=rfl;have d1:=demand_t 5;have d2:=demand_x 5;have d3:=demand_t 3;have d4:=demand_x 3;have d5:=pass_t;have hl2:=manyE_len (one:=intE) (intE (intE (intE b).2.1).2.1).2.1;have hl3:=manyE_len (one:=wrtE) (manyE intE (intE (intE (intE b).2.1).2.1).2.1).2.1;obtain⟨M,hM⟩:∃M,decE b=M:=⟨_,rfl⟩;rw[hM];unfold decE at hM
 by_cases g0:65536<b.length
 ·rw[if_pos g0]at hM
  subst hM;clear c1 c2 c3 c4 c5 c6 c7 k1 k2 k3 k4 hb hl2 hl3 d1 d3 d4 d5;have s:StopAt 2 3 (failV 5):=⟨⟩;refine zgoX ?_;refine zdpan (decc_xT 5 _ _ _ _ _ _ _ _) ?_;refine w_hold2 ?_;exact zfin
 rw[if_neg g0]at hM;clear d2;generalize manyE wrtE (manyE intE (intE (intE (intE b).2.1).2.1).2.1).2.1=W at*;generalize manyE intE (intE (intE (intE b).2.1).2.1).2.1=L at*;generalize intE (intE (intE b).2.1).2.1=Z at*;generalize intE (intE b).2.1=Y at*;generalize intE b=X at*;obtain⟨x,xr,xe⟩:=X;obtain⟨y,yr,ye⟩:=Y;obtain⟨z,zr,ze⟩:=Z;obtain⟨l,lr,le⟩:=L;obtain⟨w,wr,we⟩:=W;unfold decG at hM;simp only[]at*
 have q1:=k1.2;have q2:=k2.2;have q3:=k3.2;have q4:=k4.2;clear k1 k2 k3 k4 hb;by_cases g1:xe=0
 ·subst g1
  rw[if_pos rfl]at hM;by_cases g2:ye=0
  ·subst g2
   rw[if_pos rfl]at hM;by_cases g3:ze=0
   ·subst g3
    rw[if_pos rfl]at hM;by_cases g4:le=0
    ·subst g4
     rw[if_pos rfl]at hM;by_cases g5:we=0
     ·subst g5
      rw[if_pos rfl]at hM;by_cases g6:wr=[]
      ·subst g6
       rw[if_pos rfl]at hM;unfold encC at c6;simp only[]at c6;generalize cycE ⟨x,y,z,l,w⟩ big8=ce at*;clear d4;by_cases g7:ce=0
       ·rw[if_pos g7]at hM
        subst hM g7;unfold encC;refine zgoX ?_;refine w_rounds 4 ?_;refine w_round ?_;refine zgoX ?_;refine zdret (decc_nT _) ?_;refine w_hold2 ?_;exact zfin
       ·rw[if_neg g7]at hM
        subst hM;have d6:=pass_x ce g7;have s:StopAt 14 3 (failV ce):=⟨⟩;have s2:StopAt (14+1000) 3 .nilIface:=⟨⟩;refine zgoX ?_;refine w_rounds 4 ?_;refine w_round ?_;refine zgoX ?_;refine zregTX s2 ?_;refine zgoX ?_;refine zdpan (decc_xT ce _ _ _ _ _ _ _ _) ?_;refine w_hold2 ?_;exact zfin
      ·rw[if_neg g6]at hM
       subst hM;have g8:¬(wr.length:Int)=0:=by have:=List.length_pos_iff.2 g6;omega
       clear c6;have s:StopAt 13 3 (failV 3):=⟨⟩;refine zgoX ?_;refine w_rounds 4 ?_;refine w_round ?_;refine zgoX ?_;refine zdpan (decc_xT 3 _ _ _ _ _ _ _ _) ?_;refine w_hold2 ?_;exact zfin
     ·rw[if_neg g5]at hM
      subst hM;clear c6 d4;have d6:=pass_x we g5;have s:StopAt 12 1 (failV we):=⟨⟩;refine zgoX ?_;refine w_rounds 4 ?_;refine w_round ?_;refine zgoX ?_;refine zdpan (decc_xT we _ _ _ _ _ _ _ _) ?_;refine w_hold2 ?_;exact zfin
    ·rw[if_neg g4]at hM
     subst hM;clear c6 c5 d4;have d6:=pass_x le g4;have s:StopAt 10 1 (failV le):=⟨⟩;refine zgoX ?_;refine w_rounds 4 ?_;refine w_round ?_;refine zgoX ?_;refine zdpan (decc_xT le _ _ _ _ _ _ _ _) ?_;refine w_hold2 ?_;exact zfin
   ·rw[if_neg g3]at hM
    subst hM;clear c6 c5 c4 d4;refine zgoX ?_;refine w_rounds 4 ?_;refine w_round ?_
    iterate 73 (refine zstep ?_)
    have d6:=pass_x ze g3;have s:StopAt 7 1 (failV ze):=⟨⟩;refine zgoX ?_;refine zdpan (decc_xT ze _ _ _ _ _ _ _ _) ?_;refine w_hold2 ?_;exact zfin
  ·rw[if_neg g2]at hM
   subst hM;clear c6 c5 c4 c3 d4;refine zgoX ?_;refine w_rounds 4 ?_;refine w_round ?_
   iterate 46 (refine zstep ?_)
   have d6:=pass_x ye g2;have s:StopAt 7 1 (failV ye):=⟨⟩;refine zgoX ?_;refine zdpan (decc_xT ye _ _ _ _ _ _ _ _) ?_;refine w_hold2 ?_;exact zfin
 ·rw[if_neg g1]at hM
  subst hM;clear c6 c5 c4 c3 c2 d4 d5;have d6:=pass_x xe g1;have s:StopAt 7 1 (failV xe):=⟨⟩;refine zgoX ?_;refine w_rounds 4 ?_;refine w_round ?_;refine zgoX ?_;refine zdpan (decc_xT xe _ _ _ _ _ _ _ _) ?_;refine w_hold2 ?_;exact zfin
end Go.Proofs.YtioafciifiggaaaGreatDoor
namespace Go.Proofs.YtioafciifiggaaaGreatDoor
open Go.Proofs Go.AL
set_option maxRecDepth 100000
set_option maxHeartbeats 1000000
attribute [local irreducible] endA AW aops thenA blockA hold
attribute [local irreducible] numG
def corB(n i p s:Int):Bool:=decide (1≤n)&&decide (n≤1073741824)&&decide (i<p)&&decide (p≤65536)&&decide (s≤4294967295)
theorem correct_p(n i p s:Int):PC 196 [.agg [zV n,zV p,zV s,zV i]] (bV (corB n i p s)):=by
 refine pstart Tryz.func196 Tryz.ntmps196 (.c _) ?_;unfold corB;refine zgo ?_;exact zfin
theorem badP_iff(n i p s:Int)(l:List Int):badP n i p s l↔(corB n i p s=false∨l=[]∨4096<l.length):=by
 unfold badP corB;simp only[Bool.and_eq_false_iff,decide_eq_false_iff_not];constructor
 ·rintro(h|h|h|h|h|h|h)
  ·exact .inl (.inl (.inl (.inl (.inl (by omega)))))
  ·exact .inl (.inl (.inl (.inl (.inr (by omega)))))
  ·exact .inl (.inl (.inl (.inr (by omega))))
  ·exact .inl (.inl (.inr (by omega)))
  ·exact .inl (.inr (by omega))
  ·exact .inr (.inl h)
  ·exact .inr (.inr h)
 ·rintro(((((h|h)|h)|h)|h)|h|h)
  ·exact .inl (by omega)
  ·exact .inr (.inl (by omega))
  ·exact .inr (.inr (.inl (by omega)))
  ·exact .inr (.inr (.inr (.inl (by omega))))
  ·exact .inr (.inr (.inr (.inr (.inl (by omega)))))
  ·exact .inr (.inr (.inr (.inr (.inr (.inl h)))))
  ·exact .inr (.inr (.inr (.inr (.inr (.inr h)))))
theorem parE_eq(b:List Int):parE b=parG (intE b) (intE (intE b).2.1) (intE (intE (intE b).2.1).2.1) (intE (intE (intE (intE b).2.1).2.1).2.1):=rfl
theorem bparse_p(b:List Int)(hb:∀x∈b,ByteOK x)(hl:b.length≤100000):PC 144 [.snap (encL byteRow b)] (.tup [.agg [zV (parE b).1.number,zV (parE b).1.parts,zV (parE b).1.sum,zV (parE b).1.index],.snap (encL byteRow (parE b).1.piece),zV (parE b).2]):=by
 refine pstart Tryz.func144 Tryz.ntmps144 (by simp only[go_sem]) ?_
 have c1:=int_p b hb hl;have k1:=intE_ok hb;have c2:=int_p (intE b).2.1 k1.1 (by omega)
 have k2:=intE_ok k1.1;have c3:=int_p (intE (intE b).2.1).2.1 k2.1 (by omega)
 have k3:=intE_ok k2.1;have c4:=int_p (intE (intE (intE b).2.1).2.1).2.1 k3.1 (by omega)
 have k4:=intE_ok k3.1;have c5:=cloneB_p (intE (intE (intE (intE b).2.1).2.1).2.1).2.1 (by omega)
 have c6:=correct_p (intE b).1 (intE (intE b).2.1).1 (intE (intE (intE b).2.1).2.1).1 (intE (intE (intE (intE b).2.1).2.1).2.1).1;obtain⟨M,hM⟩:∃M,parE b=M:=⟨_,rfl⟩;rw[hM];rw[parE_eq]at hM;generalize intE (intE (intE (intE b).2.1).2.1).2.1=V at*;generalize intE (intE (intE b).2.1).2.1=Z at*;generalize intE (intE b).2.1=Y at*;generalize intE b=X at*;obtain⟨x,xr,xe⟩:=X;obtain⟨y,yr,ye⟩:=Y;obtain⟨z,zr,ze⟩:=Z
 obtain⟨v,vr,ve⟩:=V;unfold parG at hM;simp only[]at*;have q4:vr.length≤100000:=by omega
 clear k1 k2 k3 k4 hb;by_cases g1:xe=0
 ·subst g1
  rw[if_pos rfl]at hM;by_cases g2:ye=0
  ·subst g2
   rw[if_pos rfl]at hM;by_cases g3:ze=0
   ·subst g3
    rw[if_pos rfl]at hM;by_cases g4:ve=0
    ·subst g4
     rw[if_pos rfl]at hM;have hbi:=badP_iff x y z v vr;by_cases g5:corB x y z v=false
     ·rw[if_pos (hbi.2 (.inl g5))]at hM
      subst hM;rw[g5]at c6;clear hbi g5;unfold zPrt;refine zgo ?_;refine w_rounds 5 ?_;refine w_round ?_;refine zgo ?_;exact zfin
     ·have g5':corB x y z v=true:=by simpa using g5
      rw[g5']at c6;by_cases g6:vr=[]
      ·rw[if_pos (hbi.2 (.inr (.inl g6)))]at hM
       subst hM g6;clear hbi g5 g5';unfold zPrt;refine zgo ?_;refine w_rounds 5 ?_;refine w_round ?_;refine zgo ?_;exact zfin
      ·have g6':¬(vr.length:Int)<1:=by have:=List.length_pos_iff.2 g6;omega
       by_cases g7:4096<vr.length
       ·rw[if_pos (hbi.2 (.inr (.inr g7)))]at hM
        subst hM;have g7':(4096:Int)<vr.length:=by omega
        clear hbi g5 g5';unfold zPrt;refine zgo ?_;refine w_rounds 5 ?_;refine w_round ?_;refine zgo ?_;exact zfin
       ·rw[if_neg (fun h=>by
         rcases hbi.1 h with h|h|h
         ·exact g5 h
         ·exact g6 h
         ·exact g7 h)]at hM
        subst hM;have g7':¬(4096:Int)<vr.length:=by omega
        clear hbi g5 g5';refine zgo2 ?_;refine w_rounds 5 ?_;refine w_round ?_;refine zgo2 ?_;exact zfin
    ·rw[if_neg g4]at hM
     subst hM;clear c6 c5;unfold zPrt;refine zgo ?_;refine w_rounds 5 ?_;refine w_round ?_;refine zgo ?_;exact zfin
   ·rw[if_neg g3]at hM
    subst hM;clear c6 c5 c4;unfold zPrt;refine zgo ?_;refine w_rounds 5 ?_;refine w_round ?_;refine zgo ?_;exact zfin
  ·rw[if_neg g2]at hM
   subst hM;clear c6 c5 c4 c3;unfold zPrt;refine zgo ?_;refine w_rounds 5 ?_;refine w_round ?_;refine zgo ?_;exact zfin
 ·rw[if_neg g1]at hM
  subst hM;clear c6 c5 c4 c3 c2;unfold zPrt;refine zgo ?_;refine w_rounds 5 ?_;refine w_round ?_;refine zgo ?_;exact zfin
theorem bheader_p(b:List Int)(hb:∀x∈b,ByteOK x)(hl:b.length≤100000):PC 69 [.snap (encL byteRow b)] (.tup [zV (parE b).1.number,zV (parE b).1.index,zV (parE b).1.parts,zV (parE b).2]):=by
 refine pstart Tryz.func69 Tryz.ntmps69 (by simp only[go_sem]) ?_
 have c1:=bparse_p b hb hl;clear hb;refine zgo ?_;exact zfin
end Go.Proofs.YtioafciifiggaaaGreatDoor
