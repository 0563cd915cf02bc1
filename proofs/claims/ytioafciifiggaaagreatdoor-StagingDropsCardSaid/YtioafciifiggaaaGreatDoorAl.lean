/- Staging: contracts of its functions (Al). No condition but those named. -/
import Derived.Test.YtioafciifiggaaaGreatDoorAk
import Derived.Test.YtioafciifiggaaaGreatDoorLg
set_option linter.unusedVariables false
set_option linter.unusedSimpArgs false
namespace Go.Proofs.YtioafciifiggaaaGreatDoor
open Go.Proofs Go.AL
set_option maxRecDepth 100000
set_option maxHeartbeats 1000000
attribute [local irreducible] endA AW aops thenA blockA hold
attribute [local irreducible] numG
theorem listI_e:∃d,∀(src:List Int) (hb:∀x∈src,ByteOK x) (hl:src.length≤100000) (id:Nat),MCall Tryz.prog 244 [.ptr id 0 0,.fn (.func 212) [] []] id (curB src) (curO (manyE intE src)) (.tup [.snap (encL intRow (manyE intE src).1),zV (manyE intE src).2.2]) d:=⟨_,listI_m⟩
theorem manyG_err{α:Type}{one:List Int→α×List Int×Int}:∀(f:Nat) (src:List Int) (out:List α),(manyG one f src out).2.2≠0→(manyG one f src out).1=[]∧(manyG one f src out).2.1=[]
 |0,src,out,h=>by rw[manyG_zero]at h;exact absurd rfl h
 |f+1,src,out,h=>by
  rw[manyG_succ]at h⊢;split at h
  ·rename_i g
   rw[if_pos g];exact manyG_err f _ _ h
  ·rename_i g
   rw[if_neg g];exact⟨rfl,rfl⟩
theorem manyE_err{α:Type}{one:List Int→α×List Int×Int}(src:List Int)(h:(manyE one src).2.2≠0):(manyE one src).1=[]∧(manyE one src).2.1=[]:=by
 unfold manyE at h⊢;split at h
 ·rename_i g
  rw[if_pos g];exact manyG_err _ _ _ h
 ·rename_i g
  rw[if_neg g];exact⟨rfl,rfl⟩
theorem ints_p(src:List Int)(hb:∀x∈src,ByteOK x)(hl:src.length≤100000):PC 207 [.snap (encL byteRow src)] (.tup [.snap (encL intRow (manyE intE src).1),.snap (encL byteRow (manyE intE src).2.1),zV (manyE intE src).2.2]):=by
 refine pstart Tryz.func207 Tryz.ntmps207 (by simp only[go_sem]) ?_
 obtain⟨d,hd⟩:=listI_e;have c1:=hd src hb hl 0;have hle:=manyE_less intE_less src hb;have he:(manyE intE src).2.2≠0→(manyE intE src).1=[]∧(manyE intE src).2.1=[]:=manyE_err src;generalize manyE intE src=M at*;obtain⟨x,r,e⟩:=M;simp only[]at hle;have c2:=cloneB_p r (by omega)
 clear hb hle hd;unfold curO curB at*;simp only[]at*;refine zgoM ?_;refine zin Tryz.func242 Tryz.ntmps242 ?_;refine zgoM ?_;refine zin Tryz.func243 Tryz.ntmps243 ?_;by_cases g:e=0
 ·subst g
  rw[if_pos rfl]at c1;clear he;refine zgoM ?_;exact zfin
 ·rw[if_neg g]at c1
  obtain⟨rfl,rfl⟩:=he g;refine zgoM ?_;exact zfin
theorem writes_p(src:List Int)(hb:∀x∈src,ByteOK x)(hl:src.length≤100000):PC 208 [.snap (encL byteRow src)] (.tup [.snap (encL opRow (manyE wrtE src).1),.snap (encL byteRow (manyE wrtE src).2.1),zV (manyE wrtE src).2.2]):=by
 refine pstart Tryz.func208 Tryz.ntmps208 (by simp only[go_sem]) ?_
 obtain⟨d,hd⟩:=listW_e;have c1:=hd src hb hl 0;have hle:=manyE_less wrtE_less src hb;have he:(manyE wrtE src).2.2≠0→(manyE wrtE src).1=[]∧(manyE wrtE src).2.1=[]:=manyE_err src;generalize manyE wrtE src=M at*;obtain⟨x,r,e⟩:=M;simp only[]at hle;have c2:=cloneB_p r (by omega)
 clear hb hle hd;unfold curO curB at*;simp only[]at*;refine zgoM ?_;refine zin Tryz.func245 Tryz.ntmps245 ?_;refine zgoM ?_;refine zin Tryz.func246 Tryz.ntmps246 ?_;by_cases g:e=0
 ·subst g
  rw[if_pos rfl]at c1;clear he;refine zgoM ?_;exact zfin
 ·rw[if_neg g]at c1
  obtain⟨rfl,rfl⟩:=he g;refine zgoM ?_;exact zfin
theorem rsecs_p(src:List Int)(hb:∀x∈src,ByteOK x)(hl:src.length≤100000):PC 258 [.snap (encL byteRow src)] (.tup [.snap (encL encSec (manyE secE src).1),.snap (encL byteRow (manyE secE src).2.1),zV (manyE secE src).2.2]):=by
 refine pstart Tryz.func258 Tryz.ntmps258 (by simp only[go_sem]) ?_
 have c1:=rlen3_p src hb hl;have hM:manyE secE src=if(lenE src).2.2=0 then manyG secE (lenE src).1.toNat (lenE src).2.1 []else([],[],(lenE src).2.2):=rfl
 have hle:=lenE_less src hb;have his:=lenE_is hb;generalize manyE secE src=M at*;by_cases g:(lenE src).2.2=0
 ·obtain⟨i1,i2,i3,i4⟩:=his g
  rw[if_pos g]at hM;rw[g]at c1;obtain⟨s,hs⟩:∃s,(lenE src).2.1=s:=⟨_,rfl⟩;obtain⟨n,hn⟩:∃n:Nat,(lenE src).1=n:=⟨_,(Int.toNat_of_nonneg i2).symm⟩;rw[hs,hn]at c1;rw[hn,hs,Int.toNat_natCast]at hM;rw[hs]at hle;rw[hn]at i3;clear i1 i2 i4 his g hn hs hb;refine zgo ?_;refine zfor (α:=(List Int×List Sec)×Nat) n (fun k a=> [(8,true,zV k),(5,true,zV n),(7,true,oV1 k a.2),(0,true,.snap (encL byteRow a.1.1))]) (fun k a=>oT1 124 8 (encL encSec a.1.2) k a.2) (fun k m a=>((∀x∈a.1.1,ByteOK x)∧a.1.1.length≤src.length)∧a.1.2.length=k∧manyG secE (n-k) a.1.1 a.1.2=M∧(0<k→a.2<m)) ⟨0,((s,[]),0),⟨hle,rfl,hM.symm,fun h=>by omega⟩,zholds⟩ (fun k m a hk hR=> ?_) (fun m a hR=> ?_)
  ·obtain⟨⟨s',out⟩,oid⟩:=a
   obtain⟨⟨h2,h3⟩,h4,h5,h6⟩:=hR;simp only[]at h2 h3 h4 h5 h6⊢;obtain⟨f,hf⟩:∃f,n-k=f+1:=⟨n-k-1,by omega⟩
   rw[hf,manyG_succ]at h5;have hl2:=secE_less s' h2;have hf2:n-(k+1)=f:=by omega
   clear c1 hM hle;have hse:secE s'=if s'.length<8 then(zSec,[],10)else(secAt s',s'.drop 8,0):=rfl
   by_cases g:s'.length<8
   ·rw[if_pos g]at hse
    rw[hse,if_neg (by decide)]at h5
    subst h5;clear h2 hl2 hf hf2 hse;cases k with
    |zero=>
     refine zgo ?_;exact zfin
    |succ j=>
     have h10:=h6 (by omega)
     refine zgo ?_;exact zfin
   ·rw[if_neg g]at hse
    rw[hse,if_pos rfl]at h5;rw[hse]at hl2;clear hse;obtain⟨x0,x1,x2,x3,x4,x5,x6,x7,r,hs'⟩:=list8 (by omega:8≤s'.length)
    obtain⟨x,hx⟩:∃x,secAt s'=x:=⟨_,rfl⟩;have hr:s'.drop 8=r:=by rw[hs'];rfl
    have hxe:encSec x=[uV x0,uV x1,uV x2,uV x3,uV x4,uV x5,uV x6,uV x7]:=by rw[←hx,hs'];rfl
    have c3:=rrest_p s' 8 (by omega) (by omega)
    rw[hr]at c3 h5 hl2;rw[hx]at h5;simp only[]at h5 hl2;have hz:encSec zSec=[uV 0,uV 0,uV 0,uV 0,uV 0,uV 0,uV 0,uV 0]:=rfl;have q0:(encL byteRow s')[0]? =some [uV x0]:=by rw[hs'];rfl
    have q1:(encL byteRow s')[1]? =some [uV x1]:=by rw[hs'];rfl
    have q2:(encL byteRow s')[2]? =some [uV x2]:=by rw[hs'];rfl
    have q3:(encL byteRow s')[3]? =some [uV x3]:=by rw[hs'];rfl
    have q4:(encL byteRow s')[4]? =some [uV x4]:=by rw[hs'];rfl
    have q5:(encL byteRow s')[5]? =some [uV x5]:=by rw[hs'];rfl
    have q6:(encL byteRow s')[6]? =some [uV x6]:=by rw[hs'];rfl
    have q7:(encL byteRow s')[7]? =some [uV x7]:=by rw[hs'];rfl
    have hlo:(out++[x]).length=k+1:=by simp[h4]
    have hsn:encL encSec out++[[uV x0,uV x1,uV x2,uV x3,uV x4,uV x5,uV x6,uV x7]]=encL encSec (out++[x]):=by rw[←hxe];exact encL_snoc (f:=encSec) out x
    have hsn0:Lat ([[uV x0,uV x1,uV x2,uV x3,uV x4,uV x5,uV x6,uV x7]]=encL encSec [x]):=⟨by rw[←hxe];rfl⟩
    have h7:Lat (manyG secE (n-(k+1)) r (out++[x])=M):=⟨by rw[hf2];exact h5⟩
    have h8:Lat ((∀x∈r,ByteOK x)∧r.length≤src.length):=⟨hl2.1,by omega⟩
    clear h5 hf hf2 h2 hl2 hs' hx hr hxe;cases k with
    |zero=>
     have h9:out=[]:=List.eq_nil_of_length_eq_zero h4;subst h9;clear h6 hsn;refine zgo ?_;refine w_rounds 9 ?_;refine w_round ?_;refine zgo ?_;have hsn0:=hsn0.out;exact⟨m+50,((r,[x]),m+1+1+1+1+1+1+1+1+1+1),⟨h8.out,hlo,h7.out,fun _=>by simp only[];omega⟩,zholds⟩
    |succ j=>
     have h10:=h6 (by omega)
     refine zgo ?_;refine w_rounds 9 ?_;refine w_round ?_;refine zgo ?_;exact⟨m+50,((r,out++[x]),m+1+1+1+1+1+1+1+1+1+1),⟨h8.out,hlo,h7.out,fun _=>by simp only[];omega⟩,zholds⟩
  ·obtain⟨⟨s',out⟩,oid⟩:=a
   obtain⟨⟨h2,h3⟩,h4,h5,h6⟩:=hR;simp only[]at h2 h3 h4 h5 h6⊢;rw[Nat.sub_self,manyG_zero]at h5;subst h5;clear c1 hM hle h2;cases n with
   |zero=>
    have h9:out=[]:=List.eq_nil_of_length_eq_zero h4;subst h9;refine zgo ?_;exact zfin
   |succ j=>
    have h10:=h6 (by omega)
    have h11:out.take (j+1)=out:=List.take_of_length_le (by omega)
    refine zgo ?_;exact zfin
 ·rw[if_neg g]at hM
  subst hM;clear hle his hb;generalize lenE src=L at*;obtain⟨l1,l2,e⟩:=L;simp only[]at*;refine zgo ?_;exact zfin
theorem rwrts_p(src:List Int)(hb:∀x∈src,ByteOK x)(hl:src.length≤100000):PC 222 [.snap (encL byteRow src)] (.tup [.snap (encL opRow (manyE wrtE src).1),.snap (encL byteRow (manyE wrtE src).2.1),zV (manyE wrtE src).2.2]):=by
 refine pstart Tryz.func222 Tryz.ntmps222 (by simp only[go_sem]) ?_
 have c1:=rlen3_p src hb hl;have hM:manyE wrtE src=if(lenE src).2.2=0 then manyG wrtE (lenE src).1.toNat (lenE src).2.1 []else([],[],(lenE src).2.2):=rfl
 have hle:=lenE_less src hb;have his:=lenE_is hb;generalize manyE wrtE src=M at*;by_cases g:(lenE src).2.2=0
 ·obtain⟨i1,i2,i3,i4⟩:=his g
  rw[if_pos g]at hM;rw[g]at c1;obtain⟨s,hs⟩:∃s,(lenE src).2.1=s:=⟨_,rfl⟩;obtain⟨n,hn⟩:∃n:Nat,(lenE src).1=n:=⟨_,(Int.toNat_of_nonneg i2).symm⟩;rw[hs,hn]at c1;rw[hn,hs,Int.toNat_natCast]at hM;rw[hs]at hle;rw[hn]at i3;clear i1 i2 i4 his g hn hs hb;refine zgo ?_;refine zfor (α:=(List Int×List Wrt)×Nat) n (fun k a=> [(8,true,zV k),(5,true,zV n),(7,true,oV1 k a.2),(0,true,.snap (encL byteRow a.1.1))]) (fun k a=>oT1 126 3 (encL opRow a.1.2) k a.2) (fun k m a=>((∀x∈a.1.1,ByteOK x)∧a.1.1.length≤src.length)∧a.1.2.length=k∧manyG wrtE (n-k) a.1.1 a.1.2=M∧(0<k→a.2<m)) ⟨0,((s,[]),0),⟨hle,rfl,hM.symm,fun h=>by omega⟩,zholds⟩ (fun k m a hk hR=> ?_) (fun m a hR=> ?_)
  ·obtain⟨⟨s',out⟩,oid⟩:=a
   obtain⟨⟨h2,h3⟩,h4,h5,h6⟩:=hR;simp only[]at h2 h3 h4 h5 h6⊢;obtain⟨f,hf⟩:∃f,n-k=f+1:=⟨n-k-1,by omega⟩
   rw[hf,manyG_succ]at h5;have hl2:=wrtE_less s' h2;have hf2:n-(k+1)=f:=by omega
   clear c1 hM hle;have hwe:wrtE s'=if(intE s').2.2=0 then(if(intE (intE s').2.1).2.2=0 then(((intE s').1,(intE (intE s').2.1).1,(manyE secE (intE (intE s').2.1).2.1).1),(manyE secE (intE (intE s').2.1).2.1).2.1,(manyE secE (intE (intE s').2.1).2.1).2.2)else(zWr,[],(intE (intE s').2.1).2.2))else(zWr,[],(intE s').2.2):=rfl
   have c2:=rint_p s' h2 (by omega)
   have k1:=intE_ok h2;have c3:=rint_p (intE s').2.1 k1.1 (by omega)
   have k2:=intE_ok k1.1;have c4:=rsecs_p (intE (intE s').2.1).2.1 k2.1 (by omega)
   generalize manyE secE (intE (intE s').2.1).2.1=Z at*;generalize intE (intE s').2.1=Y at*;generalize intE s'=X at*;obtain⟨v,r1,e1⟩:=X;obtain⟨st,r2,e2⟩:=Y;obtain⟨d,r,e3⟩:=Z;clear k1 k2;simp only[]at*;by_cases g1:e1=0
   ·rw[if_pos g1]at hwe
    by_cases g2:e2=0
    ·rw[if_pos g2]at hwe
     rw[hwe]at h5 hl2;clear hwe;subst g1 g2;simp only[]at h5 hl2;by_cases g3:e3=0
     ·subst g3
      rw[if_pos rfl]at h5;have hlo:(out++[(v,st,d)]).length=k+1:=by simp[h4]
      have hsn:encL opRow out++[[zV v,zV st,.snap (encL encSec d)]]=encL opRow (out++[(v,st,d)]):=encL_snoc (f:=opRow) out (v,st,d);have h7:Lat (manyG wrtE (n-(k+1)) r (out++[(v,st,d)])=M):=⟨by rw[hf2];exact h5⟩
      have h8:Lat ((∀x∈r,ByteOK x)∧r.length≤src.length):=⟨hl2.1,by omega⟩
      clear h5 hf hf2 h2 hl2;cases k with
      |zero=>
       have h9:out=[]:=List.eq_nil_of_length_eq_zero h4;subst h9;clear h6 hsn;refine zgo ?_;exact⟨m+2,((r,[(v,st,d)]),m+1),⟨h8.out,hlo,h7.out,fun _=>by simp only[];omega⟩,zholds⟩
      |succ j=>
       have h10:=h6 (by omega)
       refine zgo ?_;exact⟨m+2,((r,out++[(v,st,d)]),m+1),⟨h8.out,hlo,h7.out,fun _=>by simp only[];omega⟩,zholds⟩
     ·rw[if_neg g3]at h5
      subst h5;clear h2 hl2 hf hf2;cases k with
      |zero=>
       refine zgo ?_;exact zfin
      |succ j=>
       have h10:=h6 (by omega)
       refine zgo ?_;exact zfin
    ·rw[if_neg g2]at hwe
     rw[hwe]at h5;subst g1;simp only[]at h5;rw[if_neg g2]at h5;subst h5;clear h2 hl2 hf hf2 hwe;cases k with
     |zero=>
      refine zgo ?_;exact zfin
     |succ j=>
      have h10:=h6 (by omega)
      refine zgo ?_;exact zfin
   ·rw[if_neg g1]at hwe
    rw[hwe]at h5;simp only[]at h5;rw[if_neg g1]at h5;subst h5;clear h2 hl2 hf hf2 hwe;cases k with
    |zero=>
     refine zgo ?_;exact zfin
    |succ j=>
     have h10:=h6 (by omega)
     refine zgo ?_;exact zfin
  ·obtain⟨⟨s',out⟩,oid⟩:=a
   obtain⟨⟨h2,h3⟩,h4,h5,h6⟩:=hR;simp only[]at h2 h3 h4 h5 h6⊢;rw[Nat.sub_self,manyG_zero]at h5;subst h5;clear c1 hM hle h2;cases n with
   |zero=>
    have h9:out=[]:=List.eq_nil_of_length_eq_zero h4;subst h9;refine zgo ?_;exact zfin
   |succ j=>
    have h10:=h6 (by omega)
    have h11:out.take (j+1)=out:=List.take_of_length_le (by omega)
    refine zgo ?_;exact zfin
 ·rw[if_neg g]at hM
  subst hM;clear hle his hb;generalize lenE src=L at*;obtain⟨l1,l2,e⟩:=L;simp only[]at*;refine zgo ?_;exact zfin
end Go.Proofs.YtioafciifiggaaaGreatDoor
namespace Go.Proofs.YtioafciifiggaaaGreatDoor
open Go.Proofs Go.AL
set_option maxRecDepth 100000
set_option maxHeartbeats 1000000
attribute [local irreducible] endA AW aops thenA blockA hold
abbrev u32V(v:W32):AV:= .c (.int .u32 (nV v))
theorem nV_mod2(v:W32):bits .and .u32 (nV v) 1=nV v % 2:=by
 have h:=bits_mask .u32 32 (by decide) (fun n h0 h1=>by rw[IntKind.wrap_u32];omega) 1 (by decide) (nV v) (nV_rng v).1 (nV_rng v).2
 simpa using h
theorem nV_lsb(v:W32):nV v % 2=if v.getLsbD 0 then 1 else 0:=by
 unfold nV;rw[BitVec.getLsbD,Nat.testBit_zero];by_cases h:v.toNat % 2=1
 ·simp[h];omega
 ·have:v.toNat % 2=0:=by omega
  simp[this];omega
theorem nV_stp(v:W32):bits .xor .u32 ((nV v).fdiv (2 ^ min 1 32)) (IntKind.u32.wrap (2197175160*(nV v % 2)))=nV (stp v):=by
 have h1:=nV_shr v 1;rw[show min 1 32=1 from rfl,nV_lsb,h1]
 unfold stp;cases v.getLsbD 0
 ·have h2:IntKind.u32.wrap (2197175160*(if false=true then 1 else 0))=nV 0#32:=by decide
  rw[h2,nV_xor];simp
 ·have h2:IntKind.u32.wrap (2197175160*(if true=true then 1 else 0))=nV pol:=by decide
  rw[h2,nV_xor];simp
theorem nV_stp1{v:W32}(h:v.getLsbD 0=true):bits .xor .u32 ((nV v).fdiv (2 ^ min 1 32)) 2197175160=nV (stp v):=by
 have:=nV_stp v;rw[nV_lsb,h]at this;exact this
theorem nV_stp0{v:W32}(h:v.getLsbD 0=false):(nV v).fdiv (2 ^ min 1 32)=nV (stp v):=by
 rw[show min 1 32=1 from rfl,nV_shr v 1]
 unfold stp;rw[h];simp
theorem reg_p(r:W32)(b:Int)(hb:ByteOK b):PC 256 [u32V r,uV b] (u32V (stpN 8 (r ^^^ BitVec.ofInt 32 b))):=by
 refine pstart Tryz.func256 Tryz.ntmps256 (.c _) ?_
 have hx:bits .xor .u32 (nV r) (IntKind.u32.wrap b)=nV (r ^^^ BitVec.ofInt 32 b):=by
  have:IntKind.u32.wrap b=nV (BitVec.ofInt 32 b):=by
   obtain⟨h0,h1⟩:=hb;obtain⟨n,rfl⟩:=Int.eq_ofNat_of_zero_le h0;rw[IntKind.wrap_u32];unfold nV;rw[BitVec.ofInt_natCast,BitVec.toNat_ofNat];omega
  rw[this,nV_xor]
 refine zgo ?_;refine zfor1 8 0 [] (fun k=> [(5,true,zV k),(0,true,u32V (stpN k (r ^^^ BitVec.ofInt 32 b)))]) zholds (fun k m hk hm=> ?_) (fun m hm=> ?_)
 ·have h1:=stpN_succ k (r ^^^ BitVec.ofInt 32 b)
  have h4:=nV_lsb (stpN k (r ^^^ BitVec.ofInt 32 b));have h5:= @nV_stp1 (stpN k (r ^^^ BitVec.ofInt 32 b));have h6:= @nV_stp0 (stpN k (r ^^^ BitVec.ofInt 32 b));have h3:=nV_rng (stpN k (r ^^^ BitVec.ofInt 32 b));rw[←h1]at h5 h6;generalize stpN k (r ^^^ BitVec.ofInt 32 b)=v at*;generalize stpN (k+1) (r ^^^ BitVec.ofInt 32 b)=v' at*;clear h1 hx;cases hb:v.getLsbD 0 with
  |true=>
   have h7:=h5 hb;rw[hb,if_pos rfl]at h4;clear h5 h6 hb;refine zgo ?_;exact⟨m,hm,zholds⟩
  |false=>
   have h7:=h6 hb;rw[hb,if_neg (by decide)]at h4
   clear h5 h6 hb;refine zgo ?_;exact⟨m,hm,zholds⟩
 ·refine zgo ?_
  exact zfin
theorem byte_lt{b:Int}(h:ByteOK b):∃n:Nat,b=n∧n<256:=by
 obtain⟨h0,h1⟩:=h;obtain⟨n,rfl⟩:=Int.eq_ofNat_of_zero_le h0;exact⟨n,rfl,by omega⟩
theorem nV_not(v:W32):bits .xor .u32 IntKind.u32.max (nV v)=nV (~~~ v):=by
 have h:(IntKind.u32.max:Int)=nV (BitVec.allOnes 32):=by decide
 rw[h,nV_xor,BitVec.allOnes_xor]
theorem nV_notI(v:W32):bits .xor .u32 (if IntKind.u32.signed=true then-1 else IntKind.u32.max) (nV v)=nV (~~~ v):=nV_not v
theorem rupdate_p(l:List Int)(hb:∀x∈l,ByteOK x)(hl:l.length≤1000000):PC 220 [.c (.int .u32 0),.snap (encL byteRow l)] (.c (.int .u32 (crc l))):=by
 refine pstart Tryz.func220 Tryz.ntmps220 (.c _) ?_;have hg:=gB l;have h0:bits .xor .u32 (if IntKind.u32.signed=true then-1 else IntKind.u32.max) 0=nV (~~~ 0#32):=nV_notI 0#32
 unfold crc;refine zgo ?_;refine zfor1 l.length 0 [] (fun k=> [(6,true,zV k),(5,true,u32V (crcR (~~~ 0#32) (l.take k))),(1,true,.snap (encL byteRow l))]) zholds (fun k m hk hm=> ?_) (fun m hm=> ?_)
 ·have c1:=reg_p (crcR (~~~ 0#32) (l.take k)) (l.getD k 0) (hb _ (getD_mem' 0 hk))
  rw[←crcR_succ hk]at c1;have hgk:=hg k hk;clear h0 hb hg;refine zgo ?_;exact⟨m,hm,zholds⟩
 ·rw[List.take_length]
  have h1:=nV_notI (crcR (~~~ 0#32) l);clear h0 hb hg;refine zgo ?_;exact zfin
theorem rsum4_p(l:List Int)(hb:∀x∈l,ByteOK x)(hl:l.length≤1000000):PC 180 [.snap (encL byteRow l)] (.c (.int .u32 (crc l))):=by
 refine pstart Tryz.func180 Tryz.ntmps180 (.c _) ?_;have c1:=rupdate_p l hb hl;refine zgo ?_;exact zfin
def tblR(k:Nat):List AV:=(List.range 256).map fun i=>u32V (if i<k then stpN 8 (BitVec.ofNat 32 i)else 0#32)
theorem tblR_len(k:Nat):(tblR k).length=256:=by simp[tblR]
theorem tblR_0:List.replicate 256 (AV.c (.int .u32 0))=tblR 0:=by kernel_rfl
theorem tblR_at{k i:Nat}(h:i<256):(tblR k)[i]? =some (u32V (if i<k then stpN 8 (BitVec.ofNat 32 i)else 0#32)):=by
 simp[tblR,h]
theorem tblR_set{k:Nat}(h:k<256):(tblR k).set k (u32V (stpN 8 (BitVec.ofNat 32 k)))=tblR (k+1):=by
 apply List.ext_getElem?;intro i;rw[List.getElem?_set];by_cases hi:i<256
 ·by_cases he:k=i
  ·subst he
   rw[if_pos rfl,if_pos (by rw[tblR_len];exact h),tblR_at hi,if_pos (by omega)]
  ·rw[if_neg he,tblR_at hi,tblR_at hi]
   by_cases h3:i<k
   ·rw[if_pos h3,if_pos (by omega)]
   ·rw[if_neg h3,if_neg (by omega)]
 ·rw[if_neg (by omega),List.getElem?_eq_none (by rw[tblR_len];omega),List.getElem?_eq_none (by rw[tblR_len];omega)]
theorem tblR_no(k:Nat):∀x∈tblR k,NoId x:=fun x hx=>by
 simp only[tblR,List.mem_map]at hx;obtain⟨i,_,rfl⟩:=hx;exact .c _
theorem tblR_one(k:Nat):(tblR k).all AV.one=true:=by
 rw[List.all_eq_true];intro x hx;simp only[tblR,List.mem_map]at hx;obtain⟨i,_,rfl⟩:=hx;rfl
theorem tblR_expo(k:Nat)(G:Nat→Option Blk):(tblR k).map (expo1 G)=tblR k:=by
 simp only[tblR,List.map_map];rfl
theorem stpN_0(v:W32):stpN 0 v=v:=rfl
attribute [local irreducible] tblR stpN
theorem registers_p:PC 194 [] (.agg (tblR 256)):=by
 refine pstart Tryz.func194 Tryz.ntmps194 (noId_agg.2 (tblR_no 256)) ?_;have t0:=tblR_0;have tl:=tblR_len;refine zgo ?_;refine zfor (α:=Unit) 256 (fun k _=> [(5,true,zV k),(1,true,.ptr 1 0 0),(0,true,.ptr 0 0 0)]) (fun k _=> [(0,some (.cells 304 256 [tblR 0] true false)),(1,some (.cells 304 256 [tblR k] true false))]) (fun k m _=>2≤m) ⟨1000,(),by omega,holds_cons rfl (holds_cons rfl (holds_cons rfl (holds_nil (by decide) (sub_cons rfl (sub_cons rfl sub_nil)))))⟩ (fun k m _ hk hm=> ?_) (fun m _ hm=> ?_)
 ·have hw:IntKind.u32.wrap (k:Int)=nV (BitVec.ofNat 32 k):=by
   rw[IntKind.wrap_u32];unfold nV;rw[BitVec.toNat_ofNat];omega
  have hs0:=stpN_0 (BitVec.ofNat 32 k);refine zgo ?_;refine zfor1 8 m [(0,some (.cells 304 256 [tblR 0] true false)),(1,some (.cells 304 256 [tblR k] true false))] (fun j=> [(10,true,zV j),(3,true,u32V (stpN j (BitVec.ofNat 32 k))),(2,true,zV k),(5,true,zV k),(1,true,.ptr 1 0 0),(0,true,.ptr 0 0 0)]) zholds (fun j m' hj hm'=> ?_) (fun m' hm'=> ?_)
  ·have h1:=stpN_succ j (BitVec.ofNat 32 k)
   have h2:=nV_mod2 (stpN j (BitVec.ofNat 32 k));have h3:=nV_rng (stpN j (BitVec.ofNat 32 k));have h4:=nV_stp (stpN j (BitVec.ofNat 32 k));rw[←h1]at h4;generalize stpN j (BitVec.ofNat 32 k)=v at*;generalize stpN (j+1) (BitVec.ofNat 32 k)=v' at*;clear h1 hw t0 tl hs0;refine zgo ?_;exact⟨m',hm',zholds⟩
  ·have h1:(tblR k).take k++[u32V (stpN 8 (BitVec.ofNat 32 k))]++(tblR k).drop (k+1)=tblR (k+1):=by
    rw[←tblR_set hk,List.set_eq_take_append_cons_drop,if_pos (by rw[tblR_len];exact hk)]
    simp
   have h2:k<(tblR k).length:=by rw[tblR_len];exact hk
   clear hw;refine zgo ?_;exact⟨m'+1,(),by omega,zholds⟩
 ·have h1:(tblR 256).take 256=tblR 256:=List.take_of_length_le (by rw[tblR_len];decide)
  have h2:(tblR 256).all AV.one=true:=tblR_one 256;have h3:(tblR 0).drop 256=[]:=List.drop_of_length_le (by rw[tblR_len];decide)
  have h4:=noId_agg.2 (tblR_no 256);have h5:(∀x∈tblR 256,NoId x)=True:=eq_true (tblR_no 256);have h6:∀G,(tblR 256).map (expo1 G)=tblR 256:=tblR_expo 256;refine zgo ?_;exact zfin
end Go.Proofs.YtioafciifiggaaaGreatDoor
