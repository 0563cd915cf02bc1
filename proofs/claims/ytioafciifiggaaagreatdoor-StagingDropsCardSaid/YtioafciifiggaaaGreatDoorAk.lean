/- Staging: contracts of its functions (Ak). No condition but those named. -/
import Derived.Test.YtioafciifiggaaaGreatDoorAj
set_option linter.unusedVariables false
set_option linter.unusedSimpArgs false
namespace Go.Proofs.YtioafciifiggaaaGreatDoor
open Go.Proofs Go.AL
set_option maxRecDepth 100000
set_option maxHeartbeats 1000000
attribute [local irreducible] endA AW aops thenA blockA hold
attribute [local irreducible] numG
theorem list8{l:List Int}(h:8≤l.length):∃x0 x1 x2 x3 x4 x5 x6 x7 r,l=x0::x1::x2::x3::x4::x5::x6::x7::r:=by
 rcases l with _|⟨x0,_|⟨x1,_|⟨x2,_|⟨x3,_|⟨x4,_|⟨x5,_|⟨x6,_|⟨x7,r⟩⟩⟩⟩⟩⟩⟩⟩
 case cons.cons.cons.cons.cons.cons.cons.cons=>exact⟨x0,x1,x2,x3,x4,x5,x6,x7,r,rfl⟩
 all_goals (simp only[List.length_cons,List.length_nil]at h;omega)
theorem sector_m(src:List Int)(hl:src.length≤100000)(id:Nat):MCall Tryz.prog 297 [.ptr id 0 0] id (curB src) (curO (secE src)) (.tup [.agg (encSec (secE src).1),zV (secE src).2.2]) 100:=by
 refine mstart Tryz.func297 Tryz.ntmps297 ?_;intro N G hid hG0 hG;have c1:=bytes_m src 8 (by decide) hl id
 unfold secE curO curB at*;by_cases g:src.length<8
 ·rw[if_pos g,if_pos g]at c1
  rw[if_pos g,if_neg (by decide)]
  refine zgoM ?_;exact zfinM
 ·rw[if_neg g,if_neg g]at c1
  rw[if_neg g,if_pos rfl];obtain⟨x0,x1,x2,x3,x4,x5,x6,x7,r,rfl⟩:=list8 (by omega:8≤src.length)
  have e1:(x0::x1::x2::x3::x4::x5::x6::x7::r).take 8=[x0,x1,x2,x3,x4,x5,x6,x7]:=rfl;have e2:(x0::x1::x2::x3::x4::x5::x6::x7::r).drop 8=r:=rfl;have e3:encSec (secAt (x0::x1::x2::x3::x4::x5::x6::x7::r))=[uV x0,uV x1,uV x2,uV x3,uV x4,uV x5,uV x6,uV x7]:=rfl;have e4:(encL byteRow [x0,x1,x2,x3,x4,x5,x6,x7]).flatten=[uV x0,uV x1,uV x2,uV x3,uV x4,uV x5,uV x6,uV x7]:=rfl;have e5:([x0,x1,x2,x3,x4,x5,x6,x7]:List Int).take 8=[x0,x1,x2,x3,x4,x5,x6,x7]:=rfl
  simp only[e1,e2,e3]at c1⊢;clear e1 e2 e3 g hl;refine zgoM ?_;exact zfinM
theorem listS_m(src:List Int)(hb:∀x∈src,ByteOK x)(hl:src.length≤100000)(id:Nat):MCall Tryz.prog 296 [.ptr id 0 0,.fn (.func 297) [] []] id (curB src) (curO (manyE secE src)) (.tup [.snap (encL encSec (manyE secE src).1),zV (manyE secE src).2.2]) 10000000:=by
 refine mstart Tryz.func296 Tryz.ntmps296 ?_;intro N G hid hG0 hG;have c1:=length_m src hb hl id;have hM:manyE secE src=if(lenE src).2.2=0 then manyG secE (lenE src).1.toNat (lenE src).2.1 []else([],[],(lenE src).2.2):=rfl
 have hle:=lenE_less src hb;have his:=lenE_is hb;generalize manyE secE src=M at*;by_cases g:(lenE src).2.2=0
 ·obtain⟨i1,i2,i3,i4⟩:=his g
  rw[if_pos g]at hM;rw[i1,g]at c1;obtain⟨s,hs⟩:∃s,(lenE src).2.1=s:=⟨_,rfl⟩;obtain⟨n,hn⟩:∃n:Nat,(lenE src).1=n:=⟨_,(Int.toNat_of_nonneg i2).symm⟩;unfold curO at c1;rw[if_pos g,hs,hn]at c1;rw[hn,hs,Int.toNat_natCast]at hM;rw[hs]at hle;rw[hn]at i3;clear i1 i2 i4 his g hn hs hb;unfold curB at*;refine zgoM ?_;refine zforB (α:=(List Int×List Sec)×Nat) (G:=G) n (fun k a=> [(20,true,zV k),(19,true,zV n),(8,true,oV1 k a.2),(1,true,.fn (.func 297) [] []),(0,true,.ptr id 0 0)]) (fun k a=>(id,some (.cells 376 1 [[.snap (encL byteRow a.1.1)]] true false))::oT1 124 8 (encL encSec a.1.2) k a.2) (fun k m a=>(N≤m∧m≤N+300+110*k)∧((∀x∈a.1.1,ByteOK x)∧a.1.1.length≤src.length)∧a.1.2.length=k∧manyG secE (n-k) a.1.1 a.1.2=M∧(0<k→N≤a.2∧a.2<m)) ⟨N+250,((s,[]),0),⟨⟨by omega,by omega⟩,hle,rfl,hM.symm,fun h=>by omega⟩,zholdsB⟩ (fun k m a hk hR=> ?_) (fun m a hR=> ?_)
  ·obtain⟨⟨s',out⟩,oid⟩:=a
   obtain⟨⟨h1,h1'⟩,⟨h2,h3⟩,h4,h5,h6⟩:=hR;simp only[]at h1 h1' h2 h3 h4 h5 h6⊢;obtain⟨f,hf⟩:∃f,n-k=f+1:=⟨n-k-1,by omega⟩
   rw[hf,manyG_succ]at h5;have c2:=(fun s (h:∀x∈s,ByteOK x) hl id=>sector_m s hl id) s' h2 (by omega) id
   have hl2:=secE_less s' h2;have hf2:n-(k+1)=f:=by omega
   clear c1 hM hle;generalize secE s'=X at*;obtain⟨x,r,e⟩:=X;simp only[]at*;unfold curO curB at c2;simp only[]at c2;have hlo:(out++[x]).length=k+1:=by simp[h4]
   by_cases g:e=0
   ·subst g
    rw[if_pos rfl]at c2 h5;have h7:Lat (manyG secE (n-(k+1)) r (out++[x])=M):=⟨by rw[hf2];exact h5⟩
    have h8:Lat ((∀x∈r,ByteOK x)∧r.length≤src.length):=⟨hl2.1,by omega⟩
    clear h5 hf hf2 h2 hl2;cases k with
    |zero=>
     have h9:out=[]:=List.eq_nil_of_length_eq_zero h4;subst h9;clear h6;refine zgoM ?_;exact⟨m+104,((r,[x]),m+100+1+1+1),⟨⟨by omega,by omega⟩,h8.out,hlo,h7.out,fun _=>⟨by simp only[];omega,by simp only[];omega⟩⟩,zholdsB⟩
    |succ j=>
     obtain⟨h9,h10⟩:=h6 (by omega)
     refine zgoM ?_;exact⟨m+104,((r,out++[x]),m+100+1+1+1),⟨⟨by omega,by omega⟩,h8.out,hlo,h7.out,fun _=>⟨by simp only[];omega,by simp only[];omega⟩⟩,zholdsB⟩
   ·rw[if_neg g]at c2 h5
    subst h5;unfold curO;rw[if_neg g];clear h2 hl2 hf hf2 hlo;cases k with
    |zero=>
     refine zgoM ?_;exact zfinM
    |succ j=>
     obtain⟨h9,h10⟩:=h6 (by omega)
     refine zgoM ?_;exact zfinM
  ·obtain⟨⟨s',out⟩,oid⟩:=a
   obtain⟨⟨h1,h1'⟩,⟨h2,h3⟩,h4,h5,h6⟩:=hR;simp only[]at h1 h1' h2 h3 h4 h5 h6⊢;rw[Nat.sub_self,manyG_zero]at h5;subst h5;unfold curO curB;rw[if_pos rfl];clear c1 hM hle h2;cases n with
   |zero=>
    have h9:out=[]:=List.eq_nil_of_length_eq_zero h4;subst h9;refine zgoM ?_;exact zfinM
   |succ j=>
    obtain⟨h9,h10⟩:=h6 (by omega)
    have h11:out.take (j+1)=out:=List.take_of_length_le (by omega)
    refine zgoM ?_;exact zfinM
 ·rw[if_neg g]at hM
  subst hM;unfold curO at*;rw[if_neg g]at c1;rw[if_neg g];clear hle his hb;generalize (lenE src).2.2=e at*;unfold curB at*;refine zgoM ?_;exact zfinM
theorem sectors_m(src:List Int)(hb:∀x∈src,ByteOK x)(hl:src.length≤100000)(id:Nat):MCall Tryz.prog 282 [.ptr id 0 0] id (curB src) (curO (manyE secE src)) (.tup [.snap (encL encSec (manyE secE src).1),zV (manyE secE src).2.2]) 10000000:=by
 refine mstart Tryz.func282 Tryz.ntmps282 ?_;intro N G hid hG0 hG;have c1:=listS_m src hb hl id;generalize manyE secE src=M at*;obtain⟨x,r,e⟩:=M;unfold curO curB at*;simp only[]at*;clear hb;by_cases g:e=0
 ·rw[if_pos g]at*
  refine zgoM ?_;exact zfinM
 ·rw[if_neg g]at*
  refine zgoM ?_;exact zfinM
theorem write_m(src:List Int)(hb:∀x∈src,ByteOK x)(hl:src.length≤100000)(id:Nat):MCall Tryz.prog 248 [.ptr id 0 0] id (curB src) (curO (wrtE src)) (.tup [.agg (opRow (wrtE src).1),zV (wrtE src).2.2]) 20000000:=by
 refine mstart Tryz.func248 Tryz.ntmps248 ?_;intro N G hid hG0 hG;have c1:=pair_m src hb hl id;have h1:=intE_ok hb;have h2:=intE_ok h1.1;have c2:=sectors_m (intE (intE src).2.1).2.1 h2.1 (by omega) id
 unfold wrtE;generalize manyE secE (intE (intE src).2.1).2.1=Z at*;generalize intE (intE src).2.1=Y at*;generalize intE src=X at*;obtain⟨x,r,e⟩:=X;obtain⟨y,r2,e2⟩:=Y;obtain⟨z,r3,e3⟩:=Z;clear hb h1 h2;unfold curO curB opRow at*;simp only[]at*;by_cases g:e=0
 ·subst g
  rw[if_pos rfl,if_pos rfl]at c1;by_cases g2:e2=0
  ·subst g2
   rw[if_pos rfl]at c1;rw[if_pos rfl,if_pos rfl];simp only[];by_cases g3:e3=0
   ·rw[if_pos g3]at*
    refine zgoM ?_;exact zfinM
   ·rw[if_neg g3]at*
    refine zgoM ?_;exact zfinM
  ·rw[if_neg g2]at c1
   rw[if_pos rfl,if_neg g2];simp only[];rw[if_neg g2];refine zgoM ?_;exact zfinM
 ·rw[if_neg g,if_neg g]at c1
  rw[if_neg g];simp only[];rw[if_neg g];refine zgoM ?_;exact zfinM
theorem write_e:∃d,∀(src:List Int) (hb:∀x∈src,ByteOK x) (hl:src.length≤100000) (id:Nat),MCall Tryz.prog 248 [.ptr id 0 0] id (curB src) (curO (wrtE src)) (.tup [.agg (opRow (wrtE src).1),zV (wrtE src).2.2]) d:=⟨_,write_m⟩
theorem listW_d(dW dL:Nat)(hdL:1000+(dW*65536+10*65536)≤dL)(hW:∀(src:List Int) (hb:∀x∈src,ByteOK x) (hl:src.length≤100000) (id:Nat),MCall Tryz.prog 248 [.ptr id 0 0] id (curB src) (curO (wrtE src)) (.tup [.agg (opRow (wrtE src).1),zV (wrtE src).2.2]) dW)(src:List Int)(hb:∀x∈src,ByteOK x)(hl:src.length≤100000)(id:Nat):MCall Tryz.prog 247 [.ptr id 0 0,.fn (.func 248) [] []] id (curB src) (curO (manyE wrtE src)) (.tup [.snap (encL opRow (manyE wrtE src).1),zV (manyE wrtE src).2.2]) dL:=by
 refine mstart Tryz.func247 Tryz.ntmps247 ?_;intro N G hid hG0 hG;have c1:=length_m src hb hl id;have hM:manyE wrtE src=if(lenE src).2.2=0 then manyG wrtE (lenE src).1.toNat (lenE src).2.1 []else([],[],(lenE src).2.2):=rfl
 have hle:=lenE_less src hb;have his:=lenE_is hb;generalize manyE wrtE src=M at*;by_cases g:(lenE src).2.2=0
 ·obtain⟨i1,i2,i3,i4⟩:=his g
  rw[if_pos g]at hM;rw[i1,g]at c1;obtain⟨s,hs⟩:∃s,(lenE src).2.1=s:=⟨_,rfl⟩;obtain⟨n,hn⟩:∃n:Nat,(lenE src).1=n:=⟨_,(Int.toNat_of_nonneg i2).symm⟩;unfold curO at c1;rw[if_pos g,hs,hn]at c1;rw[hn,hs,Int.toNat_natCast]at hM;rw[hs]at hle;rw[hn]at i3;clear i1 i2 i4 his g hn hs hb;unfold curB at*;refine zgoM ?_;refine zforB (α:=(List Int×List Wrt)×Nat) (G:=G) n (fun k a=> [(20,true,zV k),(19,true,zV n),(8,true,oV1 k a.2),(1,true,.fn (.func 248) [] []),(0,true,.ptr id 0 0)]) (fun k a=>(id,some (.cells 376 1 [[.snap (encL byteRow a.1.1)]] true false))::oT1 126 3 (encL opRow a.1.2) k a.2) (fun k m a=>(N≤m∧m≤N+300+(dW*k+10*k))∧((∀x∈a.1.1,ByteOK x)∧a.1.1.length≤src.length)∧a.1.2.length=k∧manyG wrtE (n-k) a.1.1 a.1.2=M∧(0<k→N≤a.2∧a.2<m)) ⟨N+250,((s,[]),0),⟨⟨by omega,by omega⟩,hle,rfl,hM.symm,fun h=>by omega⟩,zholdsB⟩ (fun k m a hk hR=> ?_) (fun m a hR=> ?_)
  ·obtain⟨⟨s',out⟩,oid⟩:=a
   obtain⟨⟨h1,h1'⟩,⟨h2,h3⟩,h4,h5,h6⟩:=hR;simp only[]at h1 h1' h2 h3 h4 h5 h6⊢;obtain⟨f,hf⟩:∃f,n-k=f+1:=⟨n-k-1,by omega⟩
   rw[hf,manyG_succ]at h5;have c2:=hW s' h2 (by omega) id
   have hl2:=wrtE_less s' h2;have hf2:n-(k+1)=f:=by omega
   clear c1 hM hle;generalize wrtE s'=X at*;obtain⟨⟨v,st,d⟩,r,e⟩:=X;unfold opRow at c2;simp only[]at c2;have hmul:dW*(k+1)=dW*k+dW:=Nat.mul_succ dW k;have hbd:dW*(k+1)≤dW*65536:=Nat.mul_le_mul_left _ (by omega)
   simp only[]at*;unfold curO curB at c2;simp only[]at c2;have hlo:(out++[(v,st,d)]).length=k+1:=by simp[h4]
   by_cases g:e=0
   ·subst g
    rw[if_pos rfl]at c2 h5;have h7:Lat (manyG wrtE (n-(k+1)) r (out++[(v,st,d)])=M):=⟨by rw[hf2];exact h5⟩
    have h8:Lat ((∀x∈r,ByteOK x)∧r.length≤src.length):=⟨hl2.1,by omega⟩
    clear h5 hf hf2 h2 hl2;have hsn:encL opRow out++[[zV v,zV st,.snap (encL encSec d)]]=encL opRow (out++[(v,st,d)]):=encL_snoc (f:=opRow) out (v,st,d);cases k with
    |zero=>
     have h9:out=[]:=List.eq_nil_of_length_eq_zero h4;subst h9;clear h6;refine zgoM ?_;exact⟨m+dW+4,((r,[(v,st,d)]),m+dW+1+1+1),⟨⟨by omega,by omega⟩,h8.out,hlo,h7.out,fun _=>⟨by simp only[];omega,by simp only[];omega⟩⟩,zholdsB⟩
    |succ j=>
     obtain⟨h9,h10⟩:=h6 (by omega)
     refine zgoM ?_;exact⟨m+dW+4,((r,out++[(v,st,d)]),m+dW+1+1+1),⟨⟨by omega,by omega⟩,h8.out,hlo,h7.out,fun _=>⟨by simp only[];omega,by simp only[];omega⟩⟩,zholdsB⟩
   ·rw[if_neg g]at c2 h5
    subst h5;unfold curO;rw[if_neg g];clear h2 hl2 hf hf2 hlo;cases k with
    |zero=>
     refine zgoM ?_;exact zfinM
    |succ j=>
     obtain⟨h9,h10⟩:=h6 (by omega)
     refine zgoM ?_;exact zfinM
  ·obtain⟨⟨s',out⟩,oid⟩:=a
   obtain⟨⟨h1,h1'⟩,⟨h2,h3⟩,h4,h5,h6⟩:=hR;simp only[]at h1 h1' h2 h3 h4 h5 h6⊢;rw[Nat.sub_self,manyG_zero]at h5;subst h5;unfold curO curB;rw[if_pos rfl];clear c1 hM hle h2;have hend:dW*n≤dW*65536:=Nat.mul_le_mul_left _ (by omega)
   cases n with
   |zero=>
    have h9:out=[]:=List.eq_nil_of_length_eq_zero h4;subst h9;refine zgoM ?_;exact zfinM
   |succ j=>
    obtain⟨h9,h10⟩:=h6 (by omega)
    have h11:out.take (j+1)=out:=List.take_of_length_le (by omega)
    refine zgoM ?_;exact zfinM
 ·rw[if_neg g]at hM
  subst hM;unfold curO at*;rw[if_neg g]at c1;rw[if_neg g];clear hle his hb;generalize (lenE src).2.2=e at*;unfold curB at*;refine zgoM ?_;exact zfinM
theorem listW_e:∃d,∀(src:List Int) (hb:∀x∈src,ByteOK x) (hl:src.length≤100000) (id:Nat),MCall Tryz.prog 247 [.ptr id 0 0,.fn (.func 248) [] []] id (curB src) (curO (manyE wrtE src)) (.tup [.snap (encL opRow (manyE wrtE src).1),zV (manyE wrtE src).2.2]) d:=by
 obtain⟨dW,hW⟩:=write_e;exact⟨_,fun src hb hl id=>listW_d dW _ (Nat.le_refl _) hW src hb hl id⟩
end Go.Proofs.YtioafciifiggaaaGreatDoor
