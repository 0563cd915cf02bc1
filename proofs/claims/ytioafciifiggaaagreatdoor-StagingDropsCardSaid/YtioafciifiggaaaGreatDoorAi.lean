/- Staging: contracts of its functions (Ai). No condition but those named. -/
import Derived.Test.YtioafciifiggaaaGreatDoorAh
import Derived.Test.YtioafciifiggaaaGreatDoorLg
set_option linter.unusedVariables false
set_option linter.unusedSimpArgs false
namespace Go.Proofs.YtioafciifiggaaaGreatDoor
open Go.Proofs Go.AL
set_option maxRecDepth 100000
set_option maxHeartbeats 1000000
attribute [local irreducible] endA AW aops thenA blockA hold
def sizeR(n:Int):Int:=if n<0∨4096<n then 0 else(n+10)/4
theorem rsize_p(n:Int):PC 119 [zV n] (zV (sizeR n)):=by
 refine pstart Tryz.func119 Tryz.ntmps119 (.c _) ?_;unfold sizeR;by_cases g1:n<0
 ·rw[if_pos (.inl g1)]
  refine zgo ?_;exact zfin
 ·by_cases g2:4096<n
  ·rw[if_pos (.inr g2)]
   refine zgo ?_;exact zfin
  ·rw[if_neg (by omega)]
   have h1:(7+n+3).tdiv 4=(n+10)/4:=by rw[Int.tdiv_eq_ediv_of_nonneg (by omega)];congr 1;omega
   refine zgo ?_;exact zfin
theorem size_p(n:Int):PC 112 [zV n] (zV (sizeR n)):=by
 refine pstart Tryz.func112 Tryz.ntmps112 (.c _) ?_;unfold sizeR;by_cases g1:n<0
 ·rw[if_pos (.inl g1)]
  refine zgo ?_;exact zfin
 ·by_cases g2:4096<n
  ·rw[if_pos (.inr g2)]
   refine zgo ?_;exact zfin
  ·rw[if_neg (by omega)]
   have h1:(3+n+4+4-1).tdiv 4=(n+10)/4:=by rw[Int.tdiv_eq_ediv_of_nonneg (by omega)];congr 1;omega
   refine zgo ?_;exact zfin
def validB(a b:Int):Bool:=decide (0≤a)&&decide (20≤b)&&decide (a≤4096)&&decide (b≤4096-a)
theorem rvalid_p(a b:Int):PC 105 [.agg [zV a,zV b]] (bV (validB a b)):=by
 refine pstart Tryz.func105 Tryz.ntmps105 (.c _) ?_;unfold validB;by_cases g1:0≤a
 ·by_cases g2:20≤b
  ·by_cases g3:b≤4096
   ·have h1:decide (a≤4096)=true∨decide (b≤4096-a)=false:=by
     by_cases h:a≤4096
     ·exact .inl (by simp[h])
     ·exact .inr (by simp;omega)
    by_cases g4:a≤4096-b
    ·have h2:a≤4096:=by omega
     have h3:b≤4096-a:=by omega
     refine zgo ?_;exact zfin
    ·have h3:¬b≤4096-a:=by omega
     have h4:(decide (0≤a)&&decide (20≤b)&&decide (a≤4096)&&decide (b≤4096-a))=false:=by simp[h3]
     rw[h4];clear h1 h3 h4;refine zgo ?_;exact zfin
   ·have h3:(decide (0≤a)&&decide (20≤b)&&decide (a≤4096)&&decide (b≤4096-a))=false:=by simp;omega
    rw[h3];clear h3;refine zgo ?_;exact zfin
  ·refine zgo ?_
   exact zfin
 ·refine zgo ?_
  exact zfin
theorem valid_p(a b:Int):PC 102 [.agg [zV a,zV b]] (bV (validB a b)):=by
 refine pstart Tryz.func102 Tryz.ntmps102 (.c _) ?_;unfold validB;by_cases g1:0≤a
 ·by_cases g2:20≤b
  ·by_cases g3:a≤4096
   ·by_cases g4:b≤4096-a
    ·refine zgo ?_
     exact zfin
    ·refine zgo ?_
     exact zfin
   ·refine zgo ?_
    exact zfin
  ·refine zgo ?_
   exact zfin
 ·refine zgo ?_
  exact zfin
theorem rlen_p(a b:Int)(h1:20≤b)(h2:b≤4096):PC 87 [.agg [zV a,zV b]] (zV (b-16)):=by
 refine pstart Tryz.func87 Tryz.ntmps87 (.c _) ?_;refine zgo ?_;exact zfin
end Go.Proofs.YtioafciifiggaaaGreatDoor
namespace Go.Proofs.YtioafciifiggaaaGreatDoor
open Go.Proofs Go.AL
set_option maxRecDepth 100000
set_option maxHeartbeats 1000000
attribute [local irreducible] endA AW aops thenA blockA hold
theorem rsum_p(l:List Int)(hl:l.length≤1000000):PC 97 [.snap (encL intRow l)] (zV (sumW l)):=by
 refine pstart Tryz.func97 Tryz.ntmps97 (.c _) ?_;refine zgo ?_;have hg:=gI l;refine zfor1 l.length 0 [] (fun k=> [(4,true,zV k),(0,true,.snap (encL intRow l)),(3,true,zV (sumW (l.take k)))]) zholds (fun k m hk hm=> ?_) (fun m hm=> ?_)
 ·have h1:=sumW_succ hk
  refine zgo ?_;exact⟨m,hm,zholds⟩
 ·refine zgo ?_
  exact zfin
theorem sumW_small:∀(l:List Int) (s:Int),0≤s→(∀x∈l,0≤x∧x≤5000)→s+5000*l.length≤9223372036854775807→l.foldl (fun s x=>IntKind.i64.wrap (s+x)) s=s+l.sum
 |[],s,_,_,_=>by simp
 |x::l,s,h0,hx,hs=>by
  have h1:=hx x (by simp)
  have h2:IntKind.i64.wrap (s+x)=s+x:=Go.IntWalk.i64_in _ ⟨by omega,by simp only[List.length_cons]at hs;push_cast at hs;omega⟩
  rw[List.foldl_cons,h2,sumW_small l (s+x) (by omega) (fun y hy=>hx y (by simp[hy])) (by simp only[List.length_cons]at hs;push_cast at hs;omega),List.sum_cons]
  omega
end Go.Proofs.YtioafciifiggaaaGreatDoor
namespace Go.Proofs.YtioafciifiggaaaGreatDoor
open Go.Proofs Go.AL
set_option maxRecDepth 100000
set_option maxHeartbeats 1000000
attribute [local irreducible] endA AW aops thenA blockA hold
theorem guardSec:Tryz.prog.eqGuardType Tryz.prog.depth 124=false:=by kernel_rfl
theorem eqA_sec(d:Nat)(s t:Sec):eqA Tryz.prog (d+2) 124 (.agg (encSec s)) (.agg (encSec t))=some (decide (s=t)):=by
 have h5:Tryz.prog.underlying 5=some (.int .u8):=Tryz.underlying5;simp only[eqA,Tryz.underlying124,szT5,eqIs,partA,isAggT5,encSec,List.range_succ,List.range_zero,List.nil_append,List.cons_append,Nat.zero_mul,Nat.mul_one,List.getElem?_cons_zero,List.getElem?_cons_succ,h5,if_true];obtain⟨⟨a,b,c,e⟩,⟨f,g,h,i⟩⟩:=s;obtain⟨⟨a',b',c',e'⟩,⟨f',g',h',i'⟩⟩:=t;simp only[Option.some.injEq,Prod.mk.injEq];rw[Bool.eq_iff_iff]
 simp only[Bool.and_eq_true,beq_iff_eq,decide_eq_true_eq,Bool.and_true,and_assoc]
@[go_sem] theorem eqs_sec(s:Sec):eqTop Tryz.prog 124 (.agg (encSec s)) (.agg (encSec s))=some true:=by
  unfold eqTop;rw[guardSec,if_neg (by simp)]
  exact(eqA_sec 9998 s s).trans (by simp)
theorem sameInts23_p(l:List Int)(hl:l.length≤1000000):PC 81 [.snap (encL intRow l),.snap (encL intRow l)] (bV true):=by
 refine pstart Tryz.func81 Tryz.ntmps81 (.c _) ?_;have hg:=gI l;refine zgo2 ?_;refine zfor1 l.length 0 [] (fun k=> [(5,true,zV k),(0,true,.snap (encL intRow l)),(1,true,.snap (encL intRow l))]) zholds (fun k m hlt hm=> ?_) (fun m hm=> ?_)
 ·have hgk:=hg k hlt
  clear hg;refine zgo2 ?_;refine⟨m+200,by omega,zholds⟩
 ·clear hg
  refine zgo2 ?_;exact zfin
theorem sameInts15_p(l:List Int)(hl:l.length≤1000000):PC 101 [.snap (encL intRow l),.snap (encL intRow l)] (bV true):=by
 refine pstart Tryz.func101 Tryz.ntmps101 (.c _) ?_;have hg:=gI l;refine zgo2 ?_;refine zfor1 l.length 0 [] (fun k=> [(5,true,zV k),(0,true,.snap (encL intRow l)),(1,true,.snap (encL intRow l))]) zholds (fun k m hlt hm=> ?_) (fun m hm=> ?_)
 ·have hgk:=hg k hlt
  clear hg;refine zgo2 ?_;refine⟨m+200,by omega,zholds⟩
 ·clear hg
  refine zgo2 ?_;exact zfin
theorem sameSecs_p(l:List Sec)(hl:l.length≤1000000):PC 45 [.snap (encL encSec l),.snap (encL encSec l)] (bV true):=by
 refine pstart Tryz.func45 Tryz.ntmps45 (.c _) ?_;have hg:=gS l;refine zgo2 ?_;refine zfor1 l.length 0 [] (fun k=> [(5,true,zV k),(0,true,.snap (encL encSec l)),(1,true,.snap (encL encSec l))]) zholds (fun k m hlt hm=> ?_) (fun m hm=> ?_)
 ·have hgk:=hg k hlt
  clear hg;refine zgo2 ?_;refine⟨m+200,by omega,zholds⟩
 ·clear hg
  refine zgo2 ?_;exact zfin
theorem sameOps_p(l:List Opr)(hl:l.length≤1000000)(hs:∀o∈l,o.2.2.length≤1000000):PC 13 [.snap (encL opRow l),.snap (encL opRow l)] (bV true):=by
 refine pstart Tryz.func13 Tryz.ntmps13 (.c _) ?_;have hg:=gO l;refine zgo2 ?_;refine zfor1 l.length 0 [] (fun k=> [(5,true,zV k),(0,true,.snap (encL opRow l)),(1,true,.snap (encL opRow l))]) zholds (fun k m hlt hm=> ?_) (fun m hm=> ?_)
 ·have hgk:=hg k hlt
  clear hg;have hm1:l.getD k zOp∈l:=getD_mem' zOp hlt;have c1:=sameSecs_p (l.getD k zOp).2.2 (hs _ hm1);unfold opRow at hgk;have hgk2:(encL opRow l)[k]? =some [zV (l.getD k zOp).1,zV (l.getD k zOp).2.1,.snap (encL encSec (l.getD k zOp).2.2)]:=hgk;clear hgk;refine zgo2 ?_;refine⟨m+200,by omega,zholds⟩
 ·clear hg
  refine zgo2 ?_;exact zfin
end Go.Proofs.YtioafciifiggaaaGreatDoor
namespace Go.Proofs.YtioafciifiggaaaGreatDoor
open Go.Proofs Go.AL
set_option maxRecDepth 100000
set_option maxHeartbeats 1000000
attribute [local irreducible] endA AW aops thenA blockA hold
def fewD(d:Dsk):Bool:=decide (d.st.length≤400)&&decide (d.ca.length≤400)
theorem fewD_p(d:Dsk)(h1:d.st.length≤9223372036854775807)(h2:d.ca.length≤9223372036854775807):PC 7 [.agg (encD d)] (bV (fewD d)):=by
 refine pstart Tryz.func7 Tryz.ntmps7 (.c _) ?_;obtain⟨M,hM⟩:∃M,fewD d=M:=⟨_,rfl⟩;rw[hM];unfold fewD at hM;unfold encD;by_cases g1:d.st.length≤400
 ·by_cases g2:d.ca.length≤400
  ·obtain rfl:M=true:=by rw[←hM];simp[g1,g2]
   clear hM;refine zgo2 ?_;exact zfin
  ·obtain rfl:M=false:=by rw[←hM];simp[g1,g2]
   clear hM;refine zgo2 ?_;exact zfin
 ·obtain rfl:M=false:=by rw[←hM];simp[g1]
  clear hM;refine zgo2 ?_;exact zfin
end Go.Proofs.YtioafciifiggaaaGreatDoor
namespace Go.Proofs.YtioafciifiggaaaGreatDoor
open Go.Proofs Go.AL
set_option maxRecDepth 100000
set_option maxHeartbeats 1000000
attribute [local irreducible] endA AW aops thenA blockA hold
abbrev W32:=BitVec 32
def nV(v:W32):Int:=(v.toNat:Int)
theorem nV_rng(v:W32):0≤nV v∧nV v<4294967296:=by
 have:=v.isLt;unfold nV;omega
theorem nV_of(v:W32):BitVec.ofInt 32 (nV v)=v:=by
 unfold nV;rw[BitVec.ofInt_natCast];simp
theorem nV_xor(a b:W32):bits .xor .u32 (nV a) (nV b)=nV (a ^^^ b):=by
 have h:bits .xor .u32 (nV a) (nV b)=IntKind.u32.wrap ((BitVec.ofInt 32 (nV a) ^^^ BitVec.ofInt 32 (nV b)).toNat:Int):=rfl;rw[h,nV_of,nV_of,IntKind.wrap_u32];have:=nV_rng (a ^^^ b);unfold nV at*;omega
theorem nV_shr(a:W32)(k:Nat):(nV a).fdiv ((2:Int) ^ k)=nV (a>>>k):=by
 unfold nV;rw[BitVec.toNat_ushiftRight,Nat.shiftRight_eq_div_pow,Int.fdiv_eq_ediv_of_nonneg _ (Int.le_of_lt (Int.pow_pos (by decide)))]
 push_cast
 rfl
def pol:W32:=0x82F63B78#32
def stp(r:W32):W32:=(r>>>1) ^^^ (if r.getLsbD 0 then pol else 0#32)
theorem bxor4(a b p:W32):(a ^^^ p) ^^^ (b ^^^ p)=a ^^^ b:=by
 apply BitVec.eq_of_getLsbD_eq;intro i hi;simp only[BitVec.getLsbD_xor];cases a.getLsbD i<;>cases b.getLsbD i<;>cases p.getLsbD i<;>rfl
theorem stp_xor(a b:W32):stp (a ^^^ b)=stp a ^^^ stp b:=by
 unfold stp;rw[BitVec.ushiftRight_xor_distrib,BitVec.getLsbD_xor];cases a.getLsbD 0<;>cases b.getLsbD 0
 ·simp
 ·simp[BitVec.xor_assoc]
 ·simp only[Bool.true_xor,Bool.not_false,if_true,Bool.false_eq_true,if_false]
  rw[BitVec.xor_zero,BitVec.xor_assoc,BitVec.xor_assoc,BitVec.xor_comm (b>>>1)]
 ·simp only[Bool.true_xor,Bool.not_true,if_true,Bool.false_eq_true,if_false]
  rw[bxor4,BitVec.xor_zero]
def stpN:Nat→W32→W32
 |0,r=>r
 |k+1,r=>stpN k (stp r)
theorem stpN_xor:∀(k:Nat) (a b:W32),stpN k (a ^^^ b)=stpN k a ^^^ stpN k b
 |0,a,b=>rfl
 |k+1,a,b=>by simp only[stpN];rw[stp_xor,stpN_xor k]
theorem stpN_succ:∀(k:Nat) (r:W32),stpN (k+1) r=stp (stpN k r)
 |0,r=>rfl
 |k+1,r=>by
  have:=stpN_succ k (stp r);simp only[stpN]at this⊢;exact this
theorem stpN_hi:∀(k:Nat) (r:W32),(∀i,i<k→r.getLsbD i=false)→stpN k r=r>>>k
 |0,r,_=>by simp[stpN]
 |k+1,r,h=>by
  have h0:stp r=r>>>1:=by unfold stp;rw[h 0 (by omega)];simp
  simp only[stpN];rw[h0,stpN_hi k _ fun i hi=>by rw[BitVec.getLsbD_ushiftRight];exact h (1+i) (by omega)]
  apply BitVec.eq_of_getLsbD_eq;intro i hi;simp only[BitVec.getLsbD_ushiftRight];congr 1;omega
theorem split8(r:W32):r=(r&&&0xFFFFFF00#32) ^^^ (r&&&0xFF#32):=by
 apply BitVec.eq_of_getLsbD_eq;intro i hi;simp only[BitVec.getLsbD_xor,BitVec.getLsbD_and];have h:∀j:Fin 32,(0xFFFFFF00#32).getLsbD j.val= !((0xFF#32).getLsbD j.val):=by decide
 rw[h ⟨i,hi⟩];cases r.getLsbD i<;>cases(0xFF#32).getLsbD i<;>rfl
theorem hi8(r:W32):(r&&&0xFFFFFF00#32)>>>8=r>>>8:=by
 apply BitVec.eq_of_getLsbD_eq;intro i hi;simp only[BitVec.getLsbD_ushiftRight,BitVec.getLsbD_and];by_cases h:8+i<32
 ·have h2:∀j:Fin 32,8≤j.val→(0xFFFFFF00#32).getLsbD j.val=true:=by decide
  rw[h2 ⟨8+i,h⟩ (by simp)]
  simp
 ·rw[BitVec.getLsbD_of_ge r (8+i) (by omega)]
  rfl
theorem tbl_law(r b:W32):stpN 8 (r ^^^ b)=(r>>>8) ^^^ stpN 8 ((r&&&0xFF#32) ^^^ b):=by
 have h1:stpN 8 (r&&&0xFFFFFF00#32)=(r&&&0xFFFFFF00#32)>>>8:=stpN_hi 8 _ fun i hi=>by
  have h2:∀j:Fin 8,(0xFFFFFF00#32).getLsbD j.val=false:=by decide
  rw[BitVec.getLsbD_and,h2 ⟨i,hi⟩,Bool.and_false]
 have h3:r ^^^ b=(r&&&0xFFFFFF00#32) ^^^ ((r&&&0xFF#32) ^^^ b):=by
  rw[←BitVec.xor_assoc,←split8]
 rw[h3,stpN_xor,h1,hi8]
def crcR(r:W32)(l:List Int):W32:=l.foldl (fun r x=>stpN 8 (r ^^^ BitVec.ofInt 32 x)) r
def crc(l:List Int):Int:=nV (~~~ (crcR (~~~ 0#32) l))
theorem crc_rng(l:List Int):0≤crc l∧crc l<4294967296:=nV_rng _
theorem crcR_succ{r:W32}{l:List Int}{k:Nat}(h:k<l.length):crcR r (l.take (k+1))=stpN 8 (crcR r (l.take k) ^^^ BitVec.ofInt 32 (l.getD k 0)):=by
 unfold crcR;rw[List.take_succ_eq_append_getElem h,List.foldl_append];simp[h]
end Go.Proofs.YtioafciifiggaaaGreatDoor
namespace Go.Proofs.YtioafciifiggaaaGreatDoor
open Go.Proofs Go.AL
set_option maxRecDepth 100000
set_option maxHeartbeats 1000000
attribute [local irreducible] endA AW aops thenA blockA hold
def lenE(src:List Int):Int×List Int×Int:=if(intE src).2.2=0 then(if 65536<(intE src).1 then(0,[],5)else intE src)else(0,[],(intE src).2.2)
def manyG{α:Type}(one:List Int→α×List Int×Int):Nat→List Int→List α→List α×List Int×Int
 |0,src,out=>(out,src,0)
 |f+1,src,out=>if(one src).2.2=0 then manyG one f (one src).2.1 (out++[(one src).1])else([],[],(one src).2.2)
theorem manyG_succ{α:Type}(one:List Int→α×List Int×Int)(f:Nat)(src:List Int)(out:List α):manyG one (f+1) src out=if(one src).2.2=0 then manyG one f (one src).2.1 (out++[(one src).1])else([],[],(one src).2.2):=rfl
theorem manyG_zero{α:Type}(one:List Int→α×List Int×Int)(src:List Int)(out:List α):manyG one 0 src out=(out,src,0):=rfl
def manyE{α:Type}(one:List Int→α×List Int×Int)(src:List Int):List α×List Int×Int:=if(lenE src).2.2=0 then manyG one (lenE src).1.toNat (lenE src).2.1 []else([],[],(lenE src).2.2)
def secAt(l:List Int):Sec:=((l.getD 0 0,l.getD 1 0,l.getD 2 0,l.getD 3 0),(l.getD 4 0,l.getD 5 0,l.getD 6 0,l.getD 7 0))
def secE(src:List Int):Sec×List Int×Int:=if src.length<8 then(zSec,[],10)else(secAt src,src.drop 8,0)
def wrtE(src:List Int):Wrt×List Int×Int:=
 if(intE src).2.2=0 then
  if(intE (intE src).2.1).2.2=0 then(((intE src).1,(intE (intE src).2.1).1,(manyE secE (intE (intE src).2.1).2.1).1),(manyE secE (intE (intE src).2.1).2.1).2.1,(manyE secE (intE (intE src).2.1).2.1).2.2)
  else(zWr,[],(intE (intE src).2.1).2.2)
 else(zWr,[],(intE src).2.2)
def LessB{α:Type}(one:List Int→α×List Int×Int):Prop:=∀src,(∀x∈src,ByteOK x)→(∀x∈(one src).2.1,ByteOK x)∧(one src).2.1.length≤src.length
theorem intE_less:LessB intE:=fun src h=>intE_ok h
theorem lenE_less:LessB lenE:=fun src h=>by
 unfold lenE;have:=intE_ok h;split
 ·split
  ·exact⟨fun x hx=>by simp at hx,by simp⟩
  ·exact this
 ·exact⟨fun x hx=>by simp at hx,by simp⟩
theorem manyG_less{α:Type}{one:List Int→α×List Int×Int}(h1:LessB one):∀(f:Nat) (src:List Int) (out:List α),(∀x∈src,ByteOK x)→(∀x∈(manyG one f src out).2.1,ByteOK x)∧(manyG one f src out).2.1.length≤src.length
 |0,src,out,h=>⟨h,Nat.le_refl _⟩
 |f+1,src,out,h=>by
  rw[manyG_succ];split
  ·have h2:=h1 src h
   have h3:=manyG_less h1 f _ (out++[(one src).1]) h2.1;exact⟨h3.1,by omega⟩
  ·exact⟨fun x hx=>by simp at hx,by simp⟩
theorem manyE_less{α:Type}{one:List Int→α×List Int×Int}(h1:LessB one):LessB (manyE one):=fun src h=>by
 unfold manyE;have h2:=lenE_less src h;split
 ·have h3:=manyG_less h1 (lenE src).1.toNat _ [] h2.1
  exact⟨h3.1,by omega⟩
 ·exact⟨fun x hx=>by simp at hx,by simp⟩
theorem secE_less:LessB secE:=fun src h=>by
 unfold secE;split
 ·exact⟨fun x hx=>by simp at hx,by simp⟩
 ·exact⟨fun x hx=>h x (List.mem_of_mem_drop hx),by simp⟩
theorem wrtE_less:LessB wrtE:=fun src h=>by
 unfold wrtE;have h1:=intE_ok h;have h2:=intE_ok h1.1;have h3:=manyE_less secE_less _ h2.1;split
 ·split
  ·exact⟨h3.1,by simp only[];omega⟩
  ·exact⟨fun x hx=>by simp at hx,by simp⟩
 ·exact⟨fun x hx=>by simp at hx,by simp⟩
theorem manyG_len{α:Type}{one:List Int→α×List Int×Int}:∀(f:Nat) (src:List Int) (out:List α),(manyG one f src out).1.length≤f+out.length
 |0,src,out=>by rw[manyG_zero];simp
 |f+1,src,out=>by
  rw[manyG_succ];split
  ·have:=manyG_len (one:=one) f (one src).2.1 (out++[(one src).1])
   simp only[List.length_append,List.length_cons,List.length_nil]at this;omega
  ·simp
theorem lenE_le{src:List Int}:(lenE src).1≤65536:=by
 unfold lenE;split
 ·split
  ·simp
  ·omega
 ·simp
theorem manyE_len{α:Type}{one:List Int→α×List Int×Int}(src:List Int):(manyE one src).1.length≤65536:=by
 unfold manyE;split
 ·have:=manyG_len (one:=one) (lenE src).1.toNat (lenE src).2.1 []
  have h2:=lenE_le (src:=src);simp only[List.length_nil]at this;omega
 ·simp
theorem manyG_all{α:Type}{one:List Int→α×List Int×Int}{p:α→Prop}(hp:∀src,(one src).2.2=0→p (one src).1):∀(f:Nat) (src:List Int) (out:List α),(∀x∈out,p x)→∀x∈(manyG one f src out).1,p x
 |0,src,out,h=>h
 |f+1,src,out,h=>by
  rw[manyG_succ];split
  ·rename_i g
   exact manyG_all hp f _ _ fun x hx=>by
    rcases List.mem_append.1 hx with hx|hx
    ·exact h x hx
    ·simp only[List.mem_cons,List.not_mem_nil,or_false]at hx
     subst hx;exact hp src g
  ·exact fun x hx=>by simp at hx
theorem manyE_all{α:Type}{one:List Int→α×List Int×Int}{p:α→Prop}(hp:∀src,(one src).2.2=0→p (one src).1)(src:List Int):∀x∈(manyE one src).1,p x:=by
 unfold manyE;split
 ·exact manyG_all hp _ _ _ fun x hx=>by simp at hx
 ·exact fun x hx=>by simp at hx
theorem numG_nn:∀(f:Nat) (src:List Int) (i:Nat) (n:Int),(∀x∈src,ByteOK x)→0≤n→0≤(numG f src i n).1
 |0,src,i,n,_,_=>by rw[numG_zero];simp
 |f+1,src,i,n,h,h0=>by
  rw[numG_succ];have hp:=pow7_pos i;split
  ·rename_i hi
   have hx:=h _ (getD_mem' 0 hi);have h1:0≤src.getD i 0 % 128*2 ^ (7*i):=Int.mul_nonneg (by omega) (by omega)
   split
   ·exact numG_nn f src (i+1) _ h (by omega)
   ·split
    ·simp
    ·simp only[];omega
  ·simp
theorem intE_nn{src:List Int}(h:∀x∈src,ByteOK x):0≤(intE src).1:=by
 unfold intE;split
 ·exact numG_nn 8 src 0 0 h (by decide)
 ·simp
theorem lenE_is{src:List Int}(h:∀x∈src,ByteOK x)(h0:(lenE src).2.2=0):(intE src).1=(lenE src).1∧0≤(lenE src).1∧(lenE src).1≤65536∧(intE src).2.2=0:=by
 have h1:=intE_nn h;unfold lenE at h0⊢;split at h0
 ·rename_i g
  rw[if_pos g];split at h0
  ·exact absurd h0 (by decide)
  ·rename_i g2
   rw[if_neg g2];exact⟨rfl,h1,by omega,g⟩
 ·rename_i g
  exact absurd h0 g
def manyW{α:Type}(enc:α→List Int)(l:List α):List Int:=vint l.length++l.flatMap enc
def secB(s:Sec):List Int:=[s.1.1,s.1.2.1,s.1.2.2.1,s.1.2.2.2,s.2.1,s.2.2.1,s.2.2.2.1,s.2.2.2.2]
def wrtW(w:Wrt):List Int:=vint w.1++vint w.2.1++manyW secB w.2.2
end Go.Proofs.YtioafciifiggaaaGreatDoor
namespace Go.Proofs.YtioafciifiggaaaGreatDoor
open Go.Proofs Go.AL
set_option maxRecDepth 100000
set_option maxHeartbeats 1000000
attribute [local irreducible] endA AW aops thenA blockA hold
attribute [local irreducible] numG
def curB(src:List Int):Blk:= .cells 376 1 [[.snap (encL byteRow src)]] true false
def curO{α:Type}(x:α×List Int×Int):Option Blk:=if x.2.2=0 then some (curB x.2.1)else none
theorem number_m(src:List Int)(hb:∀x∈src,ByteOK x)(hl:src.length≤100000)(id:Nat):MCall Tryz.prog 212 [.ptr id 0 0] id (curB src) (curO (intE src)) (.tup [zV (intE src).1,zV (intE src).2.2]) 100:=by
 refine mstart Tryz.func212 Tryz.ntmps212 ?_;intro N G hid hG0 hG;have hE:∀F,numG 8 src 0 0=F→intE src=if F.2.2=0 then(F.1,src.drop F.2.1,0)else(0,[],F.2.2):=fun F h=>by unfold intE;rw[h]
 generalize intE src=X at*;unfold curB at hG0;unfold curO curB;refine zgoM ?_;have hg:=gB src;generalize hF:numG 8 src 0 0=F at hE;have hX:∀F0,F=F0→X=if F0.2.2=0 then(F0.1,src.drop F0.2.1,0)else(0,[],F0.2.2):=fun F0 h=>by rw[←h];exact hE F rfl
 clear hE;refine zforB (α:=Int) (G:=G) 8 (fun k n=> [(7,true,zV k),(4,true,zV n),(0,true,.ptr id 0 0)]) (fun _ _=> []) (fun k m n=>(N≤m∧m≤N+50)∧numG (8-k) src k n=F∧0≤n∧n<2 ^ (7*k)) ⟨N,0,⟨⟨Nat.le_refl _,by omega⟩,hF,by decide,by decide⟩,zholdsB⟩ (fun k m n hk hR=> ?_) (fun m n hR=> ?_)
 ·obtain⟨h1,h2,h3,h4⟩:=hR
  have w0:IntKind.i64.wrap (7*(k:Int))=((7*k:Nat):Int):=by rw[IntWalk.i64_in _ (by omega)];omega
  by_cases g1:k<src.length
  ·have hx:=hb _ (getD_mem' 0 g1)
   obtain⟨w1,w2,w3,w4⟩:=step7 (b:=src.getD k 0) hk h3 h4;have a1:=and127 hx.1 hx.2;have a2:=and128 hx.1 hx.2;obtain⟨f,hf⟩:∃f,8-k=f+1:=⟨7-k,by omega⟩
   have hf2:8-(k+1)=f:=by omega
   rw[hf]at h2;have wm:min (7*k) 64=7*k:=by omega
   have hgk:=hg k g1;clear hb hg hF;generalize hv:src.getD k 0=b at*;rw[numG_succ,if_pos g1,hv]at h2;generalize hp0:(2:Int) ^ (7*k)=p at*;have hp:(2:Int) ^ min (7*k) 64=p:=by rw[wm,hp0]
   clear wm h4;generalize hq:b % 128*p=q at*;have w5:Lat (n+q<2 ^ (7*(k+1))):=⟨w4⟩;clear w4;by_cases g2:128≤b
   ·rw[if_pos g2]at a2
    have h5:Lat (numG (8-(k+1)) src (k+1) (n+q)=F):=⟨by rw[hf2,←h2,if_pos g2]⟩
    clear h2 hf2 hf;refine zgoM ?_;exact⟨m,_,⟨h1,h5.out,w3,w5.out⟩,zholdsB⟩
   ·rw[if_neg g2]at a2
    have h5:F=if(b=0∧0<k)∨9007199254740991<n+q then(0,0,3)else(n+q,k+1,0):=by
     rw[←h2,if_neg g2]
    clear h2 hf2 hf;by_cases g3:b=0∧0<k
    ·have h6:F=(0,0,3):=by rw[h5,if_pos (.inl g3)]
     obtain⟨g4,g5⟩:=g3;have g6:(0:Int)<k:=by omega
     have hY:=hX _ h6;rw[if_neg (by decide)]at hY
     clear hX;subst hY;clear h5 h6;rw[if_neg (by decide)]
     have hb0:(b==(0:Int))=true:=by rw[g4];rfl
     clear g4;refine zgoM ?_;exact zfinM
    ·by_cases g4:9007199254740991<n+q
     ·have h6:F=(0,0,3):=by rw[h5,if_pos (.inr g4)]
      have hY:=hX _ h6;rw[if_neg (by decide)]at hY
      clear hX;subst hY;clear h5 h6;rw[if_neg (by decide)]
      by_cases g5:b=0
      ·have g6:¬(0:Int)<k:=by omega
       clear g3;have hb0:(b==(0:Int))=true:=by rw[g5];rfl
       clear g5;refine zgoM ?_;exact zfinM
      ·clear g3
       refine zgoM ?_;exact zfinM
     ·have h6:F=(n+q,k+1,0):=by rw[h5,if_neg (by omega)]
      have hY:=hX _ h6;rw[if_pos rfl]at hY;clear hX;subst hY;clear h5 h6;rw[if_pos rfl];have e3:(src.drop (k+1)).take (src.length-(k+1))=src.drop (k+1):=List.take_of_length_le (by rw[List.length_drop];omega)
      by_cases g5:b=0
      ·have g6:¬(0:Int)<k:=by omega
       clear g3;have hb0:(b==(0:Int))=true:=by rw[g5];rfl
       clear g5;refine zgoM ?_;exact zfinM
      ·clear g3
       refine zgoM ?_;exact zfinM
  ·have h9:F=(0,0,10):=by rw[←h2,show 8-k=(7-k)+1 by omega];rw[numG_succ,if_neg g1]
   have hY:=hX _ h9;rw[if_neg (by decide)]at hY
   clear hX;subst hY;clear h9 h2;rw[if_neg (by decide)]
   refine zgoM ?_;exact zfinM
 ·have h9:F=(0,0,3):=by rw[←hR.2.1,Nat.sub_self,numG_zero]
  have hm:=hR.1;have hY:=hX _ h9;rw[if_neg (by decide)]at hY
  clear hX;subst hY;clear h9 hR;rw[if_neg (by decide)]
  refine zgoM ?_;exact zfinM
end Go.Proofs.YtioafciifiggaaaGreatDoor
