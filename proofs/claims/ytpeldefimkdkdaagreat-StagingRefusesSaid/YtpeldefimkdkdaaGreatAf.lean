/- Staging: contracts of its functions (Af). No condition but those named. -/
import Derived.Test.YtpeldefimkdkdaaGreatAe
import Derived.Test.YtpeldefimkdkdaaGreatLg
set_option linter.unusedVariables false
set_option linter.unusedSimpArgs false
namespace Go.Proofs.YtpeldefimkdkdaaGreat
open Go.Proofs Go.AL
set_option maxRecDepth 100000
set_option maxHeartbeats 1000000
attribute [local irreducible] endA AW aops thenA blockA hold
def bigW(w:Wrt):Bool:=decide (24<w.2.2.length)
def fewW(l:List Wrt):Bool:= !((l.take 60).any bigW)&&decide (l.length≤40)
theorem fewW_bad{l:List Wrt}{k:Nat}(h1:k<l.length)(h2:k<60)(h:bigW (l.getD k zWr)=true):fewW l=false:=by
 have hm:l.getD k zWr∈l.take 60:=by
  rw[List.getD_eq_getElem?_getD,List.getElem?_eq_getElem h1,Option.getD_some];exact List.mem_take_iff_getElem.2 ⟨k,by omega,rfl⟩
 have:(l.take 60).any bigW=true:=List.any_eq_true.2 ⟨_,hm,h⟩;unfold fewW;rw[this];rfl
theorem fewW_ok{l:List Wrt}(h:∀i,i<l.length→i<60→bigW (l.getD i zWr)=false):fewW l=decide (l.length≤40):=by
 have:(l.take 60).any bigW=false:=by
  rw[List.any_eq_false];intro x hx;obtain⟨i,hi,rfl⟩:=List.mem_take_iff_getElem.1 hx;have:=h i (by omega) (by omega)
  rw[List.getD_eq_getElem?_getD,List.getElem?_eq_getElem (by omega),Option.getD_some]at this
  simp[this]
 unfold fewW;rw[this];rfl
theorem fewW_p(l:List Wrt)(hl:l.length≤9223372036854775807)(hs:∀w∈l,w.2.2.length≤9223372036854775807):PC 67 [.snap (encL opRow l)] (bV (fewW l)):=by
 refine pstart Tryz.func67 Tryz.ntmps67 (.c _) ?_;obtain⟨M,hM⟩:∃M,fewW l=M:=⟨_,rfl⟩;have hbad:=fun k h1 h2=>fewW_bad (l:=l) (k:=k) h1 h2
 have hok:=fewW_ok (l:=l);rw[hM]at hok hbad⊢;clear hM;have hbad':=Lat.mk hbad;have hok':=Lat.mk hok;have hs':=Lat.mk hs;clear hbad hok hs;refine zgo2 ?_;refine zfor (α:=Unit) (min l.length 60) (fun k _=> [(3,true,zV k),(0,true,.snap (encL opRow l))]) (fun _ _=> []) (fun k m _=>∀i,i<k→bigW (l.getD i zWr)=false) ⟨0,(),fun i hi=>by omega,zholds⟩ (fun k m _ hk hR=> ?_) (fun m _ hR=> ?_)
 ·have hR':=Lat.mk hR
  have hk2:k<l.length:=by omega
  have hk3:k<60:=by omega
  have hgk:(encL opRow l)[k]? =some [zV (l.getD k zWr).1,zV (l.getD k zWr).2.1,.snap (encL encSec (l.getD k zWr).2.2)]:=gO l k hk2;have hsk:=hs'.out _ (getD_mem' zWr hk2);clear hR hk;by_cases g1:24<(l.getD k zWr).2.2.length
  ·obtain rfl:=hbad'.out k hk2 hk3 (by unfold bigW;rw[decide_eq_true g1])
   refine zgo2 ?_;exact zfin
  ·have h9:bigW (l.getD k zWr)=false:=by unfold bigW;rw[decide_eq_false g1]
   have h9':=Lat.mk h9;clear h9;refine zgo2 ?_;refine⟨m+60,(),fun i hi=> ?_,zholds⟩
   by_cases hik:i=k
   ·subst hik;exact h9'.out
   ·exact hR'.out i (by omega)
 ·have hok:=hok'.out fun i h1 h2=>hR i (by omega)
  clear hR;by_cases g1:l.length≤40
  ·obtain rfl:M=true:=by rw[hok];simp[g1]
   have g4:min l.length 60=l.length:=by omega
   rw[g4];clear g4 hok;refine zgo2 ?_;exact zfin
  ·obtain rfl:M=false:=by rw[hok];simp[g1]
   by_cases g2:l.length≤60
   ·have g4:min l.length 60=l.length:=by omega
    rw[g4];clear g4 hok;refine zgo2 ?_;exact zfin
   ·have g4:min l.length 60=60:=by omega
    rw[g4];clear g4 hok;refine zgo2 ?_;exact zfin
theorem fewC_p(c:Cyc)(hp:c.pos.length≤9223372036854775807)(hl:c.writes.length≤9223372036854775807)(hs:∀w∈c.writes,w.2.2.length≤9223372036854775807):PC 23 [.agg (encC c)] (bV (decide (c.pos.length≤40)&&fewW c.writes)):=by
 refine pstart Tryz.func23 Tryz.ntmps23 (.c _) ?_;have c1:=fewW_p c.writes hl hs;generalize fewW c.writes=x at*;clear hs;obtain⟨b,n,t,ps,ws⟩:=c;unfold encC at*;simp only[]at*;by_cases g:ps.length≤40
 ·have e1:decide (ps.length≤40)=true:=by simp[g]
  rw[e1];cases x<;>(refine zgo2 ?_;exact zfin)
 ·have e1:decide (ps.length≤40)=false:=by simp[g]
  rw[e1];refine zgo2 ?_;exact zfin
end Go.Proofs.YtpeldefimkdkdaaGreat
namespace Go.Proofs.YtpeldefimkdkdaaGreat
open Go.Proofs Go.AL
set_option maxRecDepth 100000
set_option maxHeartbeats 1000000
attribute [local irreducible] endA AW aops thenA blockA hold
abbrev W32:=BitVec 32
def nV(v:W32):Int:=(v.toNat:Int)
theorem nV_rng(v:W32):0≤nV v∧nV v<4294967296:=by
 have:=v.isLt;unfold nV;omega
theorem nV_of(v:W32):BitVec.ofInt 32 (nV v)=v:=by
 unfold nV;rw[BitVec.ofInt_natCast];simp
theorem nV_xor(a b:W32):bits .xor .u32 (nV a) (nV b)=nV (a ^^^ b):=by
 have h:bits .xor .u32 (nV a) (nV b)=IntKind.u32.wrap ((BitVec.ofInt 32 (nV a) ^^^ BitVec.ofInt 32 (nV b)).toNat:Int):=rfl;rw[h,nV_of,nV_of,IntKind.wrap_u32];have:=nV_rng (a ^^^ b);unfold nV at*;omega
theorem nV_shr(a:W32)(k:Nat):(nV a).fdiv ((2:Int) ^ k)=nV (a>>>k):=by
 unfold nV;rw[BitVec.toNat_ushiftRight,Nat.shiftRight_eq_div_pow,Int.fdiv_eq_ediv_of_nonneg _ (Int.le_of_lt (Int.pow_pos (by decide)))]
 push_cast
 rfl
def pol:W32:=0x82F63B78#32
def stp(r:W32):W32:=(r>>>1) ^^^ (if r.getLsbD 0 then pol else 0#32)
theorem bxor4(a b p:W32):(a ^^^ p) ^^^ (b ^^^ p)=a ^^^ b:=by
 apply BitVec.eq_of_getLsbD_eq;intro i hi;simp only[BitVec.getLsbD_xor];cases a.getLsbD i<;>cases b.getLsbD i<;>cases p.getLsbD i<;>rfl
theorem stp_xor(a b:W32):stp (a ^^^ b)=stp a ^^^ stp b:=by
 unfold stp;rw[BitVec.ushiftRight_xor_distrib,BitVec.getLsbD_xor];cases a.getLsbD 0<;>cases b.getLsbD 0
 ·simp
 ·simp[BitVec.xor_assoc]
 ·simp only[Bool.true_xor,Bool.not_false,if_true,Bool.false_eq_true,if_false]
  rw[BitVec.xor_zero,BitVec.xor_assoc,BitVec.xor_assoc,BitVec.xor_comm (b>>>1)]
 ·simp only[Bool.true_xor,Bool.not_true,if_true,Bool.false_eq_true,if_false]
  rw[bxor4,BitVec.xor_zero]
def stpN:Nat→W32→W32
 |0,r=>r
 |k+1,r=>stpN k (stp r)
theorem stpN_xor:∀(k:Nat) (a b:W32),stpN k (a ^^^ b)=stpN k a ^^^ stpN k b
 |0,a,b=>rfl
 |k+1,a,b=>by simp only[stpN];rw[stp_xor,stpN_xor k]
theorem stpN_succ:∀(k:Nat) (r:W32),stpN (k+1) r=stp (stpN k r)
 |0,r=>rfl
 |k+1,r=>by
  have:=stpN_succ k (stp r);simp only[stpN]at this⊢;exact this
theorem stpN_hi:∀(k:Nat) (r:W32),(∀i,i<k→r.getLsbD i=false)→stpN k r=r>>>k
 |0,r,_=>by simp[stpN]
 |k+1,r,h=>by
  have h0:stp r=r>>>1:=by unfold stp;rw[h 0 (by omega)];simp
  simp only[stpN];rw[h0,stpN_hi k _ fun i hi=>by rw[BitVec.getLsbD_ushiftRight];exact h (1+i) (by omega)]
  apply BitVec.eq_of_getLsbD_eq;intro i hi;simp only[BitVec.getLsbD_ushiftRight];congr 1;omega
theorem split8(r:W32):r=(r&&&0xFFFFFF00#32) ^^^ (r&&&0xFF#32):=by
 apply BitVec.eq_of_getLsbD_eq;intro i hi;simp only[BitVec.getLsbD_xor,BitVec.getLsbD_and];have h:∀j:Fin 32,(0xFFFFFF00#32).getLsbD j.val= !((0xFF#32).getLsbD j.val):=by decide
 rw[h ⟨i,hi⟩];cases r.getLsbD i<;>cases(0xFF#32).getLsbD i<;>rfl
theorem hi8(r:W32):(r&&&0xFFFFFF00#32)>>>8=r>>>8:=by
 apply BitVec.eq_of_getLsbD_eq;intro i hi;simp only[BitVec.getLsbD_ushiftRight,BitVec.getLsbD_and];by_cases h:8+i<32
 ·have h2:∀j:Fin 32,8≤j.val→(0xFFFFFF00#32).getLsbD j.val=true:=by decide
  rw[h2 ⟨8+i,h⟩ (by simp)]
  simp
 ·rw[BitVec.getLsbD_of_ge r (8+i) (by omega)]
  rfl
theorem tbl_law(r b:W32):stpN 8 (r ^^^ b)=(r>>>8) ^^^ stpN 8 ((r&&&0xFF#32) ^^^ b):=by
 have h1:stpN 8 (r&&&0xFFFFFF00#32)=(r&&&0xFFFFFF00#32)>>>8:=stpN_hi 8 _ fun i hi=>by
  have h2:∀j:Fin 8,(0xFFFFFF00#32).getLsbD j.val=false:=by decide
  rw[BitVec.getLsbD_and,h2 ⟨i,hi⟩,Bool.and_false]
 have h3:r ^^^ b=(r&&&0xFFFFFF00#32) ^^^ ((r&&&0xFF#32) ^^^ b):=by
  rw[←BitVec.xor_assoc,←split8]
 rw[h3,stpN_xor,h1,hi8]
def crcR(r:W32)(l:List Int):W32:=l.foldl (fun r x=>stpN 8 (r ^^^ BitVec.ofInt 32 x)) r
def crc(l:List Int):Int:=nV (~~~ (crcR (~~~ 0#32) l))
theorem crc_rng(l:List Int):0≤crc l∧crc l<4294967296:=nV_rng _
theorem crcR_succ{r:W32}{l:List Int}{k:Nat}(h:k<l.length):crcR r (l.take (k+1))=stpN 8 (crcR r (l.take k) ^^^ BitVec.ofInt 32 (l.getD k 0)):=by
 unfold crcR;rw[List.take_succ_eq_append_getElem h,List.foldl_append];simp[h]
end Go.Proofs.YtpeldefimkdkdaaGreat
namespace Go.Proofs.YtpeldefimkdkdaaGreat
open Go.Proofs Go.AL
set_option maxRecDepth 100000
set_option maxHeartbeats 1000000
attribute [local irreducible] endA AW aops thenA blockA hold
def lenE(src:List Int):Int×List Int×Int:=if(intE src).2.2=0 then(if 65536<(intE src).1 then(0,[],5)else intE src)else(0,[],(intE src).2.2)
def manyG{α:Type}(one:List Int→α×List Int×Int):Nat→List Int→List α→List α×List Int×Int
 |0,src,out=>(out,src,0)
 |f+1,src,out=>if(one src).2.2=0 then manyG one f (one src).2.1 (out++[(one src).1])else([],[],(one src).2.2)
theorem manyG_succ{α:Type}(one:List Int→α×List Int×Int)(f:Nat)(src:List Int)(out:List α):manyG one (f+1) src out=if(one src).2.2=0 then manyG one f (one src).2.1 (out++[(one src).1])else([],[],(one src).2.2):=rfl
theorem manyG_zero{α:Type}(one:List Int→α×List Int×Int)(src:List Int)(out:List α):manyG one 0 src out=(out,src,0):=rfl
def manyE{α:Type}(one:List Int→α×List Int×Int)(src:List Int):List α×List Int×Int:=if(lenE src).2.2=0 then manyG one (lenE src).1.toNat (lenE src).2.1 []else([],[],(lenE src).2.2)
def secAt(l:List Int):Sec:=((l.getD 0 0,l.getD 1 0,l.getD 2 0,l.getD 3 0),(l.getD 4 0,l.getD 5 0,l.getD 6 0,l.getD 7 0))
def secE(src:List Int):Sec×List Int×Int:=if src.length<8 then(zSec,[],10)else(secAt src,src.drop 8,0)
def wrtE(src:List Int):Wrt×List Int×Int:=
 if(intE src).2.2=0 then
  if(intE (intE src).2.1).2.2=0 then(((intE src).1,(intE (intE src).2.1).1,(manyE secE (intE (intE src).2.1).2.1).1),(manyE secE (intE (intE src).2.1).2.1).2.1,(manyE secE (intE (intE src).2.1).2.1).2.2)
  else(zWr,[],(intE (intE src).2.1).2.2)
 else(zWr,[],(intE src).2.2)
def LessB{α:Type}(one:List Int→α×List Int×Int):Prop:=∀src,(∀x∈src,ByteOK x)→(∀x∈(one src).2.1,ByteOK x)∧(one src).2.1.length≤src.length
theorem intE_less:LessB intE:=fun src h=>intE_ok h
theorem lenE_less:LessB lenE:=fun src h=>by
 unfold lenE;have:=intE_ok h;split
 ·split
  ·exact⟨fun x hx=>by simp at hx,by simp⟩
  ·exact this
 ·exact⟨fun x hx=>by simp at hx,by simp⟩
theorem manyG_less{α:Type}{one:List Int→α×List Int×Int}(h1:LessB one):∀(f:Nat) (src:List Int) (out:List α),(∀x∈src,ByteOK x)→(∀x∈(manyG one f src out).2.1,ByteOK x)∧(manyG one f src out).2.1.length≤src.length
 |0,src,out,h=>⟨h,Nat.le_refl _⟩
 |f+1,src,out,h=>by
  rw[manyG_succ];split
  ·have h2:=h1 src h
   have h3:=manyG_less h1 f _ (out++[(one src).1]) h2.1;exact⟨h3.1,by omega⟩
  ·exact⟨fun x hx=>by simp at hx,by simp⟩
theorem manyE_less{α:Type}{one:List Int→α×List Int×Int}(h1:LessB one):LessB (manyE one):=fun src h=>by
 unfold manyE;have h2:=lenE_less src h;split
 ·have h3:=manyG_less h1 (lenE src).1.toNat _ [] h2.1
  exact⟨h3.1,by omega⟩
 ·exact⟨fun x hx=>by simp at hx,by simp⟩
theorem secE_less:LessB secE:=fun src h=>by
 unfold secE;split
 ·exact⟨fun x hx=>by simp at hx,by simp⟩
 ·exact⟨fun x hx=>h x (List.mem_of_mem_drop hx),by simp⟩
theorem wrtE_less:LessB wrtE:=fun src h=>by
 unfold wrtE;have h1:=intE_ok h;have h2:=intE_ok h1.1;have h3:=manyE_less secE_less _ h2.1;split
 ·split
  ·exact⟨h3.1,by simp only[];omega⟩
  ·exact⟨fun x hx=>by simp at hx,by simp⟩
 ·exact⟨fun x hx=>by simp at hx,by simp⟩
theorem manyG_len{α:Type}{one:List Int→α×List Int×Int}:∀(f:Nat) (src:List Int) (out:List α),(manyG one f src out).1.length≤f+out.length
 |0,src,out=>by rw[manyG_zero];simp
 |f+1,src,out=>by
  rw[manyG_succ];split
  ·have:=manyG_len (one:=one) f (one src).2.1 (out++[(one src).1])
   simp only[List.length_append,List.length_cons,List.length_nil]at this;omega
  ·simp
theorem lenE_le{src:List Int}:(lenE src).1≤65536:=by
 unfold lenE;split
 ·split
  ·simp
  ·omega
 ·simp
theorem manyE_len{α:Type}{one:List Int→α×List Int×Int}(src:List Int):(manyE one src).1.length≤65536:=by
 unfold manyE;split
 ·have:=manyG_len (one:=one) (lenE src).1.toNat (lenE src).2.1 []
  have h2:=lenE_le (src:=src);simp only[List.length_nil]at this;omega
 ·simp
theorem manyG_all{α:Type}{one:List Int→α×List Int×Int}{p:α→Prop}(hp:∀src,(one src).2.2=0→p (one src).1):∀(f:Nat) (src:List Int) (out:List α),(∀x∈out,p x)→∀x∈(manyG one f src out).1,p x
 |0,src,out,h=>h
 |f+1,src,out,h=>by
  rw[manyG_succ];split
  ·rename_i g
   exact manyG_all hp f _ _ fun x hx=>by
    rcases List.mem_append.1 hx with hx|hx
    ·exact h x hx
    ·simp only[List.mem_cons,List.not_mem_nil,or_false]at hx
     subst hx;exact hp src g
  ·exact fun x hx=>by simp at hx
theorem manyE_all{α:Type}{one:List Int→α×List Int×Int}{p:α→Prop}(hp:∀src,(one src).2.2=0→p (one src).1)(src:List Int):∀x∈(manyE one src).1,p x:=by
 unfold manyE;split
 ·exact manyG_all hp _ _ _ fun x hx=>by simp at hx
 ·exact fun x hx=>by simp at hx
theorem numG_nn:∀(f:Nat) (src:List Int) (i:Nat) (n:Int),(∀x∈src,ByteOK x)→0≤n→0≤(numG f src i n).1
 |0,src,i,n,_,_=>by rw[numG_zero];simp
 |f+1,src,i,n,h,h0=>by
  rw[numG_succ];have hp:=pow7_pos i;split
  ·rename_i hi
   have hx:=h _ (getD_mem' 0 hi);have h1:0≤src.getD i 0 % 128*2 ^ (7*i):=Int.mul_nonneg (by omega) (by omega)
   split
   ·exact numG_nn f src (i+1) _ h (by omega)
   ·split
    ·simp
    ·simp only[];omega
  ·simp
theorem intE_nn{src:List Int}(h:∀x∈src,ByteOK x):0≤(intE src).1:=by
 unfold intE;split
 ·exact numG_nn 8 src 0 0 h (by decide)
 ·simp
theorem lenE_is{src:List Int}(h:∀x∈src,ByteOK x)(h0:(lenE src).2.2=0):(intE src).1=(lenE src).1∧0≤(lenE src).1∧(lenE src).1≤65536∧(intE src).2.2=0:=by
 have h1:=intE_nn h;unfold lenE at h0⊢;split at h0
 ·rename_i g
  rw[if_pos g];split at h0
  ·exact absurd h0 (by decide)
  ·rename_i g2
   rw[if_neg g2];exact⟨rfl,h1,by omega,g⟩
 ·rename_i g
  exact absurd h0 g
def manyW{α:Type}(enc:α→List Int)(l:List α):List Int:=vint l.length++l.flatMap enc
def secB(s:Sec):List Int:=[s.1.1,s.1.2.1,s.1.2.2.1,s.1.2.2.2,s.2.1,s.2.2.1,s.2.2.2.1,s.2.2.2.2]
def wrtW(w:Wrt):List Int:=vint w.1++vint w.2.1++manyW secB w.2.2
theorem getD_mid9{α:Type}(a:List α)(x z:α)(b:List α):(a++x::b).getD a.length z=x:=by simp
theorem numG_vgS:∀(f m:Nat) (acc:Int) (pre rest:List Int),(m≠0∨pre.length=0)→1≤f→m<128 ^ f→acc+(m:Int)*2 ^ (7*pre.length)≤9007199254740991→
  numG f (pre++(vg m++rest)) pre.length acc=(acc+(m:Int)*2 ^ (7*pre.length),pre.length+(vg m).length,0)
 |0,m,acc,pre,rest,_,h,_,_=>by omega
 |f+1,m,acc,pre,rest,h0,_,hm,hb=>by
  have hp:=pow7_pos pre.length;rw[numG_succ];by_cases h:m<128
  ·rw[vg_lt h]
   have hg:(pre++([(m:Int)]++rest)).getD pre.length 0=(m:Int):=getD_mid9 pre _ 0 rest;have e:(m:Int) % 128=m:=by omega
   rw[if_pos (by simp),hg,if_neg (by omega),e,if_neg (by
    rintro(⟨h1,h2⟩|h1)
    ·rcases h0 with h0|h0<;>omega
    ·omega)]
   rfl
  ·rw[vg_ge h]
   have hg:(pre++((((m % 128+128:Nat):Int)::vg (m/128))++rest)).getD pre.length 0=((m % 128+128:Nat):Int):=getD_mid9 pre _ 0 _;have e:(((m % 128+128:Nat):Int)) % 128=((m % 128:Nat):Int):=by omega
   have hs:pre++((((m % 128+128:Nat):Int)::vg (m/128))++rest)=(pre++[((m % 128+128:Nat):Int)])++(vg (m/128)++rest):=by simp
   have hl:(pre++[((m % 128+128:Nat):Int)]).length=pre.length+1:=by simp
   have hpw:=pow7 pre.length
   have hmd:((m % 128:Nat):Int)*2 ^ (7*pre.length)+((m/128:Nat):Int)*2 ^ (7*(pre.length+1))=(m:Int)*2 ^ (7*pre.length):=by
    rw[hpw,←Int.mul_assoc,←Int.add_mul];congr 1;omega
   have hf:1≤f:=by
    rcases f with _|f
    ·simp at hm;omega
    ·omega
   have ih:=numG_vgS f (m/128) (acc+((m % 128:Nat):Int)*2 ^ (7*pre.length)) (pre++[((m % 128+128:Nat):Int)]) rest (.inl (by omega)) hf (by rw[Nat.pow_succ]at hm;omega) (by rw[hl];omega)
   rw[if_pos (by simp),hg,if_pos (by omega),e,hs,←hl,ih,hl]
   simp only[List.length_cons,Prod.mk.injEq,and_true];refine⟨by omega,by omega⟩
theorem intE_vintS{n:Int}(h0:0≤n)(h1:n≤9007199254740991)(rest:List Int):intE (vint n++rest)=(n,rest,0):=by
 have hc:clampN n=n.toNat:=by unfold clampN;rw[if_neg (by omega)]
 have h128:(128:Nat) ^ 8=72057594037927936:=by decide
 have e:((n.toNat:Nat):Int)=n:=by omega
 have h:=numG_vgS 8 n.toNat 0 [] rest (.inr rfl) (by decide) (by omega) (by simp only[List.length_nil,Nat.mul_zero,Int.pow_zero,Int.mul_one];omega)
 simp only[List.nil_append,List.length_nil,Nat.mul_zero,Int.pow_zero,Int.mul_one,Nat.zero_add,Int.zero_add]at h;unfold intE vint;rw[hc,h,if_pos rfl];simp only[e,List.drop_left]
theorem lenE_vint{n:Nat}(h1:n≤65536)(rest:List Int):lenE (vint (n:Int)++rest)=((n:Int),rest,0):=by
 unfold lenE;rw[intE_vintS (by omega) (by omega) rest]
 rw[if_pos rfl,if_neg (by simp only[];omega)]
theorem manyG_back{α:Type}{one:List Int→α×List Int×Int}{enc:α→List Int}:∀(l out:List α) (rest:List Int),(∀x∈l,∀rest,one (enc x++rest)=(x,rest,0))→manyG one l.length (l.flatMap enc++rest) out=(out++l,rest,0)
 |[],out,rest,_=>by rw[List.length_nil,manyG_zero];simp
 |x::l,out,rest,h=>by
  have h1:=h x (by simp) (l.flatMap enc++rest)
  have e:(x::l).flatMap enc++rest=enc x++(l.flatMap enc++rest):=by simp
  rw[e,List.length_cons,manyG_succ,h1,if_pos rfl];simp only[];rw[manyG_back l (out++[x]) rest fun y hy=>h y (by simp[hy])]
  simp
theorem many_back{α:Type}{one:List Int→α×List Int×Int}{enc:α→List Int}(l:List α)(hl:l.length≤65536)(h:∀x∈l,∀rest,one (enc x++rest)=(x,rest,0))(rest:List Int):manyE one (manyW enc l++rest)=(l,rest,0):=by
 unfold manyE manyW;rw[List.append_assoc,lenE_vint hl,if_pos rfl];simp only[Int.toNat_natCast];have:=manyG_back (one:=one) (enc:=enc) l [] rest h;rw[this];rfl
theorem sec_back(s:Sec)(rest:List Int):secE (secB s++rest)=(s,rest,0):=by
 unfold secE secB;rw[if_neg (by simp)]
 rfl
theorem wrt_back{w:Wrt}(h1:0≤w.1∧w.1≤9007199254740991)(h2:0≤w.2.1∧w.2.1≤9007199254740991)(h3:w.2.2.length≤65536)(rest:List Int):wrtE (wrtW w++rest)=(w,rest,0):=by
 unfold wrtE wrtW;rw[List.append_assoc,List.append_assoc];rw[intE_vintS h1.1 h1.2];simp only[];rw[intE_vintS h2.1 h2.2];simp only[];rw[many_back w.2.2 h3 (fun x _ rest=>sec_back x rest)]
 rfl
end Go.Proofs.YtpeldefimkdkdaaGreat
namespace Go.Proofs.YtpeldefimkdkdaaGreat
open Go.Proofs Go.AL
set_option maxRecDepth 100000
set_option maxHeartbeats 1000000
attribute [local irreducible] endA AW aops thenA blockA hold
attribute [local irreducible] numG
def curB(src:List Int):Blk:= .cells 267 1 [[.snap (encL byteRow src)]] true false
def curO{α:Type}(x:α×List Int×Int):Option Blk:=if x.2.2=0 then some (curB x.2.1)else none
theorem number_m(src:List Int)(hb:∀x∈src,ByteOK x)(hl:src.length≤100000)(id:Nat):MCall Tryz.prog 155 [.ptr id 0 0] id (curB src) (curO (intE src)) (.tup [zV (intE src).1,zV (intE src).2.2]) 100:=by
 refine mstart Tryz.func155 Tryz.ntmps155 ?_;intro N G hid hG0 hG;have hE:∀F,numG 8 src 0 0=F→intE src=if F.2.2=0 then(F.1,src.drop F.2.1,0)else(0,[],F.2.2):=fun F h=>by unfold intE;rw[h]
 generalize intE src=X at*;unfold curB at hG0;unfold curO curB;refine zgoM ?_;have hg:=gB src;generalize hF:numG 8 src 0 0=F at hE;have hX:∀F0,F=F0→X=if F0.2.2=0 then(F0.1,src.drop F0.2.1,0)else(0,[],F0.2.2):=fun F0 h=>by rw[←h];exact hE F rfl
 clear hE;refine zforB (α:=Int) (G:=G) 8 (fun k n=> [(7,true,zV k),(4,true,zV n),(0,true,.ptr id 0 0)]) (fun _ _=> []) (fun k m n=>(N≤m∧m≤N+50)∧numG (8-k) src k n=F∧0≤n∧n<2 ^ (7*k)) ⟨N,0,⟨⟨Nat.le_refl _,by omega⟩,hF,by decide,by decide⟩,zholdsB⟩ (fun k m n hk hR=> ?_) (fun m n hR=> ?_)
 ·obtain⟨h1,h2,h3,h4⟩:=hR
  have w0:IntKind.i64.wrap (7*(k:Int))=((7*k:Nat):Int):=by rw[IntWalk.i64_in _ (by omega)];omega
  by_cases g1:k<src.length
  ·have hx:=hb _ (getD_mem' 0 g1)
   obtain⟨w1,w2,w3,w4⟩:=step7 (b:=src.getD k 0) hk h3 h4;have a1:=and127 hx.1 hx.2;have a2:=and128 hx.1 hx.2;obtain⟨f,hf⟩:∃f,8-k=f+1:=⟨7-k,by omega⟩
   have hf2:8-(k+1)=f:=by omega
   rw[hf]at h2;have wm:min (7*k) 64=7*k:=by omega
   have hgk:=hg k g1;clear hb hg hF;generalize hv:src.getD k 0=b at*;rw[numG_succ,if_pos g1,hv]at h2;generalize hp0:(2:Int) ^ (7*k)=p at*;have hp:(2:Int) ^ min (7*k) 64=p:=by rw[wm,hp0]
   clear wm h4;generalize hq:b % 128*p=q at*;have w5:Lat (n+q<2 ^ (7*(k+1))):=⟨w4⟩;clear w4;by_cases g2:128≤b
   ·rw[if_pos g2]at a2
    have h5:Lat (numG (8-(k+1)) src (k+1) (n+q)=F):=⟨by rw[hf2,←h2,if_pos g2]⟩
    clear h2 hf2 hf;refine zgoM ?_;exact⟨m,_,⟨h1,h5.out,w3,w5.out⟩,zholdsB⟩
   ·rw[if_neg g2]at a2
    have h5:F=if(b=0∧0<k)∨9007199254740991<n+q then(0,0,3)else(n+q,k+1,0):=by
     rw[←h2,if_neg g2]
    clear h2 hf2 hf;by_cases g3:b=0∧0<k
    ·have h6:F=(0,0,3):=by rw[h5,if_pos (.inl g3)]
     obtain⟨g4,g5⟩:=g3;have g6:(0:Int)<k:=by omega
     have hY:=hX _ h6;rw[if_neg (by decide)]at hY
     clear hX;subst hY;clear h5 h6;rw[if_neg (by decide)]
     have hb0:(b==(0:Int))=true:=by rw[g4];rfl
     clear g4;refine zgoM ?_;exact zfinM
    ·by_cases g4:9007199254740991<n+q
     ·have h6:F=(0,0,3):=by rw[h5,if_pos (.inr g4)]
      have hY:=hX _ h6;rw[if_neg (by decide)]at hY
      clear hX;subst hY;clear h5 h6;rw[if_neg (by decide)]
      by_cases g5:b=0
      ·have g6:¬(0:Int)<k:=by omega
       clear g3;have hb0:(b==(0:Int))=true:=by rw[g5];rfl
       clear g5;refine zgoM ?_;exact zfinM
      ·clear g3
       refine zgoM ?_;exact zfinM
     ·have h6:F=(n+q,k+1,0):=by rw[h5,if_neg (by omega)]
      have hY:=hX _ h6;rw[if_pos rfl]at hY;clear hX;subst hY;clear h5 h6;rw[if_pos rfl];have e3:(src.drop (k+1)).take (src.length-(k+1))=src.drop (k+1):=List.take_of_length_le (by rw[List.length_drop];omega)
      by_cases g5:b=0
      ·have g6:¬(0:Int)<k:=by omega
       clear g3;have hb0:(b==(0:Int))=true:=by rw[g5];rfl
       clear g5;refine zgoM ?_;exact zfinM
      ·clear g3
       refine zgoM ?_;exact zfinM
  ·have h9:F=(0,0,10):=by rw[←h2,show 8-k=(7-k)+1 by omega];rw[numG_succ,if_neg g1]
   have hY:=hX _ h9;rw[if_neg (by decide)]at hY
   clear hX;subst hY;clear h9 h2;rw[if_neg (by decide)]
   refine zgoM ?_;exact zfinM
 ·have h9:F=(0,0,3):=by rw[←hR.2.1,Nat.sub_self,numG_zero]
  have hm:=hR.1;have hY:=hX _ h9;rw[if_neg (by decide)]at hY
  clear hX;subst hY;clear h9 hR;rw[if_neg (by decide)]
  refine zgoM ?_;exact zfinM
end Go.Proofs.YtpeldefimkdkdaaGreat
