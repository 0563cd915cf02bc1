/- Staging: contracts of its functions (As). No condition but those named. -/
import Derived.Test.YtpeldefimkdkdaaGreatAr
set_option linter.unusedVariables false
set_option linter.unusedSimpArgs false
namespace Go.Proofs.YtpeldefimkdkdaaGreat
open Go.Proofs Go.AL
set_option maxRecDepth 100000
set_option maxHeartbeats 4000000
attribute [local irreducible] endA AW aops thenA blockA hold
attribute [local irreducible] numG
theorem vint_ne(n:Int):vint n≠[]:=fun h=>by
 unfold vint at h;by_cases g:clampN n<128
 ·rw[vg_lt g]at h;simp at h
 ·rw[vg_ge g]at h;simp at h
theorem encode_p(c:Cyc)(hc:CycLen c)(hp:c.pos.length≤100000)(hn:c.writes.length≤100000)(hw:∀x∈c.writes,x.2.2.length≤100000)(hl:(cycW c).length≤100000):PC 68 [.agg (encC c)] (.tup [.snap (encL byteRow (encE c).1),zV (encE c).2]):=by
 refine pstart Tryz.func68 Tryz.ntmps68 (by simp only[go_sem]) ?_
 have c0:=largest_p;have c1:=cycheck_p c big8 (by decide) hc
 have hE:encE c=if cycE c big8=0 then(if 65536<(cycW c).length then([],5)else(cycW c,0))else([],cycE c big8):=rfl
 have hW:cycW c=vint c.base++vint c.number++vint c.time++manyW vint c.pos++manyW wrtW c.writes:=rfl;have hlW:(cycW c).length=(vint c.base).length+(vint c.number).length+(vint c.time).length+(manyW vint c.pos).length+(manyW wrtW c.writes).length:=by rw[hW];simp only[List.length_append]
 have v1:=vint_len c.base;have v2:=vint_len c.number;have v3:=vint_len c.time;have c2:=putInt_e c.base;have c3:=putInt_fo (vint c.base) c.number (by omega)
 have c4:=putInt_fo (vint c.base++vint c.number) c.time (by rw[List.length_append];omega)
 have hne3:vint c.base++vint c.number++vint c.time≠[]:=fun h=>by
  have:=(List.append_eq_nil_iff.1 h).2;exact vint_ne _ this
 have c5:=pInts_fo (vint c.base++vint c.number++vint c.time) c.pos hne3 (by simp only[List.length_append];omega) hp
 have c6:=pWrts_fo (vint c.base++vint c.number++vint c.time++manyW vint c.pos) c.writes (fun h=>hne3 (List.append_eq_nil_iff.1 h).1) (by simp only[List.length_append];omega) hn hw
 rw[←hW]at c6;rw[List.nil_append]at c2;generalize hM:encE c=M at*;generalize vint c.base=b1 at*;generalize b1++vint c.number=b2 at*;generalize b2++vint c.time=b3 at*;generalize b3++manyW vint c.pos=b4 at*;generalize cycW c=b5 at*;generalize cycE c big8=e at*;clear hc hw hne3 hW hlW hM;obtain⟨cb,cn,ct,cp,cw⟩:=c;unfold encC at*;simp only[]at*;by_cases g1:e=0
 ·rw[if_pos g1]at hE
  subst g1;by_cases g2:65536<b5.length
  ·rw[if_pos g2]at hE
   subst hE;have g2':(65536:Int)<b5.length:=by omega
   refine zgo2 ?_;refine w_rounds 4 ?_;refine w_round ?_;refine zgo2 ?_;exact zfin
  ·rw[if_neg g2]at hE
   subst hE;have g2':¬(65536:Int)<b5.length:=by omega
   refine zgo2 ?_;refine w_rounds 4 ?_;refine w_round ?_;refine zgo2 ?_;exact zfin
 ·rw[if_neg g1]at hE
  subst hE;clear c2 c3 c4 c5 c6;refine zgo2 ?_;exact zfin
def hdrW(n i p s:Int):List Int:=vint n++vint i++vint p++vint s
theorem hput_fo(n i p s:Int):FOCall Tryz.prog 71 [.agg [zV n,zV p,zV s,zV i]] (.own 0 0 (encL byteRow (hdrW n i p s)).length) 5 1 (encL byteRow (hdrW n i p s)) true:=by
 refine fostart Tryz.func71 Tryz.ntmps71 (byteK _) ?_;unfold hdrW;have v1:=vint_len n;have v2:=vint_len i;have v3:=vint_len p;have c2:=putInt_e n;have c3:=putInt_fo (vint n) i (by omega)
 have c4:=putInt_fo (vint n++vint i) p (by rw[List.length_append];omega)
 have c5:=putInt_fo (vint n++vint i++vint p) s (by simp only[List.length_append];omega)
 rw[List.nil_append]at c2;generalize vint n=b1 at*;generalize b1++vint i=b2 at*;generalize b2++vint p=b3 at*;generalize b3++vint s=b4 at*;refine zgo2 ?_;refine w_rounds 5 ?_;refine w_round ?_;refine zgo2 ?_;exact⟨_,zeq,zeq⟩
end Go.Proofs.YtpeldefimkdkdaaGreat
