/- Staging. No condition. -/
import Derived.Test.YtioafciifiggaaaGreatDoorL0
import Derived.Test.YtioafciifiggaaaGreatDoorAs
set_option linter.all false
namespace Go.Proofs.YtioafciifiggaaaGreatDoor
open Go.Proofs Go.AL
set_option maxRecDepth 100000
set_option maxHeartbeats 4000000
attribute [local irreducible] cB AW aX cZ dK hold
attribute [local irreducible] eV
theorem aq7(n:Int):b9 n≠[]:=fun h=>by
 unfold b9 at h;by_cases g:jC n<128
 ·rw[L5 g]at h;simp at h
 ·rw[PN g]at h;simp at h
theorem aq8(c:oO)(hc:LC c)(hp:c.pos.length<=100000)(hn:c.writes.length<=100000)(hw:∀x∈c.writes,x.2.2.length<=100000)(hl:(yU c).length<=100000):PC 65 [.agg (gT c)] (.aR [.snap (aA aH (rZ c).1),zV (rZ c).2]):=by
 refine aT Tryz.func65 Tryz.ntmps65 (by simp only[go_sem]) ?_
 have c0:=Lv;have c1:=Kt c vY (by decide) hc
 have hE:rZ c=if xE c vY=0 then(if 65536<(yU c).length then([],5)else(yU c,0))else([],xE c vY):=rfl
 have hW:yU c=b9 c.base++b9 c.number++b9 c.time++jQ b9 c.pos++jQ mX c.writes:=rfl;have hlW:(yU c).length=(b9 c.base).length+(b9 c.number).length+(b9 c.time).length+(jQ b9 c.pos).length+(jQ mX c.writes).length:=by rw[hW];simp only[cP]
 have v1:=rU c.base;have v2:=rU c.number;have v3:=rU c.time;have c2:=PQ c.base;have c3:=L8 (b9 c.base) c.number (by omega)
 have c4:=L8 (b9 c.base++b9 c.number) c.time (by rw[cP];omega)
 have Bm:b9 c.base++b9 c.number++b9 c.time≠[]:=fun h=>by
  have:=(List.append_eq_nil_iff.1 h).2;exact aq7 _ this
 have c5:=aq5 (b9 c.base++b9 c.number++b9 c.time) c.pos Bm (by simp only[cP];omega) hp
 have c6:=aq6 (b9 c.base++b9 c.number++b9 c.time++jQ b9 c.pos) c.writes (fun h=>Bm (List.append_eq_nil_iff.1 h).1) (by simp only[cP];omega) hn hw
 rw[<-hW]at c6;rw[x8]at c2;generalize hM:rZ c=M at*;generalize b9 c.base=b1 at*;generalize b1++b9 c.number=b2 at*;generalize b2++b9 c.time=b3 at*;generalize b3++jQ b9 c.pos=b4 at*;generalize yU c=b5 at*;generalize xE c vY=e at*;clear hc hw Bm hW hlW hM;obtain⟨cb,cn,ct,cp,cw⟩:=c;unfold gT at*;simp only[]at*;by_cases g1:e=0
 ·rw[if_pos g1]at hE
  subst g1;by_cases g2:65536<b5.length
  ·rw[if_pos g2]at hE
   subst hE;have CB:(65536:Int)<b5.length:=by omega
   refine aE ?_;refine eP 4 ?_;refine eQ ?_;refine aE ?_;exact aB
  ·rw[if_neg g2]at hE
   subst hE;have CB:¬(65536:Int)<b5.length:=by omega
   refine aE ?_;refine eP 4 ?_;refine eQ ?_;refine aE ?_;exact aB
 ·rw[if_neg g1]at hE
  subst hE;clear c2 c3 c4 c5 c6;refine aE ?_;exact aB
def wC(n i p s:Int):List Int:=b9 n++b9 i++b9 p++b9 s
theorem ar0(n i p s:Int):rT Tryz.prog 68 [.agg [zV n,zV p,zV s,zV i]] (.own 0 0 (aA aH (wC n i p s)).length) 5 1 (aA aH (wC n i p s)) true:=by
 refine PR Tryz.func68 Tryz.ntmps68 (L4 _) ?_;unfold wC;have v1:=rU n;have v2:=rU i;have v3:=rU p;have c2:=PQ n;have c3:=L8 (b9 n) i (by omega)
 have c4:=L8 (b9 n++b9 i) p (by rw[cP];omega)
 have c5:=L8 (b9 n++b9 i++b9 p) s (by simp only[cP];omega)
 rw[x8]at c2;generalize b9 n=b1 at*;generalize b1++b9 i=b2 at*;generalize b2++b9 p=b3 at*;generalize b3++b9 s=b4 at*;refine aE ?_;refine eP 5 ?_;refine eQ ?_;refine aE ?_;exact⟨_,iT,iT⟩
end Go.Proofs.YtioafciifiggaaaGreatDoor
