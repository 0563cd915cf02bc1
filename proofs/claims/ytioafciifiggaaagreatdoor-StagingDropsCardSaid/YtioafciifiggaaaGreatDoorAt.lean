/- Staging: contracts of its functions (At). No condition but those named. -/
import Derived.Test.YtioafciifiggaaaGreatDoorAs
import Derived.Test.YtioafciifiggaaaGreatDoorLg
set_option linter.unusedVariables false
set_option linter.unusedSimpArgs false
namespace Go.Proofs.YtioafciifiggaaaGreatDoor
open Go.Proofs Go.AL
set_option maxRecDepth 100000
set_option maxHeartbeats 4000000
attribute [local irreducible] endA AW aops thenA blockA hold
attribute [local irreducible] numG
def stcE(s:Stag)(n:Int):Cyc×Int:=
 if stgE s=0 then
  if fndB s.cycles n=true then
   if(s.cycles.getD (fndI s.cycles n) zStg).closed=true then acyE (asm (s.cycles.getD (fndI s.cycles n) zStg))else(zCyc,12)
  else(zCyc,7)
 else(zCyc,stgE s)
def seaE(s:Stag):List Int:=if stgE s=0 then(s.cycles.filter Stg.closed).map Stg.number else []
theorem stgE_G{s:Stag}(h:stgE s=0):jE s.j=0∧s.cycles.length≤1024∧stG s.j none [] s.cycles=true:=by
 unfold stgE at h;by_cases g1:jE s.j=0
 ·rw[if_pos g1]at h
  by_cases g2:1024<s.cycles.length
  ·rw[if_pos g2]at h;exact absurd h (by decide)
  ·rw[if_neg g2]at h
   by_cases g3:stG s.j none [] s.cycles=true
   ·exact⟨g1,by omega,g3⟩
   ·rw[if_neg g3]at h;exact absurd h (by decide)
 ·rw[if_neg g1]at h;exact absurd h g1
theorem fndB_lt{l:List Stg}{n:Int}(h:fndB l n=true):fndI l n<l.length∧(l.getD (fndI l n) zStg).number=n:=by
 unfold fndB at h;rw[Bool.and_eq_true,decide_eq_true_eq,decide_eq_true_eq]at h;exact h
theorem stcyc_p(s:Stag)(n:Int)(hs:StagLen s):PC 31 [.agg (encSt s),zV n] (.tup [.agg (encC (stcE s n).1),zV (stcE s n).2]):=by
 refine pstart Tryz.func31 Tryz.ntmps31 (by simp only[go_sem,encC]) ?_
 have c1:=stchk_p s hs;have hzc:encC zCyc=[zV 0,zV 0,zV 0,.snap (encL intRow []),.snap (encL opRow [])]:=rfl;obtain⟨M,hM⟩:∃M,stcE s n=M:=⟨_,rfl⟩;rw[hM];unfold stcE at hM;have hG:= @stgE_G s;have hone:=hs.one;have hl:=hs.cycles;clear hs;obtain⟨j,l⟩:=s;unfold encSt at*;simp only[]at*;generalize stgE ⟨j,l⟩=e at*;by_cases g1:e=0
 case neg=>
  rw[if_neg g1]at hM;subst hM;clear hG hone;refine zgo ?_;exact zfin
 rw[if_pos g1]at hM;obtain⟨-,-,h3⟩:=hG g1;have hs:=stG_sort h3;subst g1;have c2:=sfind_p l n hs hl;clear hG h3 hs;have hg:=gSt l;by_cases g2:fndB l n=true
 case neg=>
  rw[if_neg g2]at hM;subst hM;have g2':fndB l n=false:=by simpa using g2
  rw[g2']at c2;clear hone hg g2 g2';generalize fndI l n=i at*;refine zgo ?_;exact zfin
 rw[if_pos g2]at hM;obtain⟨hi,-⟩:=fndB_lt g2;rw[g2]at c2;clear g2;generalize fndI l n=i at*;have hgi:=hg i hi;have hx:=hone _ (getD_mem' zStg hi);generalize l.getD i zStg=x at*;have c3:=asm_p x;have c4:=bcyc_p (asm x) hx.asm;generalize acyE (asm x)=cy at*;obtain⟨⟨cb,cn,ct,cp,cw⟩,ce⟩:=cy;clear hone hg hx;obtain⟨xn,xp,xs,xh,xe,xr,xc⟩:=x;rw[stgRow_eq]at hgi c3;unfold encA asm encC at*;simp only[]at*;cases xc with
 |false=>
  rw[if_neg (by decide)]at hM
  subst hM;clear c3 c4;refine zgo ?_;exact zfin
 |true=>
  rw[if_pos rfl]at hM;subst hM;refine zgo ?_;exact zfin
theorem sealed_p(s:Stag)(hs:StagLen s):PC 23 [.agg (encSt s)] (.snap (encL intRow (seaE s))):=by
 refine pstart Tryz.func23 Tryz.ntmps23 (by simp only[go_sem]) ?_
 have c1:=stchk_p s hs;obtain⟨M,hM⟩:∃M,seaE s=M:=⟨_,rfl⟩;rw[hM];unfold seaE at hM;have hl:=hs.cycles;clear hs;obtain⟨j,l⟩:=s;unfold encSt at*;simp only[]at*;generalize stgE ⟨j,l⟩=e at*;by_cases g1:e=0
 case neg=>
  rw[if_neg g1]at hM;subst hM;refine zgo ?_;exact zfin
 rw[if_pos g1]at hM;subst g1;have hg:=gSt l;refine zgo ?_;refine zfor (α:=Nat) l.length (fun k id=> [(12,true,zV k),(11,true,zV l.length),(10,true,.snap (encL stgRow l)),(3,true,oV1 (((l.take k).filter Stg.closed).map Stg.number).length id),(1,true,.ptr 0 0 0)]) (fun k id=>(0,some (.cells 33 7 [[zV j.start,zV j.count,zV j.head,zV j.tail,zV j.first,.snap (encL intRow j.sizes),.snap (encL stgRow l)]] true false))::oT1 3 1 (encL intRow (((l.take k).filter Stg.closed).map Stg.number)) (((l.take k).filter Stg.closed).map Stg.number).length id) (fun k m id=>(1≤m∧(((l.take k).filter Stg.closed).map Stg.number).length≤k)∧(0<(((l.take k).filter Stg.closed).map Stg.number).length→1≤id∧id<m)) ⟨100,0,⟨⟨by omega,by simp⟩,fun h=>absurd h (by simp)⟩,zholds⟩ (fun k m id hk hR=> ?_) (fun m id hR=> ?_)
 ·obtain⟨⟨hm,hlk⟩,hR⟩:=hR
  have hgk:=hg k hk;rw[stgRow_eq]at hgk;have htk:=take_snoc9 zStg hk;rw[htk,List.filter_append,List.map_append];clear htk hg hM;generalize l.getD k zStg=x at*;generalize ((l.take k).filter Stg.closed).map Stg.number=F at*;obtain⟨xn,xp,xs,xh,xe,xr,xc⟩:=x;simp only[]at*;cases xc with
  |false=>
   rw[show List.map Stg.number (List.filter Stg.closed [⟨xn,xp,xs,xh,xe,xr,false⟩])=[]from rfl,List.append_nil]
   cases hF:F.length with
   |zero=>
    have hF0:F=[]:=List.eq_nil_of_length_eq_zero hF;subst hF0;clear hR hF;refine zgo ?_;exact⟨m+20,0,⟨⟨by omega,by omega⟩,fun h=>absurd h (by simp)⟩,zholds⟩
   |succ q=>
    obtain⟨i1,i2⟩:=hR (by omega)
    clear hR;refine zgo ?_;exact⟨m+20,id,⟨⟨by omega,by omega⟩,fun _=>by omega⟩,zholds⟩
  |true=>
   rw[show List.map Stg.number (List.filter Stg.closed [⟨xn,xp,xs,xh,xe,xr,true⟩])=[xn]from rfl]
   cases hF:F.length with
   |zero=>
    have hF0:F=[]:=List.eq_nil_of_length_eq_zero hF;subst hF0;clear hR hF;refine zgo ?_;exact⟨m+20,m+1+1+1,⟨⟨by omega,by simp⟩,fun _=>by omega⟩,zholds⟩
   |succ q=>
    obtain⟨i1,i2⟩:=hR (by omega)
    have hF2:(F++[xn]).length=q+1+1:=by simp[hF]
    rw[hF2];clear hR hF2;refine zgo ?_;exact⟨m+20,m+1+1+1,⟨⟨by omega,by omega⟩,fun _=>by omega⟩,zholds⟩
 ·rw[List.take_length]at hR⊢
  rw[hM]at hR⊢;obtain⟨⟨hm,hlk⟩,hR⟩:=hR;clear hg hM;cases hF:M.length with
  |zero=>
   have hF0:M=[]:=List.eq_nil_of_length_eq_zero hF;subst hF0;clear hR hF;refine zgo ?_;exact zfin
  |succ q=>
   obtain⟨i1,i2⟩:=hR (by omega)
   have htk:M.take (q+1)=M:=List.take_of_length_le (by omega)
   refine zgo ?_;exact zfin
end Go.Proofs.YtioafciifiggaaaGreatDoor
namespace Go.Proofs.YtioafciifiggaaaGreatDoor
open Go.Proofs Go.AL
set_option maxRecDepth 100000
set_option maxHeartbeats 4000000
attribute [local irreducible] endA AW aops thenA blockA hold
attribute [local irreducible] numG
theorem byNo(l:List Int):∀row∈encL byteRow l,∀x∈row,NoId x:=fun row hr x hx=>by
 obtain⟨v,rfl⟩:=byteK l row hr x hx;exact .c v
theorem putInt_c(b:List Int)(n:Int)(hb:b.length≤100000)(id:Nat):CCall Tryz.prog 159 [.own id 0 b.length,zV n] id 5 1 (encL byteRow b) 5 1 (encL byteRow (b++vint n)):=
 ccall_of (byNo b) (byNo _) (fun a ha=>by simp only[List.mem_cons,List.not_mem_nil,or_false]at ha;subst ha;exact .c _) ((putInt_a b n hb (.own 0 0 b.length) [(0,some (.cells 5 1 (encL byteRow b) true true))] 1 ⟨clampN_le n,rfl,.inr ⟨0,by omega,rfl,rfl⟩⟩).mono fun r H ⟨i,h1,h2⟩=>⟨i,by rw[h1,encL_len],h2⟩) id
theorem flatMap_take{α:Type}(f:α→List Int)(d:α){l:List α}{k:Nat}(h:k<l.length):(l.take (k+1)).flatMap f=(l.take k).flatMap f++f (l.getD k d):=by
 rw[take_snoc9 d h,List.flatMap_append];simp
theorem flatMap_len{α:Type}(f:α→List Int)(l:List α)(k:Nat):((l.take k).flatMap f).length≤(l.flatMap f).length:=by
 conv=>rhs;rw[←List.take_append_drop k l]
 rw[List.flatMap_append,List.length_append];omega
theorem putInts_c(b:List Int)(l:List Int)(hb:b.length+(manyW vint l).length≤100000)(hl:l.length≤100000)(id:Nat):CCall Tryz.prog 193 [.own id 0 b.length,.snap (encL intRow l),.fn (.func 159) [] []] id 5 1 (encL byteRow b) 5 1 (encL byteRow (b++manyW vint l)):=by
 refine cstart Tryz.func193 Tryz.ntmps193 (byNo b) (byNo _) (fun a ha=> ?_) ?_ (id:=id)
 ·simp only[List.mem_cons,List.not_mem_nil,or_false]at ha
  rcases ha with rfl|rfl
  ·exact encL_noId _
  ·exact .fn _ _ _ (fun x hx=>absurd hx (by simp)) (fun x hx=>absurd hx (by simp))
 have c1:=putInt_c b l.length (by omega)
 have hml:(manyW vint l).length=(vint l.length).length+(l.flatMap vint).length:=by unfold manyW;rw[List.length_append]
 have hfl:=flatMap_len vint l;have hft:=fun k (h:k<l.length)=>flatMap_take vint 0 h
 have hM:b++manyW vint l=(b++vint l.length)++l.flatMap vint:=by unfold manyW;rw[List.append_assoc]
 rw[hM];have hbl:(b++vint l.length).length=b.length+(vint l.length).length:=List.length_append;generalize b++vint l.length=B at*;have hg:=gI l;clear hM;refine zgoC ?_;refine zfor (α:=Nat) l.length (fun k id=> [(15,true,zV k),(14,true,zV l.length),(13,true,.snap (encL intRow l)),(2,true,.fn (.func 159) [] []),(0,true,.own id 0 (B++(l.take k).flatMap vint).length)]) (fun k id=> [(id,some (.cells 5 1 (encL byteRow (B++(l.take k).flatMap vint)) true true))]) (fun k m id=>id<m) ⟨100,1,by omega,by simp only[List.take_zero,List.flatMap_nil,List.append_nil];exact zholds⟩ (fun k m id hk hR=> ?_) (fun m id hR=> ?_)
 ·have hgk:=hg k hk
  have h1:=hft k hk;have h2:=hfl (k+1);have h3:=hfl k;have c2:=putInt_c (B++(l.take k).flatMap vint) (l.getD k 0) (by rw[List.length_append];omega)
  rw[h1,←List.append_assoc];rw[h1,List.length_append]at h2;clear hft hfl hg c1 h1;generalize hF:B++(l.take k).flatMap vint=F at*;generalize hF2:F++vint (l.getD k 0)=F2 at*;generalize l.getD k 0=v at*;clear hF hF2;refine zgoC ?_;exact⟨m+20,m,by omega,zholds⟩
 ·rw[List.take_length]
  clear hft hfl hg c1;generalize B++l.flatMap vint=F at*;refine zgoC ?_;exact⟨id,zeq,zeq⟩
theorem putSec_c(b:List Int)(x:Sec)(hb:b.length≤100000)(id:Nat):CCall Tryz.prog 238 [.own id 0 b.length,.agg (encSec x)] id 5 1 (encL byteRow b) 5 1 (encL byteRow (b++secB x)):=by
 refine cstart Tryz.func238 Tryz.ntmps238 (byNo b) (byNo _) (fun a ha=> ?_) ?_ (id:=id)
 ·simp only[List.mem_cons,List.not_mem_nil,or_false]at ha
  subst ha;exact noId_agg.2 (sec_noId x)
 have hx:encSec x=[uV x.1.1,uV x.1.2.1,uV x.1.2.2.1,uV x.1.2.2.2,uV x.2.1,uV x.2.2.1,uV x.2.2.2.1,uV x.2.2.2.2]:=rfl;have hr:encL byteRow (b++secB x)=encL byteRow b++[[uV x.1.1],[uV x.1.2.1],[uV x.1.2.2.1],[uV x.1.2.2.2],[uV x.2.1],[uV x.2.2.1],[uV x.2.2.2.1],[uV x.2.2.2.2]]:=by simp[encL,secB,byteRow]
 have hl:(encL byteRow (b++secB x)).length=b.length+8:=by rw[encL_len];simp[secB]
 rw[hx,hl,hr];refine zgoC ?_;exact⟨2,zeq,zeq⟩
theorem gSec(l:List Sec)(k:Nat)(h:k<l.length):(encL encSec l)[k]? =some (encSec (l.getD k zSec)):=encL_get zSec h
theorem gWrt(l:List Wrt)(k:Nat)(h:k<l.length):(encL opRow l)[k]? =some (opRow (l.getD k (0,0,[]))):=encL_get (0,0,[]) h
theorem putSecs_c(b:List Int)(l:List Sec)(hb:b.length+(manyW secB l).length≤100000)(hl:l.length≤100000)(id:Nat):CCall Tryz.prog 237 [.own id 0 b.length,.snap (encL encSec l),.fn (.func 238) [] []] id 5 1 (encL byteRow b) 5 1 (encL byteRow (b++manyW secB l)):=by
 refine cstart Tryz.func237 Tryz.ntmps237 (byNo b) (byNo _) (fun a ha=> ?_) ?_ (id:=id)
 ·simp only[List.mem_cons,List.not_mem_nil,or_false]at ha
  rcases ha with rfl|rfl
  ·exact encL_noId _
  ·exact .fn _ _ _ (fun x hx=>absurd hx (by simp)) (fun x hx=>absurd hx (by simp))
 have c1:=putInt_c b l.length (by omega)
 have hml:(manyW secB l).length=(vint l.length).length+(l.flatMap secB).length:=by unfold manyW;rw[List.length_append]
 have hfl:=flatMap_len secB l;have hft:=fun k (h:k<l.length)=>flatMap_take secB zSec h
 have hM:b++manyW secB l=(b++vint l.length)++l.flatMap secB:=by unfold manyW;rw[List.append_assoc]
 rw[hM];have hbl:(b++vint l.length).length=b.length+(vint l.length).length:=List.length_append;generalize b++vint l.length=B at*;have hg:=gSec l;clear hM;refine zgoC ?_;refine zfor (α:=Nat) l.length (fun k id=> [(15,true,zV k),(14,true,zV l.length),(13,true,.snap (encL encSec l)),(2,true,.fn (.func 238) [] []),(0,true,.own id 0 (B++(l.take k).flatMap secB).length)]) (fun k id=> [(id,some (.cells 5 1 (encL byteRow (B++(l.take k).flatMap secB)) true true))]) (fun k m id=>id<m) ⟨100,1,by omega,by simp only[List.take_zero,List.flatMap_nil,List.append_nil];exact zholds⟩ (fun k m id hk hR=> ?_) (fun m id hR=> ?_)
 ·have hgk:=hg k hk
  have h1:=hft k hk;have h2:=hfl (k+1);have h3:=hfl k;have c2:=putSec_c (B++(l.take k).flatMap secB) (l.getD k zSec) (by rw[List.length_append];omega)
  rw[h1,←List.append_assoc];rw[h1,List.length_append]at h2;clear hft hfl hg c1 h1;generalize hF:B++(l.take k).flatMap secB=F at*;generalize hF2:F++secB (l.getD k zSec)=F2 at*;generalize l.getD k zSec=v at*;clear hF hF2;refine zgoC ?_;exact⟨m+20,m+1+1,by omega,zholds⟩
 ·rw[List.take_length]
  clear hft hfl hg c1;generalize B++l.flatMap secB=F at*;refine zgoC ?_;exact⟨id,zeq,zeq⟩
theorem opRow_eq(w:Wrt):opRow w=[zV w.1,zV w.2.1,.snap (encL encSec w.2.2)]:=rfl
theorem putWrt_c(b:List Int)(w:Wrt)(hb:b.length+(wrtW w).length≤100000)(hw:w.2.2.length≤100000)(id:Nat):CCall Tryz.prog 192 [.own id 0 b.length,.agg (opRow w)] id 5 1 (encL byteRow b) 5 1 (encL byteRow (b++wrtW w)):=by
 refine cstart Tryz.func192 Tryz.ntmps192 (byNo b) (byNo _) (fun a ha=> ?_) ?_ (id:=id)
 ·simp only[List.mem_cons,List.not_mem_nil,or_false]at ha
  subst ha
  exact noId_agg.2 fun x hx=>by
   rw[opRow_eq]at hx;simp only[List.mem_cons,List.not_mem_nil,or_false]at hx;rcases hx with rfl|rfl|rfl
   ·exact .c _
   ·exact .c _
   ·exact encL_noId _
 have hlw:(wrtW w).length=(vint w.1).length+(vint w.2.1).length+(manyW secB w.2.2).length:=by unfold wrtW;rw[List.length_append,List.length_append]
 have hbw:b++wrtW w=(b++vint w.1)++vint w.2.1++manyW secB w.2.2:=by unfold wrtW;simp only[List.append_assoc]
 have c1:=putInt_c b w.1 (by omega)
 have c2:=putInt_c (b++vint w.1) w.2.1 (by rw[List.length_append];omega)
 have c3:=putSecs_c (b++vint w.1++vint w.2.1) w.2.2 (by rw[List.length_append,List.length_append];omega) hw
 rw[hbw];generalize b++vint w.1=B1 at*;generalize B1++vint w.2.1=B2 at*;generalize B2++manyW secB w.2.2=B3 at*;clear hlw hbw hb;rw[opRow_eq];refine zgoC ?_;exact⟨_,zeq,zeq⟩
theorem putWrts_c(b:List Int)(l:List Wrt)(hb:b.length+(manyW wrtW l).length≤100000)(hl:l.length≤100000)(hw:∀x∈l,x.2.2.length≤100000)(id:Nat):CCall Tryz.prog 191 [.own id 0 b.length,.snap (encL opRow l),.fn (.func 192) [] []] id 5 1 (encL byteRow b) 5 1 (encL byteRow (b++manyW wrtW l)):=by
 refine cstart Tryz.func191 Tryz.ntmps191 (byNo b) (byNo _) (fun a ha=> ?_) ?_ (id:=id)
 ·simp only[List.mem_cons,List.not_mem_nil,or_false]at ha
  rcases ha with rfl|rfl
  ·exact encL_noId _
  ·exact .fn _ _ _ (fun x hx=>absurd hx (by simp)) (fun x hx=>absurd hx (by simp))
 have c1:=putInt_c b l.length (by omega)
 have hml:(manyW wrtW l).length=(vint l.length).length+(l.flatMap wrtW).length:=by unfold manyW;rw[List.length_append]
 have hfl:=flatMap_len wrtW l;have hft:=fun k (h:k<l.length)=>flatMap_take wrtW (0,0,[]) h
 have hM:b++manyW wrtW l=(b++vint l.length)++l.flatMap wrtW:=by unfold manyW;rw[List.append_assoc]
 rw[hM];have hbl:(b++vint l.length).length=b.length+(vint l.length).length:=List.length_append;generalize b++vint l.length=B at*;have hg:=gWrt l;clear hM;refine zgoC ?_;refine zfor (α:=Nat) l.length (fun k id=> [(15,true,zV k),(14,true,zV l.length),(13,true,.snap (encL opRow l)),(2,true,.fn (.func 192) [] []),(0,true,.own id 0 (B++(l.take k).flatMap wrtW).length)]) (fun k id=> [(id,some (.cells 5 1 (encL byteRow (B++(l.take k).flatMap wrtW)) true true))]) (fun k m id=>id<m) ⟨100,1,by omega,by simp only[List.take_zero,List.flatMap_nil,List.append_nil];exact zholds⟩ (fun k m id hk hR=> ?_) (fun m id hR=> ?_)
 ·have hgk:=hg k hk
  have h1:=hft k hk;have h2:=hfl (k+1);have h3:=hfl k;have h4:=hfl (k+1);have c2:=putWrt_c (B++(l.take k).flatMap wrtW) (l.getD k (0,0,[])) (by rw[h1,List.length_append]at h4;rw[List.length_append];omega) (hw _ (getD_mem' _ hk))
  rw[h1,←List.append_assoc];rw[h1,List.length_append]at h2;clear hft hfl hg c1 h1 h4;rw[opRow_eq]at hgk c2;generalize hF:B++(l.take k).flatMap wrtW=F at*;generalize hF2:F++wrtW (l.getD k (0,0,[]))=F2 at*;generalize l.getD k (0,0,[])=v at*;clear hF hF2;refine zgoC ?_;exact⟨m+20,m+1+1,by omega,zholds⟩
 ·rw[List.take_length]
  clear hft hfl hg c1;generalize B++l.flatMap wrtW=F at*;refine zgoC ?_;exact⟨id,zeq,zeq⟩
theorem pInts_fo(b:List Int)(l:List Int)(hne:b≠[])(hb:b.length+(manyW vint l).length≤100000)(hl:l.length≤100000):FOCall Tryz.prog 140 [.snap (encL byteRow b),.snap (encL intRow l)] (.own 0 0 (encL byteRow (b++manyW vint l)).length) 5 1 (encL byteRow (b++manyW vint l)) true:=by
 refine fostart Tryz.func140 Tryz.ntmps140 (byteK _) ?_;have c1:=cloneB_o b hne (by omega)
 have c2:=putInts_c b l hb hl;generalize b++manyW vint l=B at*;refine zgoC ?_;exact⟨_,zeq,zeq⟩
theorem pWrts_fo(b:List Int)(l:List Wrt)(hne:b≠[])(hb:b.length+(manyW wrtW l).length≤100000)(hl:l.length≤100000)(hw:∀x∈l,x.2.2.length≤100000):FOCall Tryz.prog 139 [.snap (encL byteRow b),.snap (encL opRow l)] (.own 0 0 (encL byteRow (b++manyW wrtW l)).length) 5 1 (encL byteRow (b++manyW wrtW l)) true:=by
 refine fostart Tryz.func139 Tryz.ntmps139 (byteK _) ?_;have c1:=cloneB_o b hne (by omega)
 have c2:=putWrts_c b l hb hl hw;generalize b++manyW wrtW l=B at*;refine zgoC ?_;exact⟨_,zeq,zeq⟩
end Go.Proofs.YtioafciifiggaaaGreatDoor
namespace Go.Proofs.YtioafciifiggaaaGreatDoor
open Go.Proofs Go.AL
set_option maxRecDepth 100000
set_option maxHeartbeats 4000000
attribute [local irreducible] endA AW aops thenA blockA hold
attribute [local irreducible] numG
theorem vint_ne(n:Int):vint n≠[]:=fun h=>by
 unfold vint at h;by_cases g:clampN n<128
 ·rw[vg_lt g]at h;simp at h
 ·rw[vg_ge g]at h;simp at h
theorem encode_p(c:Cyc)(hc:CycLen c)(hp:c.pos.length≤100000)(hn:c.writes.length≤100000)(hw:∀x∈c.writes,x.2.2.length≤100000)(hl:(cycW c).length≤100000):PC 65 [.agg (encC c)] (.tup [.snap (encL byteRow (encE c).1),zV (encE c).2]):=by
 refine pstart Tryz.func65 Tryz.ntmps65 (by simp only[go_sem]) ?_
 have c0:=largest_p;have c1:=cycheck_p c big8 (by decide) hc
 have hE:encE c=if cycE c big8=0 then(if 65536<(cycW c).length then([],5)else(cycW c,0))else([],cycE c big8):=rfl
 have hW:cycW c=vint c.base++vint c.number++vint c.time++manyW vint c.pos++manyW wrtW c.writes:=rfl;have hlW:(cycW c).length=(vint c.base).length+(vint c.number).length+(vint c.time).length+(manyW vint c.pos).length+(manyW wrtW c.writes).length:=by rw[hW];simp only[List.length_append]
 have v1:=vint_len c.base;have v2:=vint_len c.number;have v3:=vint_len c.time;have c2:=putInt_e c.base;have c3:=putInt_fo (vint c.base) c.number (by omega)
 have c4:=putInt_fo (vint c.base++vint c.number) c.time (by rw[List.length_append];omega)
 have hne3:vint c.base++vint c.number++vint c.time≠[]:=fun h=>by
  have:=(List.append_eq_nil_iff.1 h).2;exact vint_ne _ this
 have c5:=pInts_fo (vint c.base++vint c.number++vint c.time) c.pos hne3 (by simp only[List.length_append];omega) hp
 have c6:=pWrts_fo (vint c.base++vint c.number++vint c.time++manyW vint c.pos) c.writes (fun h=>hne3 (List.append_eq_nil_iff.1 h).1) (by simp only[List.length_append];omega) hn hw
 rw[←hW]at c6;rw[List.nil_append]at c2;generalize hM:encE c=M at*;generalize vint c.base=b1 at*;generalize b1++vint c.number=b2 at*;generalize b2++vint c.time=b3 at*;generalize b3++manyW vint c.pos=b4 at*;generalize cycW c=b5 at*;generalize cycE c big8=e at*;clear hc hw hne3 hW hlW hM;obtain⟨cb,cn,ct,cp,cw⟩:=c;unfold encC at*;simp only[]at*;by_cases g1:e=0
 ·rw[if_pos g1]at hE
  subst g1;by_cases g2:65536<b5.length
  ·rw[if_pos g2]at hE
   subst hE;have g2':(65536:Int)<b5.length:=by omega
   refine zgo2 ?_;refine w_rounds 4 ?_;refine w_round ?_;refine zgo2 ?_;exact zfin
  ·rw[if_neg g2]at hE
   subst hE;have g2':¬(65536:Int)<b5.length:=by omega
   refine zgo2 ?_;refine w_rounds 4 ?_;refine w_round ?_;refine zgo2 ?_;exact zfin
 ·rw[if_neg g1]at hE
  subst hE;clear c2 c3 c4 c5 c6;refine zgo2 ?_;exact zfin
def hdrW(n i p s:Int):List Int:=vint n++vint i++vint p++vint s
theorem hput_fo(n i p s:Int):FOCall Tryz.prog 68 [.agg [zV n,zV p,zV s,zV i]] (.own 0 0 (encL byteRow (hdrW n i p s)).length) 5 1 (encL byteRow (hdrW n i p s)) true:=by
 refine fostart Tryz.func68 Tryz.ntmps68 (byteK _) ?_;unfold hdrW;have v1:=vint_len n;have v2:=vint_len i;have v3:=vint_len p;have c2:=putInt_e n;have c3:=putInt_fo (vint n) i (by omega)
 have c4:=putInt_fo (vint n++vint i) p (by rw[List.length_append];omega)
 have c5:=putInt_fo (vint n++vint i++vint p) s (by simp only[List.length_append];omega)
 rw[List.nil_append]at c2;generalize vint n=b1 at*;generalize b1++vint i=b2 at*;generalize b2++vint p=b3 at*;generalize b3++vint s=b4 at*;refine zgo2 ?_;refine w_rounds 5 ?_;refine w_round ?_;refine zgo2 ?_;exact⟨_,zeq,zeq⟩
end Go.Proofs.YtioafciifiggaaaGreatDoor
