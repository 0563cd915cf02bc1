/- Staging: contracts of its functions (Azf). No condition but those named. -/
import Derived.Test.YtioafciifiggaaaGreatDoorAze
import Derived.Test.YtioafciifiggaaaGreatDoorAzd
import Derived.Test.YtioafciifiggaaaGreatDoorAi
import Derived.Test.YtioafciifiggaaaGreatDoorLc
import Derived.Test.YtioafciifiggaaaGreatDoorAh
import Derived.KernelRfl
import Derived.Test.YtioafciifiggaaaGreatDoorAd
import Derived.Test.YtioafciifiggaaaGreatDoorLg
import Derived.Test.YtioafciifiggaaaGreatDoorAe
import Derived.Test.YtioafciifiggaaaGreatDoorAm
import Derived.Test.YtioafciifiggaaaGreatDoorAf
set_option linter.unusedVariables false
set_option linter.unusedSimpArgs false
namespace Go.Proofs.YtioafciifiggaaaGreatDoor
open Go.Proofs Go.AL
set_option maxRecDepth 100000
set_option maxHeartbeats 2000000
attribute [local irreducible] endA AW aops thenA blockA hold
attribute [local irreducible] numG
theorem fewD_ok34{d:Dsk}(h:fewD d=true):d.st.length≤400∧d.ca.length≤400:=by
 unfold fewD at h;simp only[Bool.and_eq_true,decide_eq_true_eq]at h;exact h
theorem store_out(d:Dsk)(a:Int)(p:List Int):(storeE d a p).1.length≤10∧∀w∈(storeE d a p).1,w.2.2.length≤2000:=by
 have h0:([]:List Wrt).length≤10∧∀w∈([]:List Wrt),w.2.2.length≤2000:=⟨by simp,fun w hw=>by simp at hw⟩
 unfold storeE;split
 ·split
  ·exact h0
  ·split
   ·exact h0
   ·refine⟨by simp,fun w hw=> ?_⟩
    simp only[List.mem_cons,List.not_mem_nil,or_false]at hw;rcases hw with rfl|rfl<;>simp[putS]
 ·exact h0
theorem rls_out(d:Dsk)(j:Jr)(n:Int):(rlsE d j n).1.sizes.length≤j.sizes.length∧(rlsE d j n).2.1.length≤10∧∀w∈(rlsE d j n).2.1,w.2.2.length≤2000:=by
 have h0:([]:List Wrt).length≤10∧∀w∈([]:List Wrt),w.2.2.length≤2000:=⟨by simp,fun w hw=>by simp at hw⟩
 have hz:zJr.sizes.length≤j.sizes.length:=Nat.zero_le _;unfold rlsE;split
 ·split
  ·split
   ·exact⟨hz,h0⟩
   ·split
    ·exact⟨Nat.le_refl _,h0⟩
    ·split
     ·refine⟨?_,store_out _ _ _⟩
      simp only[List.length_drop];omega
     ·exact⟨hz,h0⟩
  ·exact⟨hz,h0⟩
 ·exact⟨hz,h0⟩
theorem drp_out(d:Dsk){s:Stag}(n:Int)(hs:StagLen s):OutL (drpE d s n).1 (drpE d s n).2.1:=by
 have hr:=rls_out d s.j (lastG n s.cycles (jN s.j-1));have hz:OutL zStag []:=zOut;unfold drpE;split
 ·split
  ·split
   ·exact hz
   ·split
    ·refine⟨?_,?_,fun x hx=> ?_,hr.2.1,hr.2.2⟩
     ·have:=hs.sizes
      have:=hr.1;simp only[];omega
     ·have:=hs.cycles
      have:=List.length_filter_le (fun x:Stg=>decide (n<x.number)) s.cycles
      simp only[];omega
     ·exact(hs.one x ((List.mem_filter.1 hx).1)).l2
    ·exact hz
  ·exact hz
 ·exact hz
theorem lawD_p(d:Dsk)(s:Stag)(n:Int)(hd:DskOK d)(h1:d.st.length≤9223372036854775807)(h2:d.ca.length≤9223372036854775807)(hb:∀x∈s.cycles,∀p∈x.have_,∀y∈p,ByteOK y):PC 3 [.agg (encD d),.agg (encSt s),zV n] (bV true):=by
 refine pstart Tryz.func3 Tryz.ntmps3 (.c _) ?_;have c9:=awake_p;have c0:=fewD_p d h1 h2;have c1:=fewSt_p s;cases hf:fewD d with
 |false=>
  rw[hf]at c0;clear hb hd;obtain⟨st,ca⟩:=d;obtain⟨⟨js,jc,jh,jt,jf,jz⟩,l⟩:=s;unfold encSt encD at*;simp only[]at*;refine zgo2 ?_;exact zfin
 |true=>
  rw[hf]at c0;obtain⟨f1,f2⟩:=fewD_ok34 hf;cases hg:fewSt s with
  |false=>
   rw[hg]at c1;clear hb hd;obtain⟨st,ca⟩:=d;obtain⟨⟨js,jc,jh,jt,jf,jz⟩,l⟩:=s;unfold encSt encD at*;simp only[]at*;refine zgo2 ?_;exact zfin
  |true=>
   rw[hg]at c1;have hs:=fewSt_len hg hb;have c2:=drop_p d s n hs (by omega) (by omega) hd.new
   have c3:=qdrop_p d s n hs (by omega) (by omega) hd.new
   have ho:=drp_out d n hs;have c5:=sameSt_p (drpE d s n).1 (by have:=ho.sizes;omega) (by have:=ho.cycles;omega) ho.one
   have c6:=sameOps_p (drpE d s n).2.1 (by have:=ho.ops;omega) (fun w hw=>by have:=ho.data w hw;omega)
   clear hs hf hg hb hd ho;generalize drpE d s n=A at*;obtain⟨⟨⟨as_,ac,ah,at_,af,az⟩,al⟩,ao,ae⟩:=A;obtain⟨st,ca⟩:=d;obtain⟨⟨js,jc,jh,jt,jf,jz⟩,l⟩:=s;unfold encSt encD at*;simp only[]at*;obtain⟨d1,d1x⟩:=dself ae;refine zgo2 ?_;exact zfin
end Go.Proofs.YtioafciifiggaaaGreatDoor
namespace Go.Proofs.YtioafciifiggaaaGreatDoor
open Go.Proofs Go.AL
open Go.ChangeShapes Go.WideShapes Go.RowKit
def shSec:List Sh:=[shU,shU,shU,shU,shU,shU,shU,shU]
def shCa:List Sh:=shI::shSec
def shD:List Sh:=[.sl shSec,.sl shCa]
theorem open_sec(r:List AV)(h:CfR shSec r):∃s:Sec,SecOK s∧r=encSec s:=by
 obtain⟨a0,r,rfl,h0,g0⟩:=h.uncons;obtain⟨a1,r,rfl,h1,g1⟩:=g0.uncons;obtain⟨a2,r,rfl,h2,g2⟩:=g1.uncons;obtain⟨a3,r,rfl,h3,g3⟩:=g2.uncons;obtain⟨a4,r,rfl,h4,g4⟩:=g3.uncons;obtain⟨a5,r,rfl,h5,g5⟩:=g4.uncons;obtain⟨a6,r,rfl,h6,g6⟩:=g5.uncons;obtain⟨a7,r,rfl,h7,g7⟩:=g6.uncons;obtain rfl:=g7.unnil;obtain⟨n0,rfl,w0⟩:=h0.unint;obtain⟨n1,rfl,w1⟩:=h1.unint;obtain⟨n2,rfl,w2⟩:=h2.unint;obtain⟨n3,rfl,w3⟩:=h3.unint
 obtain⟨n4,rfl,w4⟩:=h4.unint;obtain⟨n5,rfl,w5⟩:=h5.unint;obtain⟨n6,rfl,w6⟩:=h6.unint;obtain⟨n7,rfl,w7⟩:=h7.unint;refine⟨((n0,n1,n2,n3),(n4,n5,n6,n7)),⟨⟨u8_of w0,u8_of w1,u8_of w2,u8_of w3⟩,fun x hx=> ?_⟩,rfl⟩
 simp only[d4,List.mem_cons,List.not_mem_nil,or_false]at hx;rcases hx with rfl|rfl|rfl|rfl
 ·exact u8_of w4
 ·exact u8_of w5
 ·exact u8_of w6
 ·exact u8_of w7
theorem open_secs{a:AV}(h:CfS (.sl shSec) a):∃l:List Sec,(∀s∈l,SecOK s)∧l.length≤maxLen∧a= .snap (encL encSec l):=sl_enc open_sec h
theorem open_ca(r:List AV)(h:CfR shCa r):∃x:Int×Sec,SecOK x.2∧r=encCa x:=by
 obtain⟨a0,r,rfl,h0,g0⟩:=h.uncons;obtain⟨n,rfl,hn⟩:=h0.unint;obtain⟨s,hs,rfl⟩:=open_sec r g0;exact⟨(n,s),hs,rfl⟩
theorem open_cas{a:AV}(h:CfS (.sl shCa) a):∃l:List (Int×Sec),(∀x∈l,SecOK x.2)∧l.length≤maxLen∧a= .snap (encL encCa l):=sl_enc open_ca h
theorem open_dsk(r:List AV)(h:CfR shD r):∃d:Dsk,(DskOK d∧d.st.length≤maxLen∧d.ca.length≤maxLen)∧r=encD d:=by
 obtain⟨a0,r,rfl,h0,g0⟩:=h.uncons;obtain⟨a1,r,rfl,h1,g1⟩:=g0.uncons;obtain rfl:=g1.unnil;obtain⟨st,w0,w1,rfl⟩:=open_secs h0;obtain⟨ca,w2,w3,rfl⟩:=open_cas h1;exact⟨⟨st,ca⟩,⟨⟨w0,w2⟩,w1,w3⟩,rfl⟩
theorem shpD:shp Tryz.prog 10 25=some shD:=by kernel_rfl
end Go.Proofs.YtioafciifiggaaaGreatDoor
namespace Go.Proofs.YtioafciifiggaaaGreatDoor
open Go.Proofs Go.AL
set_option maxRecDepth 100000
set_option maxHeartbeats 8000000
attribute [local irreducible] endA AW aops thenA blockA hold
instance :RowEnc recRow 3:=⟨fun _=>rfl,fun _=>rfl,fun x a ha=>by
 simp only[recRow,List.mem_cons,List.not_mem_nil,or_false]at ha;rcases ha with rfl|rfl|rfl
 ·exact .c _
 ·exact .c _
 ·exact encL_noId _⟩
end Go.Proofs.YtioafciifiggaaaGreatDoor
