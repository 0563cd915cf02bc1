/- Staging: contracts of its functions (Azf). No condition but those named. -/
import Derived.Test.YtpeldefimkdkdaaGreatAze
import Derived.Test.YtpeldefimkdkdaaGreatAz
import Derived.Test.YtpeldefimkdkdaaGreatLc
import Derived.KernelRfl
set_option linter.unusedVariables false
set_option linter.unusedSimpArgs false
namespace Go.Proofs.YtpeldefimkdkdaaGreat
open Go.Proofs Go.AL
set_option maxRecDepth 100000
set_option maxHeartbeats 8000000
attribute [local irreducible] endA AW aops thenA blockA hold
attribute [local irreducible] numG
theorem encC_sm(n:Int):encC (smC n)=[zV (n-1),zV n,zV 0,.snap [],.snap [[zV 0,zV 0,.snap [[uV (n % 256),uV 0,uV 0,uV 0,uV 0,uV 0,uV 0,uV 0]]]]]:=rfl
theorem small_p(n:Int)(h0: -100000≤n)(h1:n≤2000000000):PC 26 [zV n] (.agg (encC (smC n))):=by
 rw[encC_sm];refine pstartD Tryz.func26 Tryz.ntmps26 (by simp[noId_c,noId_agg,noId_snap]) ?_
 have hz8:encSec zSec=[uV 0,uV 0,uV 0,uV 0,uV 0,uV 0,uV 0,uV 0]:=rfl;have hu:=u8w n;have w:=IntWalk.i64_in (n-1) (by omega)
 refine zgo2 ?_;exact zfin2
theorem bytes_ok{l:List Int}(h:(l.all fun b=>decide (0≤b)&&decide (b<256))=true):∀x∈l,ByteOK x:=fun x hx=>by
 rw[List.all_eq_true]at h;have:=h x hx;simp only[Bool.and_eq_true,decide_eq_true_eq]at this;exact this
theorem smLen(n:Int):CycLen (smC n):=⟨by simp[smC],by simp[smC],by intro x hx;simp[smC]at hx;subst hx;simp⟩
theorem k_spl(n:Int)(hb:∀x∈cycW (smC n),ByteOK x)(hl:(cycW (smC n)).length≤100000):PC 24 [.agg (encC (smC n)),zV 10] (.tup [.snap (encL byteL (splE (smC n) 10).1),zV (splE (smC n) 10).2]):=
 split_p (smC n) 10 (smLen n) (by simp[smC]) (by simp[smC]) (by intro x hx;simp[smC]at hx;subst hx;simp) hl hb
theorem awake_p:PC 8 [] (bV true):=by
 refine pstart Tryz.func8 Tryz.ntmps8 (.c _) ?_;have c1:=small_p 3 (by decide) (by decide)
 have c2:=small_p 4 (by decide) (by decide)
 have c3:=k_spl 3 (bytes_ok (by kernel_rfl)) (Nat.le_of_ble_eq_true (by kernel_rfl))
 have c4:=k_spl 4 (bytes_ok (by kernel_rfl)) (Nat.le_of_ble_eq_true (by kernel_rfl))
 rw[fa1]at c3;rw[fa2]at c4;have c5:=sformat_p 0 100;rw[fa3.1,fa3.2]at c5;have c6:=stadd_p aS0 aP0 la0 (bytes_ok (by kernel_rfl)) (by decide)
 rw[fa4.1,fa4.2]at c6;have c7:=stadd_p aS1 aP1 la1 (bytes_ok (by kernel_rfl)) (by decide)
 rw[fa5.1,fa5.2]at c7;have c8:=stadd_p aS2 aQ1 la2 (bytes_ok (by kernel_rfl)) (by decide)
 rw[fa6.1,fa6.2]at c8;have c9:=stseal_p aS3 3 la3;rw[fa7.1,fa7.2.2]at c9;have hol:(sealS aS3 3).2.1.length=2:=fa7.2.1;have c10:=stseal_p aS4 4 la4;rw[fa8]at c10;have c11:=stcyc_p aS4 4 la4;rw[fa9]at c11;have c12:=stcyc_p aS4 3 la4;rw[fa10]at c12;have c13:=sealed_p aS4 la4;rw[fa11]at c13;have c14:FC 13 [.snap [[zV 1],[zV 2],[zV 4]],.snap [[zV 1],[zV 2],[zV 4]]] (bV true):=FCall.ofK (eqI_p [1,2,4] (by decide)) rfl
 have c15:FC 13 [.snap [[zV 3]],.snap [[zV 3]]] (bV true):=FCall.ofK (eqI_p [3] (by decide)) rfl
 have c16:=sameCy_p (smC 3) (by decide) (by decide) (by intro x hx;simp[smC]at hx;subst hx;simp)
 have h3:encL intRow [3]=[[zV 3]]:=rfl;rw[h3]at c13;have hP:encL byteL [aP0,aP1]=[[.snap (encL byteRow aP0)],[.snap (encL byteRow aP1)]]:=rfl;have hQ:encL byteL [aQ0,aQ1]=[[.snap (encL byteRow aQ0)],[.snap (encL byteRow aQ1)]]:=rfl;rw[hP]at c3;rw[hQ]at c4;have hl4:(encL stgRow aS4.cycles).length=2:=by rw[encL_len];rfl
 have hl5:aS4.cycles.length=2:=rfl;have hg4:(encL stgRow aS4.cycles)[0]? =some [zV 3,zV 2,zV 354186741,.snap (encL byteL [[2,3,0,0,1,0,0,1,3,0],[0,0,0,0,0,0]]),.snap (encL boolRow [true,true]),.snap [[zV 1],[zV 2],[zV 4]],bV true]:=rfl;generalize (sealS aS4 4).1=U1 at*;generalize (sealS aS4 4).2.1=U2 at*;generalize (sealS aS3 3).2.1=U3 at*;generalize (addS aS0 aP0).2.1=U4 at*;generalize (addS aS1 aP1).2.1=U5 at*
 generalize (addS aS2 aQ1).2.1=U6 at*;generalize (sfmE 0 100).2.1=U7 at*;generalize (stcE aS4 4).1=U8 at*;obtain⟨⟨us,uc,uh,ut,uf,uz⟩,ul⟩:=U1;obtain⟨vb,vn,vt,vp,vw⟩:=U8;have e3:encC (smC 3)=[zV 2,zV 3,zV 0,.snap [],.snap [[zV 0,zV 0,.snap [[uV 3,uV 0,uV 0,uV 0,uV 0,uV 0,uV 0,uV 0]]]]]:=rfl;have e4:encC (smC 4)=[zV 3,zV 4,zV 0,.snap [],.snap [[zV 0,zV 0,.snap [[uV 4,uV 0,uV 0,uV 0,uV 0,uV 0,uV 0,uV 0]]]]]:=rfl
 rw[e3]at c1 c3 c12 c16;rw[e4]at c2 c4;clear e3 e4;unfold encSt encC at*;simp only[]at*;clear hP hQ h3;refine zgo2 ?_;refine zdrawY ?_;refine zgo2 ?_;exact zfin
end Go.Proofs.YtpeldefimkdkdaaGreat
namespace Go.Proofs.YtpeldefimkdkdaaGreat
open Go.Proofs Go.AL
set_option maxRecDepth 100000
set_option maxHeartbeats 8000000
attribute [local irreducible] endA AW aops thenA blockA hold
attribute [local irreducible] numG
structure CyL(c:Cyc):Prop where
 pos:c.pos.length≤65536
 writes:c.writes.length≤65536
 one:∀o∈c.writes,o.2.2.length≤65536
theorem zCyL:CyL zCyc:=⟨by simp[zCyc],by simp[zCyc],fun o ho=>by simp[zCyc]at ho⟩
theorem decE_len(b:List Int):CyL (decE b).1:=by
 unfold decE;split
 ·exact zCyL
 ·have h1:=manyE_len (one:=intE) (intE (intE (intE b).2.1).2.1).2.1
  have h2:=manyE_len (one:=wrtE) (manyE intE (intE (intE (intE b).2.1).2.1).2.1).2.1
  have h3:=manyE_all (one:=wrtE) (p:=fun w=>w.2.2.length≤65536) (fun src h=>by
   unfold wrtE;split
   ·split
    ·exact manyE_len _
    ·simp[zWr]
   ·simp[zWr]) (manyE intE (intE (intE (intE b).2.1).2.1).2.1).2.1
  unfold decG;split
  ·split
   ·split
    ·split
     ·split
      ·split
       ·split
        ·exact⟨h1,h2,h3⟩
        ·exact zCyL
       ·exact zCyL
      ·exact zCyL
     ·exact zCyL
    ·exact zCyL
   ·exact zCyL
  ·exact zCyL
theorem acyE_len(a:Asm):CyL (acyE a).1:=by
 have:=decE_len a.have_.flatten;unfold acyE;split
 ·split
  ·split
   ·exact zCyL
   ·split
    ·split
     ·split
      ·exact this
      ·exact zCyL
     ·exact zCyL
    ·exact zCyL
  ·exact zCyL
 ·exact zCyL
theorem stcE_len(s:Stag)(n:Int):CyL (stcE s n).1:=by
 unfold stcE
 repeat (first|exact zCyL|exact acyE_len _|split)
theorem seaE_len(s:Stag):(seaE s).length≤s.cycles.length:=by
 unfold seaE;split
 ·rw[List.length_map];exact List.length_filter_le _ _
 ·simp
theorem fewSt_len{s:Stag}(h:fewSt s=true)(hb:∀x∈s.cycles,∀p∈x.have_,∀y∈p,ByteOK y):StagLen s:=by
 unfold fewSt fewX at h;simp only[Bool.and_eq_true,decide_eq_true_eq,List.all_eq_true]at h;obtain⟨⟨⟨h1,h2⟩,h0⟩,h3⟩:=h;refine⟨by omega,by omega,fun x hx=> ?_⟩
 obtain⟨⟨⟨⟨h4,h5⟩,h6⟩,-⟩,h7⟩:=h3 x hx;have h8:=sumL_le (n:=200) x.have_ (fun y hy=>h7 y hy)
 refine⟨⟨by show x.have_.length≤100000;omega,by show x.seen.length≤100000;omega,fun y hy=>⟨by have:=h7 y hy;omega,hb x hx y hy⟩,?_⟩,by omega⟩
 show sumL x.have_≤100000
 have:x.have_.length*200≤60*200:=Nat.mul_le_mul_right 200 h4;omega
theorem law3_p(s:Stag)(n:Int)(hb:∀x∈s.cycles,∀p∈x.have_,∀y∈p,ByteOK y):PC 3 [.agg (encSt s),zV n] (bV true):=by
 refine pstart Tryz.func3 Tryz.ntmps3 (.c _) ?_;have c9:=awake_p;have c0:=fewSt_p s;cases hf:fewSt s with
 |false=>
  rw[hf]at c0;clear hb;obtain⟨⟨js,jc,jh,jt,jf,jz⟩,l⟩:=s;unfold encSt at*;simp only[]at*;refine zgo2 ?_;exact zfin
 |true=>
  rw[hf]at c0;have hs:=fewSt_len hf hb;have c1:=stcyc_p s n hs;have c2:=qstcyc_p s n hs;have c3:=stchk_p s hs;have c4:=qstchk_p s hs;have c5:=sealed_p s hs;have c6:=qsealed_p s hs;have hl:=stcE_len s n;have c7:=sameCy_p (stcE s n).1 (by have:=hl.pos;omega) (by have:=hl.writes;omega) (fun o ho=>by have:=hl.one o ho;omega)
  have c8:=eqI_p (seaE s) (by have:=seaE_len s;have:=hs.cycles;omega)
  clear hs hl hf hb;obtain⟨⟨js,jc,jh,jt,jf,jz⟩,l⟩:=s;unfold encSt at*;simp only[]at*;generalize stcE ⟨⟨js,jc,jh,jt,jf,jz⟩,l⟩ n=C at*;generalize seaE ⟨⟨js,jc,jh,jt,jf,jz⟩,l⟩=S at*;generalize stgE ⟨⟨js,jc,jh,jt,jf,jz⟩,l⟩=e at*;obtain⟨⟨vb,vn,vt,vp,vw⟩,ce⟩:=C;unfold encC at*;simp only[]at*;obtain⟨d1,d1x⟩:=dself e;obtain⟨d2,d2x⟩:=dself ce;refine zgo2 ?_;exact zfin
structure OutL(s:Stag)(o:List Wrt):Prop where
 sizes:s.j.sizes.length≤100001
 cycles:s.cycles.length≤100001
 one:∀x∈s.cycles,StgL2 x
 ops:o.length≤10
 data:∀w∈o,w.2.2.length≤2000
theorem zOut:OutL zStag []:=⟨by simp[zStag,zJr],by simp[zStag],fun x hx=>by simp[zStag]at hx,by simp,fun w hw=>by simp at hw⟩
theorem ringW_data{a n p:Int}{l:List Sec}(hl:l.length≤1100):∀w∈ringW a n p l,w.2.2.length≤2000:=fun w hw=>by
 unfold ringW at hw;split at hw
 ·simp only[List.mem_cons,List.not_mem_nil,or_false]at hw
  rcases hw with rfl|rfl
  ·simp only[List.length_take];omega
  ·simp only[List.length_drop];omega
 ·simp only[List.mem_cons,List.not_mem_nil,or_false]at hw
  subst hw;simp only[];omega
theorem appE_ops(j:Jr)(k:Int)(p:List Int):(appE j k p).2.1.length≤10∧∀w∈(appE j k p).2.1,w.2.2.length≤2000:=by
 have h0:([]:List Wrt).length≤10∧∀w∈([]:List Wrt),w.2.2.length≤2000:=⟨by simp,fun w hw=>by simp at hw⟩
 unfold appE;split
 ·split
  ·split
   ·exact h0
   ·split
    ·exact h0
    ·simp only[]
     refine⟨?_,fun w hw=> ?_⟩
     ·have:=ringW_len j.start (j.count-16) j.tail (recE k (jN j) p).1
      rw[List.length_append];simp only[List.length_cons,List.length_nil];omega
     ·rcases List.mem_append.1 hw with h|h
      ·exact ringW_data recE_len w h
      ·simp only[List.mem_cons,List.not_mem_nil,or_false]at h
       subst h;simp
  ·exact h0
 ·exact h0
theorem added_out{s:Stag}{k:Int}{p:List Int}{x:Stg}(hs:StagLen s)(hx:StgL2 x):OutL (addedE s k p x).1 (addedE s k p x).2.1:=by
 have h1:=appE_ops s.j k p;unfold addedE;split
 ·refine⟨?_,?_,fun y hy=> ?_,h1.1,h1.2⟩
  ·have:=appE_len (j:=s.j) (k:=k) (p:=p)
   have:=hs.sizes;simp only[];omega
  ·have:=putSt_len s.cycles x
   have:=hs.cycles;simp only[];omega
  ·rcases putSt_mem hy with h|h
   ·subst h;exact hx
   ·exact(hs.one y h).l2
 ·exact zOut
theorem self_out{s:Stag}(hs:StagLen s):OutL s []:=⟨by have:=hs.sizes;omega,by have:=hs.cycles;omega,fun x hx=>(hs.one x hx).l2,by simp,fun w hw=>by simp at hw⟩
theorem add_out{s:Stag}{p:List Int}(hs:StagLen s)(hp:∀x∈p,ByteOK x):OutL (addS s p).1 (addS s p).2.1:=by
 unfold addS;split
 ·rename_i g
  obtain⟨-,-,h3⟩:=stgE_G g;have hcor:=stG_cor s.j _ _ _ h3;split
  ·split
   ·rename_i g3
    obtain⟨hi,-⟩:=fndB_lt g3;have hm:=getD_mem' zStg hi;have hx:=hs.one _ hm;have hxl:=corS_len (hcor _ hm);split
    ·split
     ·exact self_out hs
     ·exact added_out hs ⟨addE_OK hx.asm.ok hp,by unfold stgOf;simp only[List.length_append,List.length_cons,List.length_nil];omega⟩
    ·exact zOut
   ·split
    ·exact zOut
    ·exact added_out hs ⟨begE_OK hp,by simp[stgOf]⟩
  ·exact zOut
 ·exact zOut
theorem seal_out{s:Stag}{n:Int}(hs:StagLen s):OutL (sealS s n).1 (sealS s n).2.1:=by
 unfold sealS;split
 ·rename_i g
  obtain⟨-,-,h3⟩:=stgE_G g;have hcor:=stG_cor s.j _ _ _ h3;split
  ·rename_i g3
   obtain⟨hi,-⟩:=fndB_lt g3;have hm:=getD_mem' zStg hi;have hx:=hs.one _ hm;have hxl:=corS_len (hcor _ hm);split
   ·exact self_out hs
   ·split
    ·exact added_out hs ⟨hx.asm.ok,by unfold stgOf;simp only[List.length_append,List.length_cons,List.length_nil];omega⟩
    ·exact zOut
  ·exact zOut
 ·exact zOut
theorem law4_p(s:Stag)(p:List Int)(n:Int)(hb:∀x∈s.cycles,∀p∈x.have_,∀y∈p,ByteOK y)(hp:∀x∈p,ByteOK x):PC 4 [.agg (encSt s),.snap (encL byteRow p),zV n] (bV true):=by
 refine pstart Tryz.func4 Tryz.ntmps4 (.c _) ?_;have c9:=awake_p;have c0:=fewSt_p s;cases hf:fewSt s with
 |false=>
  rw[hf]at c0;clear hb hp;obtain⟨⟨js,jc,jh,jt,jf,jz⟩,l⟩:=s;unfold encSt at*;simp only[]at*;refine zgo2 ?_;exact zfin
 |true=>
  rw[hf]at c0;have hs:=fewSt_len hf hb;by_cases g:5000<p.length
  ·have g':(5000:Int)<p.length:=by omega
   clear hb hp hs hf;obtain⟨⟨js,jc,jh,jt,jf,jz⟩,l⟩:=s;unfold encSt at*;simp only[]at*;refine zgo2 ?_;exact zfin
  have g':¬(5000:Int)<p.length:=by omega
  have c1:=stadd_p s p hs hp (by omega)
  have c2:=qstadd_p s p hs hp (by omega)
  have c3:=stseal_p s n hs;have c4:=qstseal_p s n hs;have h1:=add_out hs hp;have h2:=seal_out (n:=n) hs;have c5:=sameSt_p (addS s p).1 (by have:=h1.sizes;omega) (by have:=h1.cycles;omega) h1.one
  have c6:=sameSt_p (sealS s n).1 (by have:=h2.sizes;omega) (by have:=h2.cycles;omega) h2.one
  have c7:=sameOps_p (addS s p).2.1 (by have:=h1.ops;omega) (fun w hw=>by have:=h1.data w hw;omega)
  have c8:=sameOps_p (sealS s n).2.1 (by have:=h2.ops;omega) (fun w hw=>by have:=h2.data w hw;omega)
  clear hs hf hb hp h1 h2;generalize addS s p=A at*;generalize sealS s n=B at*;obtain⟨⟨⟨as_,ac,ah,at_,af,az⟩,al⟩,ao,ae⟩:=A;obtain⟨⟨⟨bs,bc,bh,bt,bf,bz⟩,bl⟩,bo,be⟩:=B;obtain⟨⟨js,jc,jh,jt,jf,jz⟩,l⟩:=s;unfold encSt at*;simp only[]at*;obtain⟨d1,d1x⟩:=dself ae;obtain⟨d2,d2x⟩:=dself be;refine zgo2 ?_;exact zfin
end Go.Proofs.YtpeldefimkdkdaaGreat
namespace Go.Proofs.YtpeldefimkdkdaaGreat
open Go.Proofs Go.AL
open Go.ChangeShapes Go.WideShapes Go.RowKit
theorem u8_of{n:Int}(h:(Lit.int .u8 n).wf=true):ByteOK n:=by
 have:=Go.bounds_u8 h;exact⟨by omega,by omega⟩
abbrev shI:Sh:= .int .i64
abbrev shU:Sh:= .int .u8
def shX:List Sh:=[shI,shI,shI,.sl [.sl [shU]],.sl [.bool],.sl [shI],.bool]
def shSt:List Sh:=[shI,shI,shI,shI,shI,.sl [shI],.sl shX]
theorem open_i64{a:AV}(h:CfS shI a):∃n:Int,a=zV n:=by
 obtain⟨n,rfl,hn⟩:=h.unint;exact⟨n,rfl⟩
theorem open_int1(r:List AV)(h:CfR [shI] r):∃x:Int,True∧r=intRow x:=by
 obtain⟨a0,r,rfl,h0,g0⟩:=h.uncons;obtain rfl:=g0.unnil;obtain⟨n,rfl,hn⟩:=h0.unint;exact⟨n,trivial,rfl⟩
theorem open_ints{a:AV}(h:CfS (.sl [shI]) a):∃l:List Int,(∀x∈l,True)∧l.length≤maxLen∧a= .snap (encL intRow l):=sl_enc open_int1 h
theorem open_u81(r:List AV)(h:CfR [shU] r):∃x:Int,ByteOK x∧r=byteRow x:=by
 obtain⟨a0,r,rfl,h0,g0⟩:=h.uncons;obtain rfl:=g0.unnil;obtain⟨n,rfl,hn⟩:=h0.unint;exact⟨n,u8_of hn,rfl⟩
theorem open_u8s{a:AV}(h:CfS (.sl [shU]) a):∃l:List Int,(∀x∈l,ByteOK x)∧l.length≤maxLen∧a= .snap (encL byteRow l):=sl_enc open_u81 h
theorem open_pc1(r:List AV)(h:CfR [.sl [shU]] r):∃x:List Int,(∀y∈x,ByteOK y)∧r=byteL x:=by
 obtain⟨a0,r,rfl,h0,g0⟩:=h.uncons;obtain rfl:=g0.unnil;obtain⟨l,w0,w1,rfl⟩:=open_u8s h0;exact⟨l,w0,rfl⟩
theorem open_pcs{a:AV}(h:CfS (.sl [.sl [shU]]) a):∃l:List (List Int),(∀x∈l,∀y∈x,ByteOK y)∧l.length≤maxLen∧a= .snap (encL byteL l):=sl_enc open_pc1 h
theorem open_b1(r:List AV)(h:CfR [.bool] r):∃x:Bool,True∧r=boolRow x:=by
 obtain⟨a0,r,rfl,h0,g0⟩:=h.uncons;obtain rfl:=g0.unnil;obtain⟨b,rfl⟩:=h0.unbool;exact⟨b,trivial,rfl⟩
theorem open_bs{a:AV}(h:CfS (.sl [.bool]) a):∃l:List Bool,(∀x∈l,True)∧l.length≤maxLen∧a= .snap (encL boolRow l):=sl_enc open_b1 h
theorem open_x(r:List AV)(h:CfR shX r):∃x:Stg,(∀p∈x.have_,∀y∈p,ByteOK y)∧r=stgRow x:=by
 obtain⟨a0,r,rfl,h0,g0⟩:=h.uncons;obtain⟨a1,r,rfl,h1,g1⟩:=g0.uncons;obtain⟨a2,r,rfl,h2,g2⟩:=g1.uncons;obtain⟨a3,r,rfl,h3,g3⟩:=g2.uncons;obtain⟨a4,r,rfl,h4,g4⟩:=g3.uncons;obtain⟨a5,r,rfl,h5,g5⟩:=g4.uncons;obtain⟨a6,r,rfl,h6,g6⟩:=g5.uncons;obtain rfl:=g6.unnil;obtain⟨n,rfl⟩:=open_i64 h0;obtain⟨p,rfl⟩:=open_i64 h1;obtain⟨s,rfl⟩:=open_i64 h2;obtain⟨l,w0,w1,rfl⟩:=open_pcs h3;obtain⟨e,_,w2,rfl⟩:=open_bs h4
 obtain⟨q,_,w3,rfl⟩:=open_ints h5;obtain⟨c,rfl⟩:=h6.unbool;exact⟨⟨n,p,s,l,e,q,c⟩,w0,rfl⟩
theorem open_xs{a:AV}(h:CfS (.sl shX) a):∃l:List Stg,(∀x∈l,∀p∈x.have_,∀y∈p,ByteOK y)∧l.length≤maxLen∧a= .snap (encL stgRow l):=sl_enc open_x h
theorem open_st(r:List AV)(h:CfR shSt r):∃s:Stag,(∀x∈s.cycles,∀p∈x.have_,∀y∈p,ByteOK y)∧r=encSt s:=by
 obtain⟨a0,r,rfl,h0,g0⟩:=h.uncons;obtain⟨a1,r,rfl,h1,g1⟩:=g0.uncons;obtain⟨a2,r,rfl,h2,g2⟩:=g1.uncons;obtain⟨a3,r,rfl,h3,g3⟩:=g2.uncons;obtain⟨a4,r,rfl,h4,g4⟩:=g3.uncons;obtain⟨a5,r,rfl,h5,g5⟩:=g4.uncons;obtain⟨a6,r,rfl,h6,g6⟩:=g5.uncons;obtain rfl:=g6.unnil;obtain⟨js,rfl⟩:=open_i64 h0;obtain⟨jc,rfl⟩:=open_i64 h1;obtain⟨jh,rfl⟩:=open_i64 h2;obtain⟨jt,rfl⟩:=open_i64 h3;obtain⟨jf,rfl⟩:=open_i64 h4;obtain⟨jz,_,w1,rfl⟩:=open_ints h5
 obtain⟨l,w0,w2,rfl⟩:=open_xs h6;exact⟨⟨⟨js,jc,jh,jt,jf,jz⟩,l⟩,w0,rfl⟩
theorem shpSt:shp Tryz.prog 10 29=some shSt:=by kernel_rfl
theorem shpI:shp Tryz.prog 10 3=some [shI]:=by kernel_rfl
theorem shpB:shp Tryz.prog 10 46=some [.sl [shU]]:=by kernel_rfl
end Go.Proofs.YtpeldefimkdkdaaGreat
