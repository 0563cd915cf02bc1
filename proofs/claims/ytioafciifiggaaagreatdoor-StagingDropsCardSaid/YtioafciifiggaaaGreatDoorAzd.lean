/- Staging: contracts of its functions (Azd). No condition but those named. -/
import Derived.Test.YtioafciifiggaaaGreatDoorAzc
import Derived.Test.YtioafciifiggaaaGreatDoorAz
import Derived.Test.YtioafciifiggaaaGreatDoorLc
import Derived.KernelRfl
import Derived.JoinedOf
import Derived.Test.YtioafciifiggaaaGreatDoorAe
import Derived.Test.YtioafciifiggaaaGreatDoorAi
import Derived.Test.YtioafciifiggaaaGreatDoorAg
import Derived.Test.YtioafciifiggaaaGreatDoorAh
set_option linter.unusedVariables false
set_option linter.unusedSimpArgs false
namespace Go.Proofs.YtioafciifiggaaaGreatDoor
open Go.Proofs Go.AL
set_option maxRecDepth 100000
set_option maxHeartbeats 8000000
attribute [local irreducible] endA AW aops thenA blockA hold
attribute [local irreducible] numG
theorem encC_sm(n:Int):encC (smC n)=[zV (n-1),zV n,zV 0,.snap [],.snap [[zV 0,zV 0,.snap [[uV (n % 256),uV 0,uV 0,uV 0,uV 0,uV 0,uV 0,uV 0]]]]]:=rfl
theorem small_p(n:Int)(h0: -100000≤n)(h1:n≤2000000000):PC 28 [zV n] (.agg (encC (smC n))):=by
 rw[encC_sm];refine pstartD Tryz.func28 Tryz.ntmps28 (by simp[noId_c,noId_agg,noId_snap]) ?_
 have hz8:encSec zSec=[uV 0,uV 0,uV 0,uV 0,uV 0,uV 0,uV 0,uV 0]:=rfl;have hu:=u8w n;have w:=IntWalk.i64_in (n-1) (by omega)
 refine zgo2 ?_;exact zfin2
theorem bytes_ok{l:List Int}(h:(l.all fun b=>decide (0≤b)&&decide (b<256))=true):∀x∈l,ByteOK x:=fun x hx=>by
 rw[List.all_eq_true]at h;have:=h x hx;simp only[Bool.and_eq_true,decide_eq_true_eq]at this;exact this
theorem smLen(n:Int):CycLen (smC n):=⟨by simp[smC],by simp[smC],by intro x hx;simp[smC]at hx;subst hx;simp⟩
theorem k_spl(n:Int)(hb:∀x∈cycW (smC n),ByteOK x)(hl:(cycW (smC n)).length≤100000):PC 27 [.agg (encC (smC n)),zV 10] (.tup [.snap (encL byteL (splE (smC n) 10).1),zV (splE (smC n) 10).2]):=
 split_p (smC n) 10 (smLen n) (by simp[smC]) (by simp[smC]) (by intro x hx;simp[smC]at hx;subst hx;simp) hl hb
theorem awake_p:PC 9 [] (bV true):=by
 refine pstart Tryz.func9 Tryz.ntmps9 (.c _) ?_;have c1:=small_p 3 (by decide) (by decide)
 have c2:=small_p 4 (by decide) (by decide)
 have c3:=k_spl 3 (bytes_ok (by kernel_rfl)) (Nat.le_of_ble_eq_true (by kernel_rfl))
 have c4:=k_spl 4 (bytes_ok (by kernel_rfl)) (Nat.le_of_ble_eq_true (by kernel_rfl))
 rw[fa1]at c3;rw[fa2]at c4;have c5:=sformat_p 0 100;rw[fa3.1,fa3.2]at c5;have c6:=stadd_p aS0 aP0 la0 (bytes_ok (by kernel_rfl)) (by decide)
 rw[fa4.1,fa4.2]at c6;have c7:=stadd_p aS1 aP1 la1 (bytes_ok (by kernel_rfl)) (by decide)
 rw[fa5.1,fa5.2]at c7;have c8:=stadd_p aS2 aQ1 la2 (bytes_ok (by kernel_rfl)) (by decide)
 rw[fa6.1,fa6.2]at c8;have c9:=stseal_p aS3 3 la3;rw[fa7.1,fa7.2.2]at c9;have hol:(sealS aS3 3).2.1.length=2:=fa7.2.1;have c10:=stseal_p aS4 4 la4;rw[fa8]at c10;have c11:=stcyc_p aS4 4 la4;rw[fa9]at c11;have c12:=stcyc_p aS4 3 la4;rw[fa10]at c12;have c13:=sealed_p aS4 la4;rw[fa11]at c13;have c14:FC 32 [.snap [[zV 1],[zV 2],[zV 4]],.snap [[zV 1],[zV 2],[zV 4]]] (bV true):=FCall.ofK (eqI_p [1,2,4] (by decide)) rfl
 have c15:FC 32 [.snap [[zV 3]],.snap [[zV 3]]] (bV true):=FCall.ofK (eqI_p [3] (by decide)) rfl
 have c16:=sameCy_p (smC 3) (by decide) (by decide) (by intro x hx;simp[smC]at hx;subst hx;simp)
 have h3:encL intRow [3]=[[zV 3]]:=rfl;rw[h3]at c13;have hP:encL byteL [aP0,aP1]=[[.snap (encL byteRow aP0)],[.snap (encL byteRow aP1)]]:=rfl;have hQ:encL byteL [aQ0,aQ1]=[[.snap (encL byteRow aQ0)],[.snap (encL byteRow aQ1)]]:=rfl;rw[hP]at c3;rw[hQ]at c4;have hl4:(encL stgRow aS4.cycles).length=2:=by rw[encL_len];rfl
 have hl5:aS4.cycles.length=2:=rfl;have hg4:(encL stgRow aS4.cycles)[0]? =some [zV 3,zV 2,zV 354186741,.snap (encL byteL [[2,3,0,0,1,0,0,1,3,0],[0,0,0,0,0,0]]),.snap (encL boolRow [true,true]),.snap [[zV 1],[zV 2],[zV 4]],bV true]:=rfl;generalize (sealS aS4 4).1=U1 at*;generalize (sealS aS4 4).2.1=U2 at*;generalize (sealS aS3 3).2.1=U3 at*;generalize (addS aS0 aP0).2.1=U4 at*;generalize (addS aS1 aP1).2.1=U5 at*
 generalize (addS aS2 aQ1).2.1=U6 at*;generalize (sfmE 0 100).2.1=U7 at*;generalize (stcE aS4 4).1=U8 at*;obtain⟨⟨us,uc,uh,ut,uf,uz⟩,ul⟩:=U1;obtain⟨vb,vn,vt,vp,vw⟩:=U8;have e3:encC (smC 3)=[zV 2,zV 3,zV 0,.snap [],.snap [[zV 0,zV 0,.snap [[uV 3,uV 0,uV 0,uV 0,uV 0,uV 0,uV 0,uV 0]]]]]:=rfl;have e4:encC (smC 4)=[zV 3,zV 4,zV 0,.snap [],.snap [[zV 0,zV 0,.snap [[uV 4,uV 0,uV 0,uV 0,uV 0,uV 0,uV 0,uV 0]]]]]:=rfl
 rw[e3]at c1 c3 c12 c16;rw[e4]at c2 c4;clear e3 e4;unfold encSt encC at*;simp only[]at*;clear hP hQ h3;refine zgo2 ?_;refine zdrawY ?_;refine zgo2 ?_;exact zfin
end Go.Proofs.YtioafciifiggaaaGreatDoor
namespace Go.Proofs.YtioafciifiggaaaGreatDoor
open Go.Proofs Go.AL
set_option maxRecDepth 100000
set_option maxHeartbeats 8000000
attribute [local irreducible] endA AW aops thenA blockA hold
attribute [local irreducible] numG
theorem fewSt_len{s:Stag}(h:fewSt s=true)(hb:∀x∈s.cycles,∀p∈x.have_,∀y∈p,ByteOK y):StagLen s:=by
 unfold fewSt fewX at h;simp only[Bool.and_eq_true,decide_eq_true_eq,List.all_eq_true]at h;obtain⟨⟨⟨h1,h2⟩,h0⟩,h3⟩:=h;refine⟨by omega,by omega,fun x hx=> ?_⟩
 obtain⟨⟨⟨⟨h4,h5⟩,h6⟩,-⟩,h7⟩:=h3 x hx;have h8:=sumL_le (n:=200) x.have_ (fun y hy=>h7 y hy)
 refine⟨⟨by show x.have_.length≤100000;omega,by show x.seen.length≤100000;omega,fun y hy=>⟨by have:=h7 y hy;omega,hb x hx y hy⟩,?_⟩,by omega⟩
 show sumL x.have_≤100000
 have:x.have_.length*200≤60*200:=Nat.mul_le_mul_right 200 h4;omega
structure OutL(s:Stag)(o:List Wrt):Prop where
 sizes:s.j.sizes.length≤100001
 cycles:s.cycles.length≤100001
 one:∀x∈s.cycles,StgL2 x
 ops:o.length≤10
 data:∀w∈o,w.2.2.length≤2000
theorem zOut:OutL zStag []:=⟨by simp[zStag,zJr],by simp[zStag],fun x hx=>by simp[zStag]at hx,by simp,fun w hw=>by simp at hw⟩
end Go.Proofs.YtioafciifiggaaaGreatDoor
namespace Go.Proofs.YtioafciifiggaaaGreatDoor
open Go.Proofs Go.AL
open Go.ChangeShapes Go.WideShapes Go.RowKit
theorem u8_of{n:Int}(h:(Lit.int .u8 n).wf=true):ByteOK n:=by
 have:=Go.bounds_u8 h;exact⟨by omega,by omega⟩
abbrev shI:Sh:= .int .i64
abbrev shU:Sh:= .int .u8
def shX:List Sh:=[shI,shI,shI,.sl [.sl [shU]],.sl [.bool],.sl [shI],.bool]
def shSt:List Sh:=[shI,shI,shI,shI,shI,.sl [shI],.sl shX]
theorem open_i64{a:AV}(h:CfS shI a):∃n:Int,a=zV n:=by
 obtain⟨n,rfl,hn⟩:=h.unint;exact⟨n,rfl⟩
theorem open_int1(r:List AV)(h:CfR [shI] r):∃x:Int,True∧r=intRow x:=by
 obtain⟨a0,r,rfl,h0,g0⟩:=h.uncons;obtain rfl:=g0.unnil;obtain⟨n,rfl,hn⟩:=h0.unint;exact⟨n,trivial,rfl⟩
theorem open_ints{a:AV}(h:CfS (.sl [shI]) a):∃l:List Int,(∀x∈l,True)∧l.length≤maxLen∧a= .snap (encL intRow l):=sl_enc open_int1 h
theorem open_u81(r:List AV)(h:CfR [shU] r):∃x:Int,ByteOK x∧r=byteRow x:=by
 obtain⟨a0,r,rfl,h0,g0⟩:=h.uncons;obtain rfl:=g0.unnil;obtain⟨n,rfl,hn⟩:=h0.unint;exact⟨n,u8_of hn,rfl⟩
theorem open_u8s{a:AV}(h:CfS (.sl [shU]) a):∃l:List Int,(∀x∈l,ByteOK x)∧l.length≤maxLen∧a= .snap (encL byteRow l):=sl_enc open_u81 h
theorem open_pc1(r:List AV)(h:CfR [.sl [shU]] r):∃x:List Int,(∀y∈x,ByteOK y)∧r=byteL x:=by
 obtain⟨a0,r,rfl,h0,g0⟩:=h.uncons;obtain rfl:=g0.unnil;obtain⟨l,w0,w1,rfl⟩:=open_u8s h0;exact⟨l,w0,rfl⟩
theorem open_pcs{a:AV}(h:CfS (.sl [.sl [shU]]) a):∃l:List (List Int),(∀x∈l,∀y∈x,ByteOK y)∧l.length≤maxLen∧a= .snap (encL byteL l):=sl_enc open_pc1 h
theorem open_b1(r:List AV)(h:CfR [.bool] r):∃x:Bool,True∧r=boolRow x:=by
 obtain⟨a0,r,rfl,h0,g0⟩:=h.uncons;obtain rfl:=g0.unnil;obtain⟨b,rfl⟩:=h0.unbool;exact⟨b,trivial,rfl⟩
theorem open_bs{a:AV}(h:CfS (.sl [.bool]) a):∃l:List Bool,(∀x∈l,True)∧l.length≤maxLen∧a= .snap (encL boolRow l):=sl_enc open_b1 h
theorem open_x(r:List AV)(h:CfR shX r):∃x:Stg,(∀p∈x.have_,∀y∈p,ByteOK y)∧r=stgRow x:=by
 obtain⟨a0,r,rfl,h0,g0⟩:=h.uncons;obtain⟨a1,r,rfl,h1,g1⟩:=g0.uncons;obtain⟨a2,r,rfl,h2,g2⟩:=g1.uncons;obtain⟨a3,r,rfl,h3,g3⟩:=g2.uncons;obtain⟨a4,r,rfl,h4,g4⟩:=g3.uncons;obtain⟨a5,r,rfl,h5,g5⟩:=g4.uncons;obtain⟨a6,r,rfl,h6,g6⟩:=g5.uncons;obtain rfl:=g6.unnil;obtain⟨n,rfl⟩:=open_i64 h0;obtain⟨p,rfl⟩:=open_i64 h1;obtain⟨s,rfl⟩:=open_i64 h2;obtain⟨l,w0,w1,rfl⟩:=open_pcs h3;obtain⟨e,_,w2,rfl⟩:=open_bs h4
 obtain⟨q,_,w3,rfl⟩:=open_ints h5;obtain⟨c,rfl⟩:=h6.unbool;exact⟨⟨n,p,s,l,e,q,c⟩,w0,rfl⟩
theorem open_xs{a:AV}(h:CfS (.sl shX) a):∃l:List Stg,(∀x∈l,∀p∈x.have_,∀y∈p,ByteOK y)∧l.length≤maxLen∧a= .snap (encL stgRow l):=sl_enc open_x h
theorem open_st(r:List AV)(h:CfR shSt r):∃s:Stag,(∀x∈s.cycles,∀p∈x.have_,∀y∈p,ByteOK y)∧r=encSt s:=by
 obtain⟨a0,r,rfl,h0,g0⟩:=h.uncons;obtain⟨a1,r,rfl,h1,g1⟩:=g0.uncons;obtain⟨a2,r,rfl,h2,g2⟩:=g1.uncons;obtain⟨a3,r,rfl,h3,g3⟩:=g2.uncons;obtain⟨a4,r,rfl,h4,g4⟩:=g3.uncons;obtain⟨a5,r,rfl,h5,g5⟩:=g4.uncons;obtain⟨a6,r,rfl,h6,g6⟩:=g5.uncons;obtain rfl:=g6.unnil;obtain⟨js,rfl⟩:=open_i64 h0;obtain⟨jc,rfl⟩:=open_i64 h1;obtain⟨jh,rfl⟩:=open_i64 h2;obtain⟨jt,rfl⟩:=open_i64 h3;obtain⟨jf,rfl⟩:=open_i64 h4;obtain⟨jz,_,w1,rfl⟩:=open_ints h5
 obtain⟨l,w0,w2,rfl⟩:=open_xs h6;exact⟨⟨⟨js,jc,jh,jt,jf,jz⟩,l⟩,w0,rfl⟩
theorem shpSt:shp Tryz.prog 10 33=some shSt:=by kernel_rfl
theorem shpI:shp Tryz.prog 10 3=some [shI]:=by kernel_rfl
end Go.Proofs.YtioafciifiggaaaGreatDoor
namespace Go.Proofs.YtioafciifiggaaaGreatDoor
open Go.Proofs Go.AL
set_option maxRecDepth 100000
set_option maxHeartbeats 1000000
attribute [local irreducible] endA AW aops thenA blockA hold
def npt(c:Cyc)(most:Nat):Nat:=nParts (encE c).1.length most
def pcN(c:Cyc)(most i:Nat):List Int:=pieceN (encE c).1 most i
def pA(c:Cyc)(most:Nat)(S:List Bool):Asm:=⟨c.number,((npt c most:Nat):Int),crc (encE c).1,(List.range (npt c most)).map (fun i=>if S.getD i false=true then pcN c most i else []),S⟩
def noS(c:Cyc)(most:Nat):List Bool:=List.replicate (npt c most) false
end Go.Proofs.YtioafciifiggaaaGreatDoor
namespace Go.Proofs.YtioafciifiggaaaGreatDoor
open Go.Proofs Go.AL
set_option maxRecDepth 100000
set_option maxHeartbeats 1000000
attribute [local irreducible] endA AW aops thenA blockA hold
def getS(l:List Stg)(n:Int):Option Stg:=if fndB l n=true then some (l.getD (fndI l n) zStg)else none
end Go.Proofs.YtioafciifiggaaaGreatDoor
namespace Go.Proofs.YtioafciifiggaaaGreatDoor
open Go.Proofs Go.AL
set_option maxRecDepth 100000
set_option maxHeartbeats 1000000
attribute [local irreducible] endA AW aops thenA blockA hold
structure Hv(s:Stag)(c:Cyc)(most:Nat)(S:List Bool):Prop where
 len:S.length=npt c most
 at_:∀y,getS s.cycles c.number=some y→asm y=pA c most S∧y.closed=false
 no:getS s.cycles c.number=none→S=noS c most
end Go.Proofs.YtioafciifiggaaaGreatDoor
namespace Go.Proofs.YtioafciifiggaaaGreatDoor
open Go.Proofs Go.AL
set_option maxRecDepth 100000
set_option maxHeartbeats 1000000
attribute [local irreducible] endA AW aops thenA blockA hold
theorem vint_len8(n:Int):(vint n).length≤8:=by
 refine vg_len 7 _ ?_;unfold clampN;split<;>omega
def aR0:Stag:=⟨⟨0,1200,0,0,1,[]⟩,[]⟩
theorem hv0(c:Cyc)(most:Nat):Hv aR0 c most (noS c most):=⟨by simp[noS],fun y hy=>(by cases hy),fun _=>rfl⟩
end Go.Proofs.YtioafciifiggaaaGreatDoor
namespace Go.AL
def jfL(P:Program)(f:FuncId)(fn:Func)(s:ChangeSpec)(c:OpenClaim):List Bool:=
 [c.wf (OpenSpec.ofChange s),laidOutB P,mapsRowed P,
 fn.params.all (P.readableRec ·),namedTie P c.named s.vars,
 (c.stops==[]),(P.stops==[]),(c.knobs==[]),(P.stopKnobs==[]),
 (c.inPlace==P.inPlace f),(c.unfollowed==P.unfollowed f),(c.recurses==P.recurses f),(c.named==P.varsNamed f),
 (c.maps==(fn.params.toList++s.plain.varTypes P).any (P.mapsRec ·)),(c.ifaces==(fn.params.toList++s.plain.varTypes P).any (P.ifacesRec ·)),(c.mapsOut==P.mapsAmong fn.resultTypes.toList),
 (c.loops==(fn.params.toList++s.plain.varTypes P).any (P.loopsFrom ·)),(c.wideKeys==(fn.params.toList++s.plain.varTypes P++fn.resultTypes.toList).any (P.wideKeysFrom ·)),
 s.vars.all (P.varReadable ·),fn.resultTypes.all (fun t=>P.readableRec t&&decide (t<P.types.size)),(c.ifacesOut==fn.resultTypes.toList.any (P.ifacesRec ·)),(c.loopsOut==fn.resultTypes.toList.any (P.loopsFrom ·)),(c.plainKeys==P.plainKeys),c.shortTexts.isNone,P.stopsHeard,P.mayEnter,(c.lifted==P.liftsFinal),(P.make==some c.make),(c.kinds==(if c.domain.isEmpty then []else fn.params.toList.map fun t=>match P.underlying t with|some (.int k)=>some k|_=>none)),(c.pinned==c.pinnedBy),
 (c.veiled==(fn.params.toList++s.plain.varTypes P++fn.resultTypes.toList).any (P.veiledRec ·)),c.veiledFits P fn.params.toList (fn.params.toList++s.plain.varTypes P++fn.resultTypes.toList)]
theorem joined_of{P:Program}{f:FuncId}{fn:Func}{s:ChangeSpec}{c:OpenClaim}(h:(jfL P f fn s c).all id=true):joinedFacts P f fn s c=true:=by
 unfold jfL at h;simp only[List.all_cons,List.all_nil,id,Bool.and_true,Bool.and_eq_true]at h;unfold joinedFacts;simp only[Bool.and_eq_true];obtain⟨h0,h1,h2,h3,h4,h5,h6,h7,h8,h9,h10,h11,h12,h13,h14,h15,h16,h17,h18,h19,h20,h21,h22,h23,h24,h25,h26,h27,h28,h29,h30,h31⟩:=h;exact⟨⟨⟨⟨⟨⟨⟨⟨⟨⟨⟨⟨⟨⟨⟨⟨⟨⟨⟨⟨⟨⟨⟨⟨⟨⟨⟨⟨⟨⟨⟨h0,h1⟩,h2⟩,h3⟩,h4⟩,h5⟩,h6⟩,h7⟩,h8⟩,h9⟩,h10⟩,h11⟩,h12⟩,h13⟩,h14⟩,h15⟩,h16⟩,h17⟩,h18⟩,h19⟩,h20⟩,h21⟩,h22⟩,h23⟩,h24⟩,h25⟩,h26⟩,h27⟩,h28⟩,h29⟩,h30⟩,h31⟩
theorem all_of{l:List Bool}(h:∀i,i<l.length→l.getD i true=true):l.all id=true:=by
 rw[List.all_eq_true];intro b hb;obtain⟨i,hi⟩:=List.mem_iff_getElem?.1 hb;obtain⟨h1,h2⟩:=List.getElem?_eq_some_iff.1 hi;have h3:=h i h1;rw[List.getD_eq_getElem?_getD,hi]at h3;exact h3
end Go.AL
namespace Go.Proofs.YtioafciifiggaaaGreatDoor
open Go.Proofs Go.AL
set_option maxRecDepth 100000
set_option maxHeartbeats 1000000
attribute [local irreducible] endA AW aops thenA blockA hold
structure Rec where
 kind:Int
 seq:Int
 pay:List Int
deriving instance DecidableEq for Rec
def recRow(r:Rec):List AV:=[zV r.kind,zV r.seq,.snap (encL byteRow r.pay)]
end Go.Proofs.YtioafciifiggaaaGreatDoor
namespace Go.Proofs.YtioafciifiggaaaGreatDoor
open Go.Proofs Go.AL
set_option maxRecDepth 100000
set_option maxHeartbeats 1000000
attribute [local irreducible] endA AW aops thenA blockA hold
def rlsH(j:Jr)(k:Nat):Int:=(j.head+(j.sizes.take k).sum) % (j.count-16)
def rlsE(d:Dsk)(j:Jr)(n:Int):Jr×List Wrt×Int:=
 if dskE d=0 then
  if jE j=0 then
   if n<j.first-1∨j.first+(j.sizes.length:Int)≤n then(zJr,[],2)
   else if n=j.first-1 then(j,[],0)
   else if(storeE d j.start (vint (rlsH j (n+1-j.first).toNat)++vint (n+1))).2=0 then
    (⟨j.start,j.count,rlsH j (n+1-j.first).toNat,j.tail,n+1,j.sizes.drop (n+1-j.first).toNat⟩,(storeE d j.start (vint (rlsH j (n+1-j.first).toNat)++vint (n+1))).1,0)
   else(zJr,[],(storeE d j.start (vint (rlsH j (n+1-j.first).toNat)++vint (n+1))).2)
  else(zJr,[],3)
 else(zJr,[],dskE d)
theorem rlsH_succ{j:Jr}{k:Nat}(hn:0<j.count-16)(hk:k<j.sizes.length):(rlsH j k+j.sizes.getD k 0) % (j.count-16)=rlsH j (k+1):=by
 unfold rlsH;rw[Int.emod_add_emod,take_snoc9 0 hk,List.sum_append,List.sum_cons,List.sum_nil,Int.add_zero,Int.add_assoc]
theorem rlsH_0{j:Jr}(h0:0≤j.head)(h1:j.head<j.count-16):rlsH j 0=j.head:=by
 unfold rlsH;rw[List.take_zero,List.sum_nil,Int.add_zero,Int.emod_eq_of_lt h0 h1]
theorem rlsH_in{j:Jr}{k:Nat}(hn:0<j.count-16):0≤rlsH j k∧rlsH j k<j.count-16:=⟨Int.emod_nonneg _ (by omega),Int.emod_lt_of_pos _ hn⟩
def lastG(n:Int):List Stg→Int→Int
 |[],m=>m
 |x::l,m=>if n<x.number then lastG n l (min m (x.records.headD 0-1))else lastG n l m
def drpE(d:Dsk)(s:Stag)(n:Int):Stag×List Wrt×Int:=
 if dskE d=0 then
  if stgE s=0 then
   if n<0∨1073741824<n then(zStag,[],2)
   else if(rlsE d s.j (lastG n s.cycles (jN s.j-1))).2.2=0 then
    (⟨(rlsE d s.j (lastG n s.cycles (jN s.j-1))).1,s.cycles.filter fun x=>decide (n<x.number)⟩,(rlsE d s.j (lastG n s.cycles (jN s.j-1))).2.1,0)
   else(zStag,[],(rlsE d s.j (lastG n s.cycles (jN s.j-1))).2.2)
  else(zStag,[],stgE s)
 else(zStag,[],dskE d)
end Go.Proofs.YtioafciifiggaaaGreatDoor
namespace Go.Proofs.YtioafciifiggaaaGreatDoor
open Go.Proofs Go.AL
set_option maxRecDepth 100000
set_option maxHeartbeats 1000000
attribute [local irreducible] endA AW aops thenA blockA hold
theorem pay_len(a b:Int):(vint a++vint b).length≤31:=by
 have:=vint_len8 a;have:=vint_len8 b;rw[List.length_append];omega
end Go.Proofs.YtioafciifiggaaaGreatDoor
namespace Go.Proofs.YtioafciifiggaaaGreatDoor
open Go.Proofs Go.AL
set_option maxRecDepth 100000
set_option maxHeartbeats 8000000
attribute [local irreducible] endA AW aops thenA blockA hold
attribute [local irreducible] numG
theorem rls_p(d:Dsk)(j:Jr)(n:Int)(hl:j.sizes.length≤100000)(hs:d.st.length≤1000000)(h2:d.ca.length≤1000000)(hk:∀s∈newL d.st d.ca,SecOK s):PC 37 [.agg (encD d),.agg (encJ j),zV n] (.tup [.agg (encJ (rlsE d j n).1),.snap (encL opRow (rlsE d j n).2.1),zV (rlsE d j n).2.2]):=by
 refine pstartD Tryz.func37 Tryz.ntmps37 (by simp only[go_sem,encJ]) ?_
 have c0:=dcheck_p d hs h2;have c1:=examine_p j hl;obtain⟨M,hM⟩:∃M,rlsE d j n=M:=⟨_,rfl⟩;rw[hM];unfold rlsE at hM;by_cases g0:dskE d=0
 case neg=>
  rw[if_neg g0]at hM;subst hM;have g0x:(dskE d !=0)=true:=by simpa using g0
  generalize dskE d=e at*;obtain⟨st,ca⟩:=d;obtain⟨js,jc,jh,jt,jf,jz⟩:=j;unfold encJ encS zJr encD at*;simp only[]at*;clear c1 hk;refine zgo2 ?_;exact zfin
 rw[if_pos g0]at hM;rw[g0]at c0;by_cases g1:jE j=0
 case neg=>
  rw[if_neg g1]at hM;subst hM;rw[decide_eq_false g1]at c1;obtain⟨st,ca⟩:=d;obtain⟨js,jc,jh,jt,jf,jz⟩:=j;unfold encJ encS zJr encD at*;simp only[]at*;clear g1 hk;refine zgo2 ?_;exact zfin
 rw[if_pos g1]at hM;rw[decide_eq_true g1]at c1;obtain⟨hv,e1,e2,e3,e4,e5,e6,e7⟩:=jE_ok g1;have h5:=validB_rng hv
 have hU:jU j=j.sizes.sum:=by
  unfold jU;rw[if_pos hv];have h9:=((jE_iff j hv).1 g1).2.1;have:=(useG_t (j.count-16) j.sizes 0 (by omega)).2 h9
  omega
 rw[hU]at c1;have c2:=jnxt_p j j.sizes.sum e3 (by omega) hl
 have c5:=jlen_p j.start j.count;rw[IntWalk.i64_in (j.count-16) (by omega)]at c5
 have w1:IntKind.i64.wrap (j.first-1)=j.first-1:=IntWalk.i64_in _ (by omega)
 clear hU;by_cases g2:n<j.first-1
 ·rw[if_pos (.inl g2)]at hM
  subst hM;obtain⟨st,ca⟩:=d;obtain⟨js,jc,jh,jt,jf,jz⟩:=j;unfold encJ encS zJr encD at*;simp only[]at*;clear c5 hk g1 hv e7 e5;refine zgo2 ?_;exact zfin
 by_cases g3:j.first+(j.sizes.length:Int)≤n
 ·rw[if_pos (.inr g3)]at hM
  subst hM;obtain⟨st,ca⟩:=d;obtain⟨js,jc,jh,jt,jf,jz⟩:=j;unfold encJ encS zJr encD at*;simp only[]at*;clear c5 hk g1 hv e7 e5;refine zgo2 ?_;exact zfin
 rw[if_neg (by omega)]at hM
 have w2:IntKind.i64.wrap (n-j.first)=n-j.first:=IntWalk.i64_in _ (by omega)
 obtain⟨k,hk2⟩:∃k:Nat,n+1-j.first=k:=⟨(n+1-j.first).toNat,by omega⟩
 have w3:IntKind.i64.wrap (n-j.first+1)=(k:Int):=by rw[IntWalk.i64_in _ (by omega)];omega
 rw[hk2,Int.toNat_natCast]at hM;have hall:=any_f e7;have hkl:k≤j.sizes.length:=by omega
 by_cases g4:n=j.first-1
 ·rw[if_pos g4]at hM
  subst hM
  have hk0:((k:Int)==0)=true:=by have:k=0:=by omega
                                 rw[this];rfl
  obtain⟨st,ca⟩:=d;obtain⟨js,jc,jh,jt,jf,jz⟩:=j;unfold encJ encS encD at*;simp only[]at*;clear hk g1 hv e7 e5 g4 hall c5 g0;by_cases hjz:jz=[]
  ·subst hjz
   refine zgo2 ?_;refine zin Tryz.func86 Tryz.ntmps86 ?_;refine zgo2 ?_;exact zfin2
  ·have hne:=isEmpty_f hjz
   have hjn:(∀row,row∈encL intRow jz→∀x,x∈row→NoId x)=True:=eq_true (encL_ids _);have hjx:=fun G k=>intRows_expo G k jz
   have hjt:jz.take jz.length=jz:=List.take_length;refine zgo2 ?_;refine zin Tryz.func86 Tryz.ntmps86 ?_;refine zgo2 ?_;exact zfin2
 rw[if_neg g4]at hM
 have hk0:((k:Int)==0)=false:=by have:k≠0:=by omega
                                 simpa using this
 have hjz:j.sizes≠[]:=fun e=>by rw[e]at hkl;simp at hkl;omega
 have hne:=isEmpty_f hjz;have hin:=fun i=>rlsH_in (j:=j) (k:=i) (by omega)
 have hsuc:=fun i (hi:i<j.sizes.length)=>rlsH_succ (j:=j) (k:=i) (by omega) hi
 have hz:=rlsH_0 (j:=j) e1 e2;have c6:=jpay_p (rlsH j k) (n+1);have c7:=sstore_p d j.start (vint (rlsH j k)++vint (n+1)) (by have:=pay_len (rlsH j k) (n+1);omega) hs h2 hk
 have hgz:=gI j.sizes;generalize hH:rlsH j=Hf at*;obtain⟨st,ca⟩:=d;obtain⟨js,jc,jh,jt,jf,jz⟩:=j;unfold encJ encS encD at*;simp only[]at*
 replace hin:=Lat.mk hin
 replace hsuc:=Lat.mk hsuc
 replace hall:=Lat.mk hall
 replace hgz:=Lat.mk hgz
 clear hk g1 hv e7 e5 hH;refine zgo2 ?_;refine zin Tryz.func86 Tryz.ntmps86 ?_;refine zgo2 ?_
 refine zfor (α:=Unit) k (fun i _=> [(61,true,zV i),(60,true,zV k),(59,true,.own 9 0 k),(12,true,.ptr 12 0 0),(10,true,.ptr 3 0 0),(13,true,zV k),(3,true,.ptr 0 0 0),(6,true,.ptr 2 0 0)])
  (fun i _=> [(0,some (.cells 25 2 [[.snap (encL encSec st),.snap (encL encCa ca)]] true false)),(2,some (.cells 30 6 [[zV 0,zV 0,zV 0,zV 0,zV 0,.c (.slice none 0 0)]] true false)),(3,some (.cells 134 9 [[zV js,zV jc,zV js,zV jc,zV jh,zV jt,zV jf,.snap (encL intRow jz),zV jz.sum]] true false)),(9,some (.cells 3 1 (encL intRow jz) true true)),(12,some (.cells 30 6 [[zV js,zV jc,zV (Hf i),zV jt,zV jf,.own 9 0 jz.length]] true false))])
  (fun i m _=>14≤m) ⟨100,(),by omega,?_⟩ (fun i m _ hi hm=> ?_) (fun m _ hm=> ?_)
 ·rw[hz]
  exact zholds
 ·have h3:=hin.out i
  have h4:=hin.out (i+1);have hs1:=hsuc.out i (by omega)
  have hg1:=hgz.out i (by omega)
  have hx:=hall.out _ (getD_mem' 0 (show i<jz.length by omega))
  clear hin hsuc hgz hall hM c6 c7;generalize jz.getD i 0=x at*;have w4:IntKind.i64.wrap (Hf i+x)=Hf i+x:=IntWalk.i64_in _ (by omega)
  have w6:¬jc-16=0:=by omega
  have w8:(Hf i+x).tmod (jc-16)=Hf (i+1):=by rw[Int.tmod_eq_emod_of_nonneg (by omega)];exact hs1
  have hw9:IntKind.i64.wrap (Hf (i+1))=Hf (i+1):=IntWalk.i64_in _ (by omega)
  refine zgo2 ?_;exact⟨m+60,(),by omega,zholds⟩
 ·have w5:IntKind.i64.wrap (jf+(k:Int))=n+1:=by rw[IntWalk.i64_in _ (by omega)];omega
  have hlk:jz.length-k=(jz.drop k).length:=by rw[List.length_drop]
  have hjn:(∀row,row∈encL intRow (jz.drop k)→∀x,x∈row→NoId x)=True:=eq_true (encL_ids _);have hjx:=fun G q=>intRows_expo G q (jz.drop k)
  have hjt:(jz.drop k).take (jz.drop k).length=jz.drop k:=List.take_length;clear hin hsuc hgz hall hz;generalize Hf k=H at*;generalize hst:storeE ⟨st,ca⟩ js (vint H++vint (n+1))=So at*;generalize vint H++vint (n+1)=V at*;obtain⟨so,se⟩:=So;simp only[]at*;by_cases g5:se=0
  ·rw[if_pos g5]at hM
   subst hM;subst g5;simp only[];clear hst;refine zgo2 ?_
   trace_state
   exact zfin2
  ·rw[if_neg g5]at hM
   subst hM;have g5x:(se !=0)=true:=by simpa using g5
   clear hst g5;unfold zJr;refine zgo2 ?_
   trace_state
   exact zfin2
end Go.Proofs.YtioafciifiggaaaGreatDoor
