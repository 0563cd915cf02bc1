/- Staging. No condition. -/
import Derived.Test.YtioafciifiggaaaGreatDoorL0
import Derived.Test.YtioafciifiggaaaGreatDoorAl
import Derived.Test.YtioafciifiggaaaGreatDoorAk
import Derived.Test.YtioafciifiggaaaGreatDoorLg
set_option linter.all false
namespace Go.Proofs.YtioafciifiggaaaGreatDoor
open Go.Proofs Go.AL
set_option maxRecDepth 100000
set_option maxHeartbeats 1000000
attribute [local irreducible] cH AW b9 dR eH hold
theorem Yg{a b:Nat}(ha:a<256)(hb:b<256):a ^^^ b<256:=Nat.xor_lt_two_pow (n:=8) ha hb
theorem bc2{a b:Nat}(ha:a<256)(hb:b<256):bits .xor .u8 (a:Int) (b:Int)=((a ^^^ b:Nat):Int):=by
 have h:bits .xor .u8 (a:Int) (b:Int)=IntKind.u8.wrap ((BitVec.ofInt 8 (a:Int) ^^^ BitVec.ofInt 8 (b:Int)).toNat:Int):=rfl;have h2:=Yg ha hb;rw[h,Tm,Tm,BitVec.toNat_xor,YX,YX,wC (by omega),wC (by omega),IntKind.wrap_u8]
 omega
def KY(r:mR)(x:Int):Nat:=(r.toNat % 256) ^^^ x.toNat
theorem Yh(r:mR){x:Int}(h:aV x):KY r x<256:=Yg (zO _ (by decide)) (by have:=h.2;omega)
theorem bc3(r:mR){x:Int}(h:aV x):bits .xor .u8 (IntKind.u8.wrap (nV r)) x=(KY r x:Nat):=by
 obtain⟨n,rfl,hn⟩:=Yc h;rw[IntKind.wrap_u8];have:nV r % 256=((r.toNat % 256:Nat):Int):=by unfold nV;omega
 rw[this,bc2 (zO _ (by decide)) hn]
 unfold KY;simp
theorem bc4(r:mR){x:Int}(h:aV x):BitVec.ofNat 32 (KY r x)=(r&&&0xFF#32) ^^^ BitVec.ofInt 32 x:=by
 have ht:=Yh r h;obtain⟨n,rfl,hn⟩:=Yc h;apply BitVec.eq_of_toNat_eq;have h1:255 % 2 ^ 32=2 ^ 8-1:=rfl;rw[YX,wC (by omega),BitVec.toNat_xor,BitVec.toNat_and,Tm,YX,YX,h1,Nat.and_two_pow_sub_one_eq_mod,wC (by omega:n<2 ^ 32)]
 unfold KY;simp
theorem bc5(r:mR){x:Int}(h:aV x):bits .xor .u32 ((nV r).fdiv (2 ^ min 8 32)) (nV (nK 8 (BitVec.ofNat 32 (KY r x))))=nV (nK 8 (r ^^^ BitVec.ofInt 32 x)):=by
 have h1:(nV r).fdiv (2 ^ min 8 32)=nV (r>>>8):=Xg r 8;rw[h1,Ab,bc4 r h,<-aZ1]
attribute [local irreducible] kX nK
theorem bc6(l:List Int)(hb:∀x∈l,aV x)(hl:l.length<=1000000):PC 141 [.c (.int .u32 0),.snap (aA aN l)] (.c (.int .u32 (fV l))):=by
 refine bI Tryz.func141 Tryz.ntmps141 (.c _) ?_;have hg:=gB l;have h0:bits .xor .u32 (if IntKind.u32.signed=true then-1 else IntKind.u32.max) 0=nV (~~~ 0#32):=Yd 0#32
 have c1:=bc1;have h1:(kX 256).take 256=kX 256:=eD (by rw[DC];decide)
 have h2:(kX 256).all AV.one=true:=Yf 256;have h3:(kX 0).drop 256=[]:=aG0 (by rw[DC];decide)
 have h5:(∀x∈kX 256,bK x)=True:=eq_true (Aj 256);have t0:=Ye;have tl:=DC;unfold fV;refine aG ?_;refine zS l.length 100 [(0,some (.cells 304 256 [kX 256] true false))] (fun k=> [(14,true,zV k),(13,true,zV l.length),(12,true,.snap (aA aN l)),(6,true,P3 (BP (~~~ 0#32) (l.take k))),(5,true,.ptr 0 0 0),(1,true,.snap (aA aN l))]) aT (fun k m hk hm=> ?_) (fun m hm=> ?_)
 ·have hx:=hb _ (cQ 0 hk)
  have k1:=bc3 (BP (~~~ 0#32) (l.take k)) hx;have k2:=Yh (BP (~~~ 0#32) (l.take k)) hx;have k3:=bc5 (BP (~~~ 0#32) (l.take k)) hx;rw[<-aZ2 hk]at k3;have k4:=Ai (k:=256) k2;rw[if_pos k2]at k4;have fD:=hg k hk;generalize KY (BP (~~~ 0#32) (l.take k)) (l.getD k 0)=i at*;generalize BP (~~~ 0#32) (l.take k)=r at*;generalize BP (~~~ 0#32) (l.take (k+1))=r' at*;clear h0 hb hg c1 h1 h2 h3 h5 t0 hx
  refine aG ?_;exact⟨m,hm,aT⟩
 ·rw[lI]
  have k1:=Yd (BP (~~~ 0#32) l);clear h0 hb hg c1 h1 h2 h3 h5 t0 tl;refine aG ?_;exact aC
theorem V4(l:List Int)(hb:∀x∈l,aV x)(hl:l.length<=1000000):PC 66 [.snap (aA aN l)] (.c (.int .u32 (fV l))):=by
 refine bI Tryz.func66 Tryz.ntmps66 (.c _) ?_;have c1:=bc6 l hb hl;refine aG ?_;exact aC
end Go.Proofs.YtioafciifiggaaaGreatDoor
namespace Go.Proofs.YtioafciifiggaaaGreatDoor
open Go.Proofs Go.AL
set_option maxRecDepth 100000
set_option maxHeartbeats 1000000
attribute [local irreducible] cH AW b9 dR eH hold
theorem bc7:PC 278 [.c (.int .u64 1),.c (.int .u64 8)] (.aU [.c (.int .u64 0),.c (.int .u64 8)]):=by
 refine bI Tryz.func278 Tryz.ntmps278 (.aU _ (by simp;exact⟨.c _,.c _⟩)) ?_
 have e1:bits .and .u64 1 4294967295=1:=by decide
 have e2:bits .and .u64 8 4294967295=8:=by decide
 have e3:bits .and .u64 0 4294967295=0:=by decide
 refine aG ?_;exact aC
theorem bc8:PC 236 [.c (.int .u64 1),.c (.int .u64 8)] (.aU [.c (.int .u64 0),.c (.int .u64 8)]):=by
 refine bI Tryz.func236 Tryz.ntmps236 (.aU _ (by simp;exact⟨.c _,.c _⟩)) ?_
 have c1:=bc7;refine aG ?_;exact aC
theorem Yi:PC 138 [] (.snap (aA bD xT)):=by
 refine bI Tryz.func138 Tryz.ntmps138 (kL _) ?_;have c1:=bc8;have n1:Nat.min 1 8=1:=rfl;have n2:Nat.min 1 7=1:=rfl;have n3:Nat.min 2 6=2:=rfl;have n4:Nat.min 4 4=4:=rfl;refine aD ?_;refine kA Tryz.func190 Tryz.ntmps190 ?_;refine aD ?_;refine kC 4 ?_;refine kM ?_;refine aD ?_;exact aC
end Go.Proofs.YtioafciifiggaaaGreatDoor
namespace Go.Proofs.YtioafciifiggaaaGreatDoor
open Go.Proofs Go.AL
set_option maxRecDepth 100000
set_option maxHeartbeats 1000000
attribute [local irreducible] cH AW b9 dR eH hold
attribute [local irreducible] jI
theorem bc9(src:List Int)(h:(jK src).2.2=0):(jK src).1.2.2.length<=65536:=by
 unfold jK at h⊢;split
 ·split
  ·exact V1 _
  ·simp[qT]
 ·simp[qT]
theorem bd0(b n t:Int)(s1 s2:List Int):OR ⟨b,n,t,(eI aP s1).1,(eI jK s2).1⟩:=
 ⟨by have:=V1 (one:=aP) s1;simp only[];omega,by have:=V1 (one:=jK) s2;simp only[];omega,fun w hw=>by
   have:=aZ4 (one:=jK) (p:=fun w=>w.2.2.length<=65536) (fun src h=>bc9 src h) s2 w hw
   omega⟩
theorem IM(e:Int)(N:Nat)(T:List (Nat×Option aI))(x0 x1 x2 x3 x4 a:AV):
  qD Tryz.prog 203 [.ptr 0 0 0,.ptr 1 0 0] ⟨N,cV ((0,some (.cells 79 5 [[x0,x1,x2,x3,x4]] true false))::(1,some (.cells 38 1 [[a]] true false))::T)⟩ (some (xS e))
   (fun H'=>H'=⟨N+1+1,cV ((0,some (.cells 79 5 [[zV 0,zV 0,zV 0,.c (.slice none 0 0),.c (.slice none 0 0)]] true false))::(1,some (.cells 38 1 [[zV e]] true false))::T)⟩):=aY1 e N (cV T) x0 x1 x2 x3 x4 a
theorem bd1(H:Heap):qD Tryz.prog 203 [.ptr 0 0 0,.ptr 1 0 0] H none (fun H'=>H'=H):=aY0 0 1 H.next H.get
theorem bd2(b:List Int)(hb:∀x∈b,aV x)(hl:b.length<=100000):PC 158 [.snap (aA aN b)] (.aU [.agg (mI (D8 b).1),zV (D8 b).2]):=by
 refine Ak Tryz.func158 Tryz.ntmps158 (by simp only[go_sem,mI]) ?_
 have c1:=D1 b hb hl;have k1:=tQ hb;have c2:=D1 (aP b).2.1 k1.1 (by omega)
 have k2:=tQ k1.1;have c3:=D1 (aP (aP b).2.1).2.1 k2.1 (by omega)
 have k3:=tQ k2.1;have c4:=bb2 (aP (aP (aP b).2.1).2.1).2.1 k3.1 (by omega)
 have k4:=Ad Im _ k3.1;have c5:=bb3 (eI aP (aP (aP (aP b).2.1).2.1).2.1).2.1 k4.1 (by omega)
 have c6:=Vl ⟨(aP b).1,(aP (aP b).2.1).1,(aP (aP (aP b).2.1).2.1).1,(eI aP (aP (aP (aP b).2.1).2.1).2.1).1,(eI jK (eI aP (aP (aP (aP b).2.1).2.1).2.1).2.1).1⟩ xT (by decide) (bd0 _ _ _ _ _)
 have c7:=Yi;have Yj:mI sX=[zV 0,zV 0,zV 0,.snap (aA bD []),.snap (aA bJ [])]:=rfl;have d1:=Ig 5;have d2:=Ih 5;have d3:=Ig 3;have d4:=Ih 3;have d5:=aX8;have cW:=V1 (one:=aP) (aP (aP (aP b).2.1).2.1).2.1;have A3:=V1 (one:=jK) (eI aP (aP (aP (aP b).2.1).2.1).2.1).2.1;obtain⟨M,hM⟩:∃M,D8 b=M:=⟨_,rfl⟩;rw[hM];unfold D8 at hM
 by_cases g0:65536<b.length
 ·rw[if_pos g0]at hM
  subst hM;clear c1 c2 c3 c4 c5 c6 c7 k1 k2 k3 k4 hb cW A3 d1 d3 d4 d5;have s:qX 2 3 (xS 5):=⟨⟩;refine sH ?_;refine IN (IM 5 _ _ _ _ _ _ _ _) ?_;refine bR ?_;exact aC
 rw[if_neg g0]at hM;clear d2;generalize eI jK (eI aP (aP (aP (aP b).2.1).2.1).2.1).2.1=W at*;generalize eI aP (aP (aP (aP b).2.1).2.1).2.1=L at*;generalize aP (aP (aP b).2.1).2.1=Z at*;generalize aP (aP b).2.1=Y at*;generalize aP b=X at*;obtain⟨x,xr,xe⟩:=X;obtain⟨y,yr,ye⟩:=Y;obtain⟨z,zr,ze⟩:=Z;obtain⟨l,lr,le⟩:=L;obtain⟨w,wr,we⟩:=W;unfold Ir at hM;simp only[]at*
 have q1:=k1.2;have q2:=k2.2;have q3:=k3.2;have q4:=k4.2;clear k1 k2 k3 k4 hb;by_cases g1:xe=0
 ·subst g1
  rw[if_pos rfl]at hM;by_cases g2:ye=0
  ·subst g2
   rw[if_pos rfl]at hM;by_cases g3:ze=0
   ·subst g3
    rw[if_pos rfl]at hM;by_cases g4:le=0
    ·subst g4
     rw[if_pos rfl]at hM;by_cases g5:we=0
     ·subst g5
      rw[if_pos rfl]at hM;by_cases g6:wr=[]
      ·subst g6
       rw[if_pos rfl]at hM;unfold mI at c6;simp only[]at c6;generalize zX ⟨x,y,z,l,w⟩ xT=ce at*;clear d4;by_cases g7:ce=0
       ·rw[if_pos g7]at hM
        subst hM g7;unfold mI;refine sH ?_;refine kC 4 ?_;refine kM ?_;refine sH ?_;refine lM (bd1 _) ?_;refine bR ?_;exact aC
       ·rw[if_neg g7]at hM
        subst hM;have d6:=OZ ce g7;have s:qX 14 3 (xS ce):=⟨⟩;have s2:qX (14+1000) 3 .nilIface:=⟨⟩;refine sH ?_;refine kC 4 ?_;refine kM ?_;refine sH ?_;refine Iv s2 ?_;refine sH ?_;refine IN (IM ce _ _ _ _ _ _ _ _) ?_;refine bR ?_;exact aC
      ·rw[if_neg g6]at hM
       subst hM;have g8:¬(wr.length:Int)=0:=by have:=O2.2 g6;omega
       clear c6;have s:qX 13 3 (xS 3):=⟨⟩;refine sH ?_;refine kC 4 ?_;refine kM ?_;refine sH ?_;refine IN (IM 3 _ _ _ _ _ _ _ _) ?_;refine bR ?_;exact aC
     ·rw[if_neg g5]at hM
      subst hM;clear c6 d4;have d6:=OZ we g5;have s:qX 12 1 (xS we):=⟨⟩;refine sH ?_;refine kC 4 ?_;refine kM ?_;refine sH ?_;refine IN (IM we _ _ _ _ _ _ _ _) ?_;refine bR ?_;exact aC
    ·rw[if_neg g4]at hM
     subst hM;clear c6 c5 d4;have d6:=OZ le g4;have s:qX 10 1 (xS le):=⟨⟩;refine sH ?_;refine kC 4 ?_;refine kM ?_;refine sH ?_;refine IN (IM le _ _ _ _ _ _ _ _) ?_;refine bR ?_;exact aC
   ·rw[if_neg g3]at hM
    subst hM;clear c6 c5 c4 d4;refine sH ?_;refine kC 4 ?_;refine kM ?_
    iterate 73 (refine P4 ?_)
    have d6:=OZ ze g3;have s:qX 7 1 (xS ze):=⟨⟩;refine sH ?_;refine IN (IM ze _ _ _ _ _ _ _ _) ?_;refine bR ?_;exact aC
  ·rw[if_neg g2]at hM
   subst hM;clear c6 c5 c4 c3 d4;refine sH ?_;refine kC 4 ?_;refine kM ?_
   iterate 46 (refine P4 ?_)
   have d6:=OZ ye g2;have s:qX 7 1 (xS ye):=⟨⟩;refine sH ?_;refine IN (IM ye _ _ _ _ _ _ _ _) ?_;refine bR ?_;exact aC
 ·rw[if_neg g1]at hM
  subst hM;clear c6 c5 c4 c3 c2 d4 d5;have d6:=OZ xe g1;have s:qX 7 1 (xS xe):=⟨⟩;refine sH ?_;refine kC 4 ?_;refine kM ?_;refine sH ?_;refine IN (IM xe _ _ _ _ _ _ _ _) ?_;refine bR ?_;exact aC
def P5(n i p s:Int):Bool:=decide (1<=n)&&decide (n<=1073741824)&&decide (i<p)&&decide (p<=65536)&&decide (s<=4294967295)
theorem bd3(n i p s:Int):PC 196 [.agg [zV n,zV p,zV s,zV i]] (bV (P5 n i p s)):=by
 refine bI Tryz.func196 Tryz.ntmps196 (.c _) ?_;unfold P5;refine aG ?_;exact aC
theorem bd4(n i p s:Int)(l:List Int):KX n i p s l↔(P5 n i p s=false\/l=[]\/4096<l.length):=by
 unfold KX P5;simp only[aG1,decide_eq_false_iff_not];constructor
 ·rintro(h|h|h|h|h|h|h)
  ·exact .inl (.inl (.inl (.inl (.inl (by omega)))))
  ·exact .inl (.inl (.inl (.inl (.inr (by omega)))))
  ·exact .inl (.inl (.inl (.inr (by omega))))
  ·exact .inl (.inl (.inr (by omega)))
  ·exact .inl (.inr (by omega))
  ·exact .inr (.inl h)
  ·exact .inr (.inr h)
 ·rintro(((((h|h)|h)|h)|h)|h|h)
  ·exact .inl (by omega)
  ·exact .inr (.inl (by omega))
  ·exact .inr (.inr (.inl (by omega)))
  ·exact .inr (.inr (.inr (.inl (by omega))))
  ·exact .inr (.inr (.inr (.inr (.inl (by omega)))))
  ·exact .inr (.inr (.inr (.inr (.inr (.inl h)))))
  ·exact .inr (.inr (.inr (.inr (.inr (.inr h)))))
theorem Yk(b:List Int):bZ b=Ah (aP b) (aP (aP b).2.1) (aP (aP (aP b).2.1).2.1) (aP (aP (aP (aP b).2.1).2.1).2.1):=rfl
theorem Iw(b:List Int)(hb:∀x∈b,aV x)(hl:b.length<=100000):PC 144 [.snap (aA aN b)] (.aU [.agg [zV (bZ b).1.number,zV (bZ b).1.parts,zV (bZ b).1.sum,zV (bZ b).1.index],.snap (aA aN (bZ b).1.piece),zV (bZ b).2]):=by
 refine bI Tryz.func144 Tryz.ntmps144 (by simp only[go_sem]) ?_
 have c1:=D1 b hb hl;have k1:=tQ hb;have c2:=D1 (aP b).2.1 k1.1 (by omega)
 have k2:=tQ k1.1;have c3:=D1 (aP (aP b).2.1).2.1 k2.1 (by omega)
 have k3:=tQ k2.1;have c4:=D1 (aP (aP (aP b).2.1).2.1).2.1 k3.1 (by omega)
 have k4:=tQ k3.1;have c5:=BL (aP (aP (aP (aP b).2.1).2.1).2.1).2.1 (by omega)
 have c6:=bd3 (aP b).1 (aP (aP b).2.1).1 (aP (aP (aP b).2.1).2.1).1 (aP (aP (aP (aP b).2.1).2.1).2.1).1;obtain⟨M,hM⟩:∃M,bZ b=M:=⟨_,rfl⟩;rw[hM];rw[Yk]at hM;generalize aP (aP (aP (aP b).2.1).2.1).2.1=V at*;generalize aP (aP (aP b).2.1).2.1=Z at*;generalize aP (aP b).2.1=Y at*;generalize aP b=X at*;obtain⟨x,xr,xe⟩:=X;obtain⟨y,yr,ye⟩:=Y;obtain⟨z,zr,ze⟩:=Z
 obtain⟨v,vr,ve⟩:=V;unfold Ah at hM;simp only[]at*;have q4:vr.length<=100000:=by omega
 clear k1 k2 k3 k4 hb;by_cases g1:xe=0
 ·subst g1
  rw[if_pos rfl]at hM;by_cases g2:ye=0
  ·subst g2
   rw[if_pos rfl]at hM;by_cases g3:ze=0
   ·subst g3
    rw[if_pos rfl]at hM;by_cases g4:ve=0
    ·subst g4
     rw[if_pos rfl]at hM;have A4:=bd4 x y z v vr;by_cases g5:P5 x y z v=false
     ·rw[if_pos (A4.2 (.inl g5))]at hM
      subst hM;rw[g5]at c6;clear A4 g5;unfold BQ;refine aG ?_;refine kC 5 ?_;refine kM ?_;refine aG ?_;exact aC
     ·have DD:P5 x y z v=true:=by simpa using g5
      rw[DD]at c6;by_cases g6:vr=[]
      ·rw[if_pos (A4.2 (.inr (.inl g6)))]at hM
       subst hM g6;clear A4 g5 DD;unfold BQ;refine aG ?_;refine kC 5 ?_;refine kM ?_;refine aG ?_;exact aC
      ·have g6':¬(vr.length:Int)<1:=by have:=O2.2 g6;omega
       by_cases g7:4096<vr.length
       ·rw[if_pos (A4.2 (.inr (.inr g7)))]at hM
        subst hM;have Ix:(4096:Int)<vr.length:=by omega
        clear A4 g5 DD;unfold BQ;refine aG ?_;refine kC 5 ?_;refine kM ?_;refine aG ?_;exact aC
       ·rw[if_neg (fun h=>by
         rcases A4.1 h with h|h|h
         ·exact g5 h
         ·exact g6 h
         ·exact g7 h)]at hM
        subst hM;have Ix:¬(4096:Int)<vr.length:=by omega
        clear A4 g5 DD;refine aD ?_;refine kC 5 ?_;refine kM ?_;refine aD ?_;exact aC
    ·rw[if_neg g4]at hM
     subst hM;clear c6 c5;unfold BQ;refine aG ?_;refine kC 5 ?_;refine kM ?_;refine aG ?_;exact aC
   ·rw[if_neg g3]at hM
    subst hM;clear c6 c5 c4;unfold BQ;refine aG ?_;refine kC 5 ?_;refine kM ?_;refine aG ?_;exact aC
  ·rw[if_neg g2]at hM
   subst hM;clear c6 c5 c4 c3;unfold BQ;refine aG ?_;refine kC 5 ?_;refine kM ?_;refine aG ?_;exact aC
 ·rw[if_neg g1]at hM
  subst hM;clear c6 c5 c4 c3 c2;unfold BQ;refine aG ?_;refine kC 5 ?_;refine kM ?_;refine aG ?_;exact aC
theorem Iy(b:List Int)(hb:∀x∈b,aV x)(hl:b.length<=100000):PC 69 [.snap (aA aN b)] (.aU [zV (bZ b).1.number,zV (bZ b).1.index,zV (bZ b).1.parts,zV (bZ b).2]):=by
 refine bI Tryz.func69 Tryz.ntmps69 (by simp only[go_sem]) ?_
 have c1:=Iw b hb hl;clear hb;refine aG ?_;exact aC
instance :wF dF 1:=⟨fun _=>rfl,fun _=>rfl,fun l x hx=>by
 simp only[dF,cG,jF,or_false]at hx;subst hx
 exact kL l⟩
@[go_sem] theorem cB7:(true==true)=true:=rfl
@[go_sem] theorem cB8:(true==false)=false:=rfl
@[go_sem] theorem cB9:(false==true)=false:=rfl
@[go_sem] theorem cC0:(false==false)=true:=rfl
@[go_sem] theorem cC1:(!true)=false:=rfl
@[go_sem] theorem cC2:(!false)=true:=rfl
theorem gHv(l:List (List Int))(k:Nat)(h:k<l.length):(aA dF l)[k]? =some (dF (l.getD k [])):=pD [] h
theorem IP(l:List Bool)(k:Nat)(h:k<l.length):(aA eJ l)[k]? =some (eJ (l.getD k false)):=pD false h
theorem Iz(a:nT)(hl:a.bS.length<=1000000)(cW:a.seen.length<=1000000)(A3:∀x∈a.bS,x.length<=1000000):PC 132 [.agg (iZ a)] (zV (qF a)):=by
 refine bI Tryz.func132 Tryz.ntmps132 (.c _) ?_;obtain⟨n,p,s,h,e⟩:=a;have hE:qF ⟨n,p,s,h,e⟩=if n<1\/1073741824<n\/p<1\/65536<p\/s<0\/4294967295<s\/(h.length:Int)≠p\/(e.length:Int)≠p then 3 else if(List.range h.length).all (D9 ⟨n,p,s,h,e⟩)=true then 0 else 3:=rfl
 have hp:∀i,D9 ⟨n,p,s,h,e⟩ i=((decide (0<(h.getD i []).length)==e.getD i false)&&decide ((h.getD i []).length<=4096)):=fun i=>rfl
 generalize qF ⟨n,p,s,h,e⟩=M at*;generalize D9 ⟨n,p,s,h,e⟩=q at*;unfold iZ;simp only[]at*;by_cases g:n<1
 ·rw[if_pos (.inl g)]at hE
  subst hE;clear A3 hp;refine aG ?_;exact aC
 have g1:¬(n<1):=g;clear g;by_cases g:1073741824<n
 ·rw[if_pos (.inr (.inl g))]at hE
  subst hE;clear A3 hp;refine aG ?_;exact aC
 have g2:¬(1073741824<n):=g;clear g;by_cases g:p<1
 ·rw[if_pos (.inr (.inr (.inl g)))]at hE
  subst hE;clear A3 hp;refine aG ?_;exact aC
 have g3:¬(p<1):=g;clear g;by_cases g:65536<p
 ·rw[if_pos (.inr (.inr (.inr (.inl g))))]at hE
  subst hE;clear A3 hp;refine aG ?_;exact aC
 have g4:¬(65536<p):=g;clear g;by_cases g:s<0
 ·rw[if_pos (.inr (.inr (.inr (.inr (.inl g)))))]at hE
  subst hE;clear A3 hp;refine aG ?_;exact aC
 have g5:¬(s<0):=g;clear g;by_cases g:4294967295<s
 ·rw[if_pos (.inr (.inr (.inr (.inr (.inr (.inl g))))))]at hE
  subst hE;clear A3 hp;refine aG ?_;exact aC
 have g6:¬(4294967295<s):=g;clear g;by_cases g:(h.length:Int)≠p
 ·rw[if_pos (.inr (.inr (.inr (.inr (.inr (.inr (.inl g)))))))]at hE
  subst hE;clear A3 hp;refine aG ?_;exact aC
 have g7:¬((h.length:Int)≠p):=g;clear g;by_cases g:(e.length:Int)≠p
 ·rw[if_pos (.inr (.inr (.inr (.inr (.inr (.inr (.inr g)))))))]at hE
  subst hE;clear A3 hp;refine aG ?_;exact aC
 have g8:¬((e.length:Int)≠p):=g;clear g
 rw[if_neg (by
  rintro(h|h|h|h|h|h|h|h)
  ·exact g1 h
  ·exact g2 h
  ·exact g3 h
  ·exact g4 h
  ·exact g5 h
  ·exact g6 h
  ·exact g7 h
  ·exact g8 h)]at hE
 have Ix:(h.length:Int)=p:=KD.1 g7;have g8':(e.length:Int)=p:=KD.1 g8;clear g7 g8;subst Ix;have A5:=gHv h;have sZ:=IP e;refine aG ?_;refine fK (α:=Unit) h.length (fun k _=> [(52,true,zV k),(51,true,zV h.length),(50,true,.snap (aA dF h)),(1,true,.ptr 0 0 0)]) (fun _ _=> [(0,some (.cells 161 5 [[zV n,zV h.length,zV s,.snap (aA dF h),.snap (aA eJ e)]] true false))]) (fun k m _=>1<=m/\∀i,i<k->q i=true) ⟨100,(),⟨by omega,fun i hi=>by omega⟩,aT⟩ (fun k m _ hk hR=> ?_) (fun m _ hR=> ?_)
 ·obtain⟨hm,hR⟩:=hR
  have k1:(aA dF h)[k]? =some [.snap (aA aN (h.getD k []))]:=A5 k hk;have k2:(aA eJ e)[k]? =some [bV (e.getD k false)]:=sZ k (by omega)
  have k3:=A3 _ (cQ [] hk);have EN:=hp k
  have cP:bB (q k=true->∀i,i<k+1->q i=true):=⟨fun hq i hi=>by
   rcases Nat.lt_succ_iff_lt_or_eq.1 hi with h|h
   ·exact hR i h
   ·subst h;exact hq⟩
  have EP:bB (q k=false->M=3):=⟨fun hq=>by rw[hE,if_neg];intro h5;rw[gK]at h5;rw[h5 k (by simpa using hk)]at hq;cases hq⟩
  clear A5 sZ hp hR hE A3;generalize h.getD k []=l at*;generalize e.getD k false=b at*;by_cases g9:0<l.length
  ·have g9':(0:Int)<l.length:=by omega
   cases b with
   |true=>
    by_cases Al:l.length<=4096
    ·have hq:q k=true:=by rw[EN];simp[g9,Al]
     have qZ:=bB.mk (cP.out hq);have bd7:¬(4096:Int)<l.length:=by omega
     clear EN cP EP hq;refine aG ?_;exact⟨m+60,(),⟨by omega,qZ.out⟩,aT⟩
    ·have hq:q k=false:=by rw[EN];simp[g9,Al]
     obtain rfl:=EP.out hq;have bd7:(4096:Int)<l.length:=by omega
     clear EN cP EP hq;refine aG ?_;exact aC
   |false=>
    have hq:q k=false:=by rw[EN];simp[g9]
    obtain rfl:=EP.out hq;clear EN cP EP hq;by_cases Al:(4096:Int)<l.length
    ·refine aG ?_
     exact aC
    ·refine aG ?_
     exact aC
  ·have g9':¬(0:Int)<l.length:=by omega
   have Al:¬(4096:Int)<l.length:=by omega
   cases b with
   |true=>
    have hq:q k=false:=by rw[EN];simp[g9]
    obtain rfl:=EP.out hq;clear EN cP EP hq;refine aG ?_;exact aC
   |false=>
    have hq:q k=true:=by rw[EN];simp[g9];omega
    have qZ:=bB.mk (cP.out hq);clear EN cP EP hq;refine aG ?_;exact⟨m+60,(),⟨by omega,qZ.out⟩,aT⟩
 ·rw[if_pos (gK.2 fun i hi=>hR.2 i (by simpa using hi))]at hE
  subst hE;clear hR A5 sZ hp A3;refine aG ?_;exact aC
end Go.Proofs.YtioafciifiggaaaGreatDoor
