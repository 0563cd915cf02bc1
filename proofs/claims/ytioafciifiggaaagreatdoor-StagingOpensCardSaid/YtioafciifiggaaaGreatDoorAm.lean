/- Staging. No condition. -/
import Derived.Test.YtioafciifiggaaaGreatDoorL0
import Derived.Test.YtioafciifiggaaaGreatDoorAl
import Derived.Test.YtioafciifiggaaaGreatDoorAj
import Derived.Test.YtioafciifiggaaaGreatDoorLg
set_option linter.all false
namespace Go.Proofs.YtioafciifiggaaaGreatDoor
open Go.Proofs Go.AL
set_option maxRecDepth 100000
set_option maxHeartbeats 1000000
attribute [local irreducible] cB AW aX cZ dK hold
theorem Lt{a b:Nat}(ha:a<256)(hb:b<256):a ^^^ b<256:=Nat.xor_lt_two_pow (n:=8) ha hb
theorem al2{a b:Nat}(ha:a<256)(hb:b<256):bits .xor .u8 (a:Int) (b:Int)=((a ^^^ b:Nat):Int):=by
 have h:bits .xor .u8 (a:Int) (b:Int)=IntKind.u8.wrap ((BitVec.ofInt 8 (a:Int) ^^^ BitVec.ofInt 8 (b:Int)).toNat:Int):=rfl;have h2:=Lt ha hb;rw[h,YY,YY,BitVec.toNat_xor,PB,PB,D3 (by omega),D3 (by omega),IntKind.wrap_u8]
 omega
def HV(r:kD)(x:Int):Nat:=(r.toNat % 256) ^^^ x.toNat
theorem Lu(r:kD){x:Int}(h:aV x):HV r x<256:=Lt (PD _ (by decide)) (by have:=h.2;omega)
theorem al3(r:kD){x:Int}(h:aV x):bits .xor .u8 (IntKind.u8.wrap (nV r)) x=(HV r x:Nat):=by
 obtain⟨n,rfl,hn⟩:=Lp h;rw[IntKind.wrap_u8];have:nV r % 256=((r.toNat % 256:Nat):Int):=by unfold nV;omega
 rw[this,al2 (PD _ (by decide)) hn]
 unfold HV;simp
theorem al4(r:kD){x:Int}(h:aV x):BitVec.ofNat 32 (HV r x)=(r&&&0xFF#32) ^^^ BitVec.ofInt 32 x:=by
 have ht:=Lu r h;obtain⟨n,rfl,hn⟩:=Lp h;apply BitVec.eq_of_toNat_eq;have h1:255 % 2 ^ 32=2 ^ 8-1:=rfl;rw[PB,D3 (by omega),BitVec.toNat_xor,BitVec.toNat_and,YY,PB,PB,h1,Nat.and_two_pow_sub_one_eq_mod,D3 (by omega:n<2 ^ 32)]
 unfold HV;simp
theorem al5(r:kD){x:Int}(h:aV x):bits .xor .u32 ((nV r).fdiv (2 ^ min 8 32)) (nV (jH 8 (BitVec.ofNat 32 (HV r x))))=nV (jH 8 (r ^^^ BitVec.ofInt 32 x)):=by
 have h1:(nV r).fdiv (2 ^ min 8 32)=nV (r>>>8):=Aa r 8;rw[h1,Q4,al4 r h,<-ai3]
attribute [local irreducible] jS jH
theorem al6(l:List Int)(hb:∀x∈l,aV x)(hl:l.length<=1000000):PC 141 [.c (.int .u32 0),.snap (aA aH l)] (.c (.int .u32 (eO l))):=by
 refine aT Tryz.func141 Tryz.ntmps141 (.c _) ?_;have hg:=gB l;have h0:bits .xor .u32 (if IntKind.u32.signed=true then-1 else IntKind.u32.max) 0=nV (~~~ 0#32):=V5 0#32
 have c1:=al1;have h1:(jS 256).take 256=jS 256:=cR (by rw[A9];decide)
 have h2:(jS 256).all AV.one=true:=Ls 256;have h3:(jS 0).drop 256=[]:=Yi (by rw[A9];decide)
 have h5:(∀x∈jS 256,bJ x)=True:=eq_true (V7 256);have t0:=Lr;have tl:=A9;unfold eO;refine aD ?_;refine tM l.length 100 [(0,some (.cells 304 256 [jS 256] true false))] (fun k=> [(14,true,zV k),(13,true,zV l.length),(12,true,.snap (aA aH l)),(6,true,C9 (uL (~~~ 0#32) (l.take k))),(5,true,.ptr 0 0 0),(1,true,.snap (aA aH l))]) aN (fun k m hk hm=> ?_) (fun m hm=> ?_)
 ·have hx:=hb _ (dC 0 hk)
  have k1:=al3 (uL (~~~ 0#32) (l.take k)) hx;have k2:=Lu (uL (~~~ 0#32) (l.take k)) hx;have k3:=al5 (uL (~~~ 0#32) (l.take k)) hx;rw[<-Le hk]at k3;have k4:=V6 (k:=256) k2;rw[if_pos k2]at k4;have cV:=hg k hk;generalize HV (uL (~~~ 0#32) (l.take k)) (l.getD k 0)=i at*;generalize uL (~~~ 0#32) (l.take k)=r at*;generalize uL (~~~ 0#32) (l.take (k+1))=r' at*;clear h0 hb hg c1 h1 h2 h3 h5 t0 hx
  refine aD ?_;exact⟨m,hm,aN⟩
 ·rw[l4]
  have k1:=V5 (uL (~~~ 0#32) l);clear h0 hb hg c1 h1 h2 h3 h5 t0 tl;refine aD ?_;exact aB
theorem Q9(l:List Int)(hb:∀x∈l,aV x)(hl:l.length<=1000000):PC 66 [.snap (aA aH l)] (.c (.int .u32 (eO l))):=by
 refine aT Tryz.func66 Tryz.ntmps66 (.c _) ?_;have c1:=al6 l hb hl;refine aD ?_;exact aB
end Go.Proofs.YtioafciifiggaaaGreatDoor
namespace Go.Proofs.YtioafciifiggaaaGreatDoor
open Go.Proofs Go.AL
set_option maxRecDepth 100000
set_option maxHeartbeats 1000000
attribute [local irreducible] cB AW aX cZ dK hold
theorem al7:PC 278 [.c (.int .u64 1),.c (.int .u64 8)] (.aR [.c (.int .u64 0),.c (.int .u64 8)]):=by
 refine aT Tryz.func278 Tryz.ntmps278 (.aR _ (by simp;exact⟨.c _,.c _⟩)) ?_
 have e1:bits .and .u64 1 4294967295=1:=by decide
 have e2:bits .and .u64 8 4294967295=8:=by decide
 have e3:bits .and .u64 0 4294967295=0:=by decide
 refine aD ?_;exact aB
theorem al8:PC 236 [.c (.int .u64 1),.c (.int .u64 8)] (.aR [.c (.int .u64 0),.c (.int .u64 8)]):=by
 refine aT Tryz.func236 Tryz.ntmps236 (.aR _ (by simp;exact⟨.c _,.c _⟩)) ?_
 have c1:=al7;refine aD ?_;exact aB
theorem al9:PC 224 [] (.snap (aA bA vY)):=by
 refine aT Tryz.func224 Tryz.ntmps224 (iJ _) ?_;refine aE ?_;refine eP 9 ?_;refine eQ ?_;refine aE ?_;exact aB
theorem Lv:PC 138 [] (.snap (aA bA vY)):=by
 refine aT Tryz.func138 Tryz.ntmps138 (iJ _) ?_;have c1:=al8;have n1:Nat.min 1 8=1:=rfl;have n2:Nat.min 1 7=1:=rfl;have n3:Nat.min 2 6=2:=rfl;have n4:Nat.min 4 4=4:=rfl;refine aE ?_;refine nS Tryz.func190 Tryz.ntmps190 ?_;refine aE ?_;refine eP 4 ?_;refine eQ ?_;refine aE ?_;exact aB
end Go.Proofs.YtioafciifiggaaaGreatDoor
namespace Go.Proofs.YtioafciifiggaaaGreatDoor
open Go.Proofs Go.AL
set_option maxRecDepth 100000
set_option maxHeartbeats 1000000
attribute [local irreducible] cB AW aX cZ dK hold
attribute [local irreducible] eV
theorem am0(src:List Int)(h:(fN src).2.2=0):(fN src).1.2.2.length<=65536:=by
 unfold fN at h⊢;split
 ·split
  ·exact Q7 _
  ·simp[j8]
 ·simp[j8]
theorem Lw(b n t:Int)(s1 s2:List Int):LC ⟨b,n,t,(cC aF s1).1,(cC fN s2).1⟩:=
 ⟨by have:=Q7 (one:=aF) s1;simp only[];omega,by have:=Q7 (one:=fN) s2;simp only[];omega,fun w hw=>by
   have:=ai5 (one:=fN) (p:=fun w=>w.2.2.length<=65536) (fun src h=>am0 src h) s2 w hw
   omega⟩
theorem am1(b:List Int)(hb:∀x∈b,aV x)(hl:b.length<=100000):PC 181 [.snap (aA aH b)] (.aR [.agg (gT (uM b).1),zV (uM b).2]):=by
 refine aT Tryz.func181 Tryz.ntmps181 (by simp only[go_sem,gT]) ?_
 have c1:=vW b hb hl;have k1:=mB hb;have c2:=vW (aF b).2.1 k1.1 (by omega)
 have k2:=mB k1.1;have c3:=vW (aF (aF b).2.1).2.1 k2.1 (by omega)
 have k3:=mB k2.1;have c4:=ai9 (aF (aF (aF b).2.1).2.1).2.1 k3.1 (by omega)
 have k4:=Q6 Q5 _ k3.1;have c5:=ak1 (cC aF (aF (aF (aF b).2.1).2.1).2.1).2.1 k4.1 (by omega)
 have c6:=ag5 ⟨(aF b).1,(aF (aF b).2.1).1,(aF (aF (aF b).2.1).2.1).1,(cC aF (aF (aF (aF b).2.1).2.1).2.1).1,(cC fN (cC aF (aF (aF (aF b).2.1).2.1).2.1).2.1).1⟩ vY (by decide) (Lw _ _ _ _ _)
 have c7:=al9;have hn:(aA bC (cC fN (cC aF (aF (aF (aF b).2.1).2.1).2.1).2.1).1).length=(aA bC (cC fN (cC aF (aF (aF (aF b).2.1).2.1).2.1).2.1).1).length:=rfl;obtain⟨M,hM⟩:∃M,uM b=M:=⟨_,rfl⟩;rw[hM];unfold uM at hM;by_cases g0:65536<b.length
 ·rw[if_pos g0]at hM
  subst hM;clear c1 c2 c3 c4 c5 c6 c7 k1 k2 k3 k4 hb hn;refine aD ?_;exact aB
 rw[if_neg g0]at hM;generalize cC fN (cC aF (aF (aF (aF b).2.1).2.1).2.1).2.1=W at*;generalize cC aF (aF (aF (aF b).2.1).2.1).2.1=L at*;generalize aF (aF (aF b).2.1).2.1=Z at*;generalize aF (aF b).2.1=Y at*;generalize aF b=X at*;obtain⟨x,xr,xe⟩:=X;obtain⟨y,yr,ye⟩:=Y;obtain⟨z,zr,ze⟩:=Z;obtain⟨l,lr,le⟩:=L;obtain⟨w,wr,we⟩:=W;unfold Ae at hM;simp only[]at*;clear k1 k2 k3 k4 hb hn
 by_cases g1:xe=0
 ·subst g1
  rw[if_pos rfl]at hM;by_cases g2:ye=0
  ·subst g2
   rw[if_pos rfl]at hM;by_cases g3:ze=0
   ·subst g3
    rw[if_pos rfl]at hM;by_cases g4:le=0
    ·subst g4
     rw[if_pos rfl]at hM;by_cases g5:we=0
     ·subst g5
      rw[if_pos rfl]at hM;by_cases g6:wr=[]
      ·subst g6
       rw[if_pos rfl]at hM;unfold gT at c6;simp only[]at c6;generalize xE ⟨x,y,z,l,w⟩ vY=ce at*;by_cases g7:ce=0
       ·rw[if_pos g7]at hM
        subst hM g7;refine aD ?_;exact aB
       ·rw[if_neg g7]at hM
        subst hM;refine aD ?_;exact aB
      ·rw[if_neg g6]at hM
       subst hM;have g8:(0:Int)<wr.length:=by have:=BP.2 g6;omega
       clear c6;refine aD ?_;exact aB
     ·rw[if_neg g5]at hM
      subst hM;clear c6;refine aD ?_;exact aB
    ·rw[if_neg g4]at hM
     subst hM;clear c6 c5;refine aD ?_;exact aB
   ·rw[if_neg g3]at hM
    subst hM;clear c6 c5 c4;refine aD ?_;exact aB
  ·rw[if_neg g2]at hM
   subst hM;clear c6 c5 c4 c3;refine aD ?_;exact aB
 ·rw[if_neg g1]at hM
  subst hM;clear c6 c5 c4 c3 c2;refine aD ?_;exact aB
theorem FE(e:Int)(N:Nat)(T:List (Nat×Option aI))(x0 x1 x2 x3 x4 a:AV):
  o0 Tryz.prog 203 [.ptr 0 0 0,.ptr 1 0 0] ⟨N,dH ((0,some (.cells 79 5 [[x0,x1,x2,x3,x4]] true false))::(1,some (.cells 38 1 [[a]] true false))::T)⟩ (some (uK e))
   (fun H'=>H'=⟨N+1+1,dH ((0,some (.cells 79 5 [[zV 0,zV 0,zV 0,.c (.slice none 0 0),.c (.slice none 0 0)]] true false))::(1,some (.cells 38 1 [[zV e]] true false))::T)⟩):=ah1 e N (dH T) x0 x1 x2 x3 x4 a
theorem am2(H:Heap):o0 Tryz.prog 203 [.ptr 0 0 0,.ptr 1 0 0] H none (fun H'=>H'=H):=ah0 0 1 H.next H.get
theorem am3(b:List Int)(hb:∀x∈b,aV x)(hl:b.length<=100000):PC 158 [.snap (aA aH b)] (.aR [.agg (gT (uM b).1),zV (uM b).2]):=by
 refine V8 Tryz.func158 Tryz.ntmps158 (by simp only[go_sem,gT]) ?_
 have c1:=A5 b hb hl;have k1:=mB hb;have c2:=A5 (aF b).2.1 k1.1 (by omega)
 have k2:=mB k1.1;have c3:=A5 (aF (aF b).2.1).2.1 k2.1 (by omega)
 have k3:=mB k2.1;have c4:=aj8 (aF (aF (aF b).2.1).2.1).2.1 k3.1 (by omega)
 have k4:=Q6 Q5 _ k3.1;have c5:=aj9 (cC aF (aF (aF (aF b).2.1).2.1).2.1).2.1 k4.1 (by omega)
 have c6:=Kt ⟨(aF b).1,(aF (aF b).2.1).1,(aF (aF (aF b).2.1).2.1).1,(cC aF (aF (aF (aF b).2.1).2.1).2.1).1,(cC fN (cC aF (aF (aF (aF b).2.1).2.1).2.1).2.1).1⟩ vY (by decide) (Lw _ _ _ _ _)
 have c7:=Lv;have Ak:gT p9=[zV 0,zV 0,zV 0,.snap (aA bA []),.snap (aA bC [])]:=rfl;have d1:=ZW 5;have d2:=ZX 5;have d3:=ZW 3;have d4:=ZX 3;have d5:=ag8;have bQ:=Q7 (one:=aF) (aF (aF (aF b).2.1).2.1).2.1;have nT:=Q7 (one:=fN) (cC aF (aF (aF (aF b).2.1).2.1).2.1).2.1;obtain⟨M,hM⟩:∃M,uM b=M:=⟨_,rfl⟩;rw[hM];unfold uM at hM
 by_cases g0:65536<b.length
 ·rw[if_pos g0]at hM
  subst hM;clear c1 c2 c3 c4 c5 c6 c7 k1 k2 k3 k4 hb bQ nT d1 d3 d4 d5;have s:oP 2 3 (uK 5):=⟨⟩;refine pS ?_;refine FF (FE 5 _ _ _ _ _ _ _ _) ?_;refine bN ?_;exact aB
 rw[if_neg g0]at hM;clear d2;generalize cC fN (cC aF (aF (aF (aF b).2.1).2.1).2.1).2.1=W at*;generalize cC aF (aF (aF (aF b).2.1).2.1).2.1=L at*;generalize aF (aF (aF b).2.1).2.1=Z at*;generalize aF (aF b).2.1=Y at*;generalize aF b=X at*;obtain⟨x,xr,xe⟩:=X;obtain⟨y,yr,ye⟩:=Y;obtain⟨z,zr,ze⟩:=Z;obtain⟨l,lr,le⟩:=L;obtain⟨w,wr,we⟩:=W;unfold Ae at hM;simp only[]at*
 have q1:=k1.2;have q2:=k2.2;have q3:=k3.2;have q4:=k4.2;clear k1 k2 k3 k4 hb;by_cases g1:xe=0
 ·subst g1
  rw[if_pos rfl]at hM;by_cases g2:ye=0
  ·subst g2
   rw[if_pos rfl]at hM;by_cases g3:ze=0
   ·subst g3
    rw[if_pos rfl]at hM;by_cases g4:le=0
    ·subst g4
     rw[if_pos rfl]at hM;by_cases g5:we=0
     ·subst g5
      rw[if_pos rfl]at hM;by_cases g6:wr=[]
      ·subst g6
       rw[if_pos rfl]at hM;unfold gT at c6;simp only[]at c6;generalize xE ⟨x,y,z,l,w⟩ vY=ce at*;clear d4;by_cases g7:ce=0
       ·rw[if_pos g7]at hM
        subst hM g7;unfold gT;refine pS ?_;refine eP 4 ?_;refine eQ ?_;refine pS ?_;refine kI (am2 _) ?_;refine bN ?_;exact aB
       ·rw[if_neg g7]at hM
        subst hM;have d6:=LD ce g7;have s:oP 14 3 (uK ce):=⟨⟩;have s2:oP (14+1000) 3 .nilIface:=⟨⟩;refine pS ?_;refine eP 4 ?_;refine eQ ?_;refine pS ?_;refine Al s2 ?_;refine pS ?_;refine FF (FE ce _ _ _ _ _ _ _ _) ?_;refine bN ?_;exact aB
      ·rw[if_neg g6]at hM
       subst hM;have g8:¬(wr.length:Int)=0:=by have:=BP.2 g6;omega
       clear c6;have s:oP 13 3 (uK 3):=⟨⟩;refine pS ?_;refine eP 4 ?_;refine eQ ?_;refine pS ?_;refine FF (FE 3 _ _ _ _ _ _ _ _) ?_;refine bN ?_;exact aB
     ·rw[if_neg g5]at hM
      subst hM;clear c6 d4;have d6:=LD we g5;have s:oP 12 1 (uK we):=⟨⟩;refine pS ?_;refine eP 4 ?_;refine eQ ?_;refine pS ?_;refine FF (FE we _ _ _ _ _ _ _ _) ?_;refine bN ?_;exact aB
    ·rw[if_neg g4]at hM
     subst hM;clear c6 c5 d4;have d6:=LD le g4;have s:oP 10 1 (uK le):=⟨⟩;refine pS ?_;refine eP 4 ?_;refine eQ ?_;refine pS ?_;refine FF (FE le _ _ _ _ _ _ _ _) ?_;refine bN ?_;exact aB
   ·rw[if_neg g3]at hM
    subst hM;clear c6 c5 c4 d4;refine pS ?_;refine eP 4 ?_;refine eQ ?_
    iterate 73 (refine LK ?_)
    have d6:=LD ze g3;have s:oP 7 1 (uK ze):=⟨⟩;refine pS ?_;refine FF (FE ze _ _ _ _ _ _ _ _) ?_;refine bN ?_;exact aB
  ·rw[if_neg g2]at hM
   subst hM;clear c6 c5 c4 c3 d4;refine pS ?_;refine eP 4 ?_;refine eQ ?_
   iterate 46 (refine LK ?_)
   have d6:=LD ye g2;have s:oP 7 1 (uK ye):=⟨⟩;refine pS ?_;refine FF (FE ye _ _ _ _ _ _ _ _) ?_;refine bN ?_;exact aB
 ·rw[if_neg g1]at hM
  subst hM;clear c6 c5 c4 c3 c2 d4 d5;have d6:=LD xe g1;have s:oP 7 1 (uK xe):=⟨⟩;refine pS ?_;refine eP 4 ?_;refine eQ ?_;refine pS ?_;refine FF (FE xe _ _ _ _ _ _ _ _) ?_;refine bN ?_;exact aB
def LL(n i p s:Int):Bool:=decide (1<=n)&&decide (n<=1073741824)&&decide (i<p)&&decide (p<=65536)&&decide (s<=4294967295)
theorem am4(n i p s:Int):PC 196 [.agg [zV n,zV p,zV s,zV i]] (bV (LL n i p s)):=by
 refine aT Tryz.func196 Tryz.ntmps196 (.c _) ?_;unfold LL;refine aD ?_;exact aB
theorem am5(n i p s:Int)(l:List Int):HU n i p s l↔(LL n i p s=false\/l=[]\/4096<l.length):=by
 unfold HU LL;simp only[Bool.and_eq_false_iff,decide_eq_false_iff_not];constructor
 ·rintro(h|h|h|h|h|h|h)
  ·exact .inl (.inl (.inl (.inl (.inl (by omega)))))
  ·exact .inl (.inl (.inl (.inl (.inr (by omega)))))
  ·exact .inl (.inl (.inl (.inr (by omega))))
  ·exact .inl (.inl (.inr (by omega)))
  ·exact .inl (.inr (by omega))
  ·exact .inr (.inl h)
  ·exact .inr (.inr h)
 ·rintro(((((h|h)|h)|h)|h)|h|h)
  ·exact .inl (by omega)
  ·exact .inr (.inl (by omega))
  ·exact .inr (.inr (.inl (by omega)))
  ·exact .inr (.inr (.inr (.inl (by omega))))
  ·exact .inr (.inr (.inr (.inr (.inl (by omega)))))
  ·exact .inr (.inr (.inr (.inr (.inr (.inl h)))))
  ·exact .inr (.inr (.inr (.inr (.inr (.inr h)))))
theorem Am(b:List Int):bM b=Q8 (aF b) (aF (aF b).2.1) (aF (aF (aF b).2.1).2.1) (aF (aF (aF (aF b).2.1).2.1).2.1):=rfl
theorem An(b:List Int)(hb:∀x∈b,aV x)(hl:b.length<=100000):PC 144 [.snap (aA aH b)] (.aR [.agg [zV (bM b).1.number,zV (bM b).1.parts,zV (bM b).1.sum,zV (bM b).1.index],.snap (aA aH (bM b).1.piece),zV (bM b).2]):=by
 refine aT Tryz.func144 Tryz.ntmps144 (by simp only[go_sem]) ?_
 have c1:=A5 b hb hl;have k1:=mB hb;have c2:=A5 (aF b).2.1 k1.1 (by omega)
 have k2:=mB k1.1;have c3:=A5 (aF (aF b).2.1).2.1 k2.1 (by omega)
 have k3:=mB k2.1;have c4:=A5 (aF (aF (aF b).2.1).2.1).2.1 k3.1 (by omega)
 have k4:=mB k3.1;have c5:=yT (aF (aF (aF (aF b).2.1).2.1).2.1).2.1 (by omega)
 have c6:=am4 (aF b).1 (aF (aF b).2.1).1 (aF (aF (aF b).2.1).2.1).1 (aF (aF (aF (aF b).2.1).2.1).2.1).1;obtain⟨M,hM⟩:∃M,bM b=M:=⟨_,rfl⟩;rw[hM];rw[Am]at hM;generalize aF (aF (aF (aF b).2.1).2.1).2.1=V at*;generalize aF (aF (aF b).2.1).2.1=Z at*;generalize aF (aF b).2.1=Y at*;generalize aF b=X at*;obtain⟨x,xr,xe⟩:=X;obtain⟨y,yr,ye⟩:=Y;obtain⟨z,zr,ze⟩:=Z
 obtain⟨v,vr,ve⟩:=V;unfold Q8 at hM;simp only[]at*;have q4:vr.length<=100000:=by omega
 clear k1 k2 k3 k4 hb;by_cases g1:xe=0
 ·subst g1
  rw[if_pos rfl]at hM;by_cases g2:ye=0
  ·subst g2
   rw[if_pos rfl]at hM;by_cases g3:ze=0
   ·subst g3
    rw[if_pos rfl]at hM;by_cases g4:ve=0
    ·subst g4
     rw[if_pos rfl]at hM;have xH:=am5 x y z v vr;by_cases g5:LL x y z v=false
     ·rw[if_pos (xH.2 (.inl g5))]at hM
      subst hM;rw[g5]at c6;clear xH g5;unfold oR;refine aD ?_;refine eP 5 ?_;refine eQ ?_;refine aD ?_;exact aB
     ·have uN:LL x y z v=true:=by simpa using g5
      rw[uN]at c6;by_cases g6:vr=[]
      ·rw[if_pos (xH.2 (.inr (.inl g6)))]at hM
       subst hM g6;clear xH g5 uN;unfold oR;refine aD ?_;refine eP 5 ?_;refine eQ ?_;refine aD ?_;exact aB
      ·have g6':¬(vr.length:Int)<1:=by have:=BP.2 g6;omega
       by_cases g7:4096<vr.length
       ·rw[if_pos (xH.2 (.inr (.inr g7)))]at hM
        subst hM;have HW:(4096:Int)<vr.length:=by omega
        clear xH g5 uN;unfold oR;refine aD ?_;refine eP 5 ?_;refine eQ ?_;refine aD ?_;exact aB
       ·rw[if_neg (fun h=>by
         rcases xH.1 h with h|h|h
         ·exact g5 h
         ·exact g6 h
         ·exact g7 h)]at hM
        subst hM;have HW:¬(4096:Int)<vr.length:=by omega
        clear xH g5 uN;refine aE ?_;refine eP 5 ?_;refine eQ ?_;refine aE ?_;exact aB
    ·rw[if_neg g4]at hM
     subst hM;clear c6 c5;unfold oR;refine aD ?_;refine eP 5 ?_;refine eQ ?_;refine aD ?_;exact aB
   ·rw[if_neg g3]at hM
    subst hM;clear c6 c5 c4;unfold oR;refine aD ?_;refine eP 5 ?_;refine eQ ?_;refine aD ?_;exact aB
  ·rw[if_neg g2]at hM
   subst hM;clear c6 c5 c4 c3;unfold oR;refine aD ?_;refine eP 5 ?_;refine eQ ?_;refine aD ?_;exact aB
 ·rw[if_neg g1]at hM
  subst hM;clear c6 c5 c4 c3 c2;unfold oR;refine aD ?_;refine eP 5 ?_;refine eQ ?_;refine aD ?_;exact aB
theorem Ao(b:List Int)(hb:∀x∈b,aV x)(hl:b.length<=100000):PC 69 [.snap (aA aH b)] (.aR [zV (bM b).1.number,zV (bM b).1.index,zV (bM b).1.parts,zV (bM b).2]):=by
 refine aT Tryz.func69 Tryz.ntmps69 (by simp only[go_sem]) ?_
 have c1:=An b hb hl;clear hb;refine aD ?_;exact aB
end Go.Proofs.YtioafciifiggaaaGreatDoor
