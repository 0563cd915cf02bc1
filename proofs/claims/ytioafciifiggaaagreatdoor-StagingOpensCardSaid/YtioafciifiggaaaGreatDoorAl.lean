/- Staging. No condition. -/
import Derived.Test.YtioafciifiggaaaGreatDoorL0
import Derived.Test.YtioafciifiggaaaGreatDoorAk
import Derived.Test.YtioafciifiggaaaGreatDoorLg
set_option linter.all false
namespace Go.Proofs.YtioafciifiggaaaGreatDoor
open Go.Proofs Go.AL
set_option maxRecDepth 100000
set_option maxHeartbeats 1000000
attribute [local irreducible] cB AW aX cZ dK hold
attribute [local irreducible] eV
theorem aj7:∃d,∀(src:List Int) (hb:∀x∈src,aV x) (hl:src.length<=100000) (id:Nat),jZ Tryz.prog 244 [.ptr id 0 0,.fn (.func 212) [] []] id (jR src) (kF (cC aF src)) (.aR [.snap (aA bA (cC aF src).1),zV (cC aF src).2.2]) d:=⟨_,ai8⟩
theorem Ll{α:Type}{one:List Int->α×List Int×Int}:∀(f:Nat) (src:List Int) (out:List α),(lW one f src out).2.2≠0->(lW one f src out).1=[]/\(lW one f src out).2.1=[]
 |0,src,out,h=>by rw[FA]at h;exact absurd rfl h
 |f+1,src,out,h=>by
  rw[C7]at h⊢;split at h
  ·rename_i g
   rw[if_pos g];exact Ll f _ _ h
  ·rename_i g
   rw[if_neg g];exact⟨rfl,rfl⟩
theorem Lm{α:Type}{one:List Int->α×List Int×Int}(src:List Int)(h:(cC one src).2.2≠0):(cC one src).1=[]/\(cC one src).2.1=[]:=by
 unfold cC at h⊢;split at h
 ·rename_i g
  rw[if_pos g];exact Ll _ _ _ h
 ·rename_i g
  rw[if_neg g];exact⟨rfl,rfl⟩
theorem aj8(src:List Int)(hb:∀x∈src,aV x)(hl:src.length<=100000):PC 207 [.snap (aA aH src)] (.aR [.snap (aA bA (cC aF src).1),.snap (aA aH (cC aF src).2.1),zV (cC aF src).2.2]):=by
 refine aT Tryz.func207 Tryz.ntmps207 (by simp only[go_sem]) ?_
 obtain⟨d,hd⟩:=aj7;have c1:=hd src hb hl 0;have hle:=Q6 Q5 src hb;have he:(cC aF src).2.2≠0->(cC aF src).1=[]/\(cC aF src).2.1=[]:=Lm src;generalize cC aF src=M at*;obtain⟨x,r,e⟩:=M;simp only[]at hle;have c2:=yT r (by omega)
 clear hb hle hd;unfold kF jR at*;simp only[]at*;refine bO ?_;refine nS Tryz.func242 Tryz.ntmps242 ?_;refine bO ?_;refine nS Tryz.func243 Tryz.ntmps243 ?_;by_cases g:e=0
 ·subst g
  rw[if_pos rfl]at c1;clear he;refine bO ?_;exact aB
 ·rw[if_neg g]at c1
  obtain⟨rfl,rfl⟩:=he g;refine bO ?_;exact aB
theorem aj9(src:List Int)(hb:∀x∈src,aV x)(hl:src.length<=100000):PC 208 [.snap (aA aH src)] (.aR [.snap (aA bC (cC fN src).1),.snap (aA aH (cC fN src).2.1),zV (cC fN src).2.2]):=by
 refine aT Tryz.func208 Tryz.ntmps208 (by simp only[go_sem]) ?_
 obtain⟨d,hd⟩:=aj6;have c1:=hd src hb hl 0;have hle:=Q6 Ad src hb;have he:(cC fN src).2.2≠0->(cC fN src).1=[]/\(cC fN src).2.1=[]:=Lm src;generalize cC fN src=M at*;obtain⟨x,r,e⟩:=M;simp only[]at hle;have c2:=yT r (by omega)
 clear hb hle hd;unfold kF jR at*;simp only[]at*;refine bO ?_;refine nS Tryz.func245 Tryz.ntmps245 ?_;refine bO ?_;refine nS Tryz.func246 Tryz.ntmps246 ?_;by_cases g:e=0
 ·subst g
  rw[if_pos rfl]at c1;clear he;refine bO ?_;exact aB
 ·rw[if_neg g]at c1
  obtain⟨rfl,rfl⟩:=he g;refine bO ?_;exact aB
theorem ak0(src:List Int)(hb:∀x∈src,aV x)(hl:src.length<=100000):PC 258 [.snap (aA aH src)] (.aR [.snap (aA aQ (cC kE src).1),.snap (aA aH (cC kE src).2.1),zV (cC kE src).2.2]):=by
 refine aT Tryz.func258 Tryz.ntmps258 (by simp only[go_sem]) ?_
 have c1:=Ah src hb hl;have hM:cC kE src=if(dM src).2.2=0 then lW kE (dM src).1.toNat (dM src).2.1 []else([],[],(dM src).2.2):=rfl
 have hle:=HT src hb;have lN:=LI hb;generalize cC kE src=M at*;by_cases g:(dM src).2.2=0
 ·obtain⟨i1,i2,i3,i4⟩:=lN g
  rw[if_pos g]at hM;rw[g]at c1;obtain⟨s,hs⟩:∃s,(dM src).2.1=s:=⟨_,rfl⟩;obtain⟨n,hn⟩:∃n:Nat,(dM src).1=n:=⟨_,(TY i2).symm⟩;rw[hs,hn]at c1;rw[hn,hs,nC]at hM;rw[hs]at hle;rw[hn]at i3;clear i1 i2 i4 lN g hn hs hb;refine aD ?_;refine dP (α:=(List Int×List aY)×Nat) n (fun k a=> [(8,true,zV k),(5,true,zV n),(7,true,nG k a.2),(0,true,.snap (aA aH a.1.1))]) (fun k a=>oB 124 8 (aA aQ a.1.2) k a.2) (fun k m a=>((∀x∈a.1.1,aV x)/\a.1.1.length<=src.length)/\a.1.2.length=k/\lW kE (n-k) a.1.1 a.1.2=M/\(0<k->a.2<m)) ⟨0,((s,[]),0),⟨hle,rfl,hM.symm,fun h=>by omega⟩,aN⟩ (fun k m a hk hR=> ?_) (fun m a hR=> ?_)
  ·obtain⟨⟨s',out⟩,A6⟩:=a
   obtain⟨⟨h2,h3⟩,h4,h5,h6⟩:=hR;simp only[]at h2 h3 h4 h5 h6⊢;obtain⟨f,hf⟩:∃f,n-k=f+1:=⟨n-k-1,by omega⟩
   rw[hf,C7]at h5;have bQ:=Ac s' h2;have jP:n-(k+1)=f:=by omega
   clear c1 hM hle;have A8:kE s'=if s'.length<8 then(aO,[],10)else(V0 s',s'.drop 8,0):=rfl
   by_cases g:s'.length<8
   ·rw[if_pos g]at A8
    rw[A8,if_neg (by decide)]at h5
    subst h5;clear h2 bQ hf jP A8;cases k with
    |zero=>
     refine aD ?_;exact aB
    |succ j=>
     have cO:=h6 (by omega)
     refine aD ?_;exact aB
   ·rw[if_neg g]at A8
    rw[A8,if_pos rfl]at h5;rw[A8]at bQ;clear A8;obtain⟨x0,x1,x2,x3,x4,x5,x6,x7,r,nH⟩:=Lk (by omega:8<=s'.length)
    obtain⟨x,hx⟩:∃x,V0 s'=x:=⟨_,rfl⟩;have hr:s'.drop 8=r:=by rw[nH];rfl
    have Ai:aQ x=[uV x0,uV x1,uV x2,uV x3,uV x4,uV x5,uV x6,uV x7]:=by rw[<-hx,nH];rfl
    have c3:=Ko s' 8 (by omega) (by omega)
    rw[hr]at c3 h5 bQ;rw[hx]at h5;simp only[]at h5 bQ;have hz:aQ aO=[uV 0,uV 0,uV 0,uV 0,uV 0,uV 0,uV 0,uV 0]:=rfl;have q0:(aA aH s')[0]? =some [uV x0]:=by rw[nH];rfl
    have q1:(aA aH s')[1]? =some [uV x1]:=by rw[nH];rfl
    have q2:(aA aH s')[2]? =some [uV x2]:=by rw[nH];rfl
    have q3:(aA aH s')[3]? =some [uV x3]:=by rw[nH];rfl
    have q4:(aA aH s')[4]? =some [uV x4]:=by rw[nH];rfl
    have q5:(aA aH s')[5]? =some [uV x5]:=by rw[nH];rfl
    have q6:(aA aH s')[6]? =some [uV x6]:=by rw[nH];rfl
    have q7:(aA aH s')[7]? =some [uV x7]:=by rw[nH];rfl
    have pU:(out++[x]).length=k+1:=by simp[h4]
    have fW:aA aQ out++[[uV x0,uV x1,uV x2,uV x3,uV x4,uV x5,uV x6,uV x7]]=aA aQ (out++[x]):=by rw[<-Ai];exact nR (f:=aQ) out x
    have Ln:aU ([[uV x0,uV x1,uV x2,uV x3,uV x4,uV x5,uV x6,uV x7]]=aA aQ [x]):=⟨by rw[<-Ai];rfl⟩
    have h7:aU (lW kE (n-(k+1)) r (out++[x])=M):=⟨by rw[jP];exact h5⟩
    have h8:aU ((∀x∈r,aV x)/\r.length<=src.length):=⟨bQ.1,by omega⟩
    clear h5 hf jP h2 bQ nH hx hr Ai;cases k with
    |zero=>
     have h9:out=[]:=fI h4;subst h9;clear h6 fW;refine aD ?_;refine eP 9 ?_;refine eQ ?_;refine aD ?_;have Ln:=Ln.out;exact⟨m+50,((r,[x]),m+1+1+1+1+1+1+1+1+1+1),⟨h8.out,pU,h7.out,fun _=>by simp only[];omega⟩,aN⟩
    |succ j=>
     have cO:=h6 (by omega)
     refine aD ?_;refine eP 9 ?_;refine eQ ?_;refine aD ?_;exact⟨m+50,((r,out++[x]),m+1+1+1+1+1+1+1+1+1+1),⟨h8.out,pU,h7.out,fun _=>by simp only[];omega⟩,aN⟩
  ·obtain⟨⟨s',out⟩,A6⟩:=a
   obtain⟨⟨h2,h3⟩,h4,h5,h6⟩:=hR;simp only[]at h2 h3 h4 h5 h6⊢;rw[tG,FA]at h5;subst h5;clear c1 hM hle h2;cases n with
   |zero=>
    have h9:out=[]:=fI h4;subst h9;refine aD ?_;exact aB
   |succ j=>
    have cO:=h6 (by omega)
    have kC:out.take (j+1)=out:=cR (by omega)
    refine aD ?_;exact aB
 ·rw[if_neg g]at hM
  subst hM;clear hle lN hb;generalize dM src=L at*;obtain⟨l1,l2,e⟩:=L;simp only[]at*;refine aD ?_;exact aB
theorem ak1(src:List Int)(hb:∀x∈src,aV x)(hl:src.length<=100000):PC 222 [.snap (aA aH src)] (.aR [.snap (aA bC (cC fN src).1),.snap (aA aH (cC fN src).2.1),zV (cC fN src).2.2]):=by
 refine aT Tryz.func222 Tryz.ntmps222 (by simp only[go_sem]) ?_
 have c1:=Ah src hb hl;have hM:cC fN src=if(dM src).2.2=0 then lW fN (dM src).1.toNat (dM src).2.1 []else([],[],(dM src).2.2):=rfl
 have hle:=HT src hb;have lN:=LI hb;generalize cC fN src=M at*;by_cases g:(dM src).2.2=0
 ·obtain⟨i1,i2,i3,i4⟩:=lN g
  rw[if_pos g]at hM;rw[g]at c1;obtain⟨s,hs⟩:∃s,(dM src).2.1=s:=⟨_,rfl⟩;obtain⟨n,hn⟩:∃n:Nat,(dM src).1=n:=⟨_,(TY i2).symm⟩;rw[hs,hn]at c1;rw[hn,hs,nC]at hM;rw[hs]at hle;rw[hn]at i3;clear i1 i2 i4 lN g hn hs hb;refine aD ?_;refine dP (α:=(List Int×List iC)×Nat) n (fun k a=> [(8,true,zV k),(5,true,zV n),(7,true,nG k a.2),(0,true,.snap (aA aH a.1.1))]) (fun k a=>oB 126 3 (aA bC a.1.2) k a.2) (fun k m a=>((∀x∈a.1.1,aV x)/\a.1.1.length<=src.length)/\a.1.2.length=k/\lW fN (n-k) a.1.1 a.1.2=M/\(0<k->a.2<m)) ⟨0,((s,[]),0),⟨hle,rfl,hM.symm,fun h=>by omega⟩,aN⟩ (fun k m a hk hR=> ?_) (fun m a hR=> ?_)
  ·obtain⟨⟨s',out⟩,A6⟩:=a
   obtain⟨⟨h2,h3⟩,h4,h5,h6⟩:=hR;simp only[]at h2 h3 h4 h5 h6⊢;obtain⟨f,hf⟩:∃f,n-k=f+1:=⟨n-k-1,by omega⟩
   rw[hf,C7]at h5;have bQ:=Ad s' h2;have jP:n-(k+1)=f:=by omega
   clear c1 hM hle;have C8:fN s'=if(aF s').2.2=0 then(if(aF (aF s').2.1).2.2=0 then(((aF s').1,(aF (aF s').2.1).1,(cC kE (aF (aF s').2.1).2.1).1),(cC kE (aF (aF s').2.1).2.1).2.1,(cC kE (aF (aF s').2.1).2.1).2.2)else(j8,[],(aF (aF s').2.1).2.2))else(j8,[],(aF s').2.2):=rfl
   have c2:=vW s' h2 (by omega)
   have k1:=mB h2;have c3:=vW (aF s').2.1 k1.1 (by omega)
   have k2:=mB k1.1;have c4:=ak0 (aF (aF s').2.1).2.1 k2.1 (by omega)
   generalize cC kE (aF (aF s').2.1).2.1=Z at*;generalize aF (aF s').2.1=Y at*;generalize aF s'=X at*;obtain⟨v,r1,e1⟩:=X;obtain⟨st,r2,e2⟩:=Y;obtain⟨d,r,e3⟩:=Z;clear k1 k2;simp only[]at*;by_cases g1:e1=0
   ·rw[if_pos g1]at C8
    by_cases g2:e2=0
    ·rw[if_pos g2]at C8
     rw[C8]at h5 bQ;clear C8;subst g1 g2;simp only[]at h5 bQ;by_cases g3:e3=0
     ·subst g3
      rw[if_pos rfl]at h5;have pU:(out++[(v,st,d)]).length=k+1:=by simp[h4]
      have fW:aA bC out++[[zV v,zV st,.snap (aA aQ d)]]=aA bC (out++[(v,st,d)]):=nR (f:=bC) out (v,st,d);have h7:aU (lW fN (n-(k+1)) r (out++[(v,st,d)])=M):=⟨by rw[jP];exact h5⟩
      have h8:aU ((∀x∈r,aV x)/\r.length<=src.length):=⟨bQ.1,by omega⟩
      clear h5 hf jP h2 bQ;cases k with
      |zero=>
       have h9:out=[]:=fI h4;subst h9;clear h6 fW;refine aD ?_;exact⟨m+2,((r,[(v,st,d)]),m+1),⟨h8.out,pU,h7.out,fun _=>by simp only[];omega⟩,aN⟩
      |succ j=>
       have cO:=h6 (by omega)
       refine aD ?_;exact⟨m+2,((r,out++[(v,st,d)]),m+1),⟨h8.out,pU,h7.out,fun _=>by simp only[];omega⟩,aN⟩
     ·rw[if_neg g3]at h5
      subst h5;clear h2 bQ hf jP;cases k with
      |zero=>
       refine aD ?_;exact aB
      |succ j=>
       have cO:=h6 (by omega)
       refine aD ?_;exact aB
    ·rw[if_neg g2]at C8
     rw[C8]at h5;subst g1;simp only[]at h5;rw[if_neg g2]at h5;subst h5;clear h2 bQ hf jP C8;cases k with
     |zero=>
      refine aD ?_;exact aB
     |succ j=>
      have cO:=h6 (by omega)
      refine aD ?_;exact aB
   ·rw[if_neg g1]at C8
    rw[C8]at h5;simp only[]at h5;rw[if_neg g1]at h5;subst h5;clear h2 bQ hf jP C8;cases k with
    |zero=>
     refine aD ?_;exact aB
    |succ j=>
     have cO:=h6 (by omega)
     refine aD ?_;exact aB
  ·obtain⟨⟨s',out⟩,A6⟩:=a
   obtain⟨⟨h2,h3⟩,h4,h5,h6⟩:=hR;simp only[]at h2 h3 h4 h5 h6⊢;rw[tG,FA]at h5;subst h5;clear c1 hM hle h2;cases n with
   |zero=>
    have h9:out=[]:=fI h4;subst h9;refine aD ?_;exact aB
   |succ j=>
    have cO:=h6 (by omega)
    have kC:out.take (j+1)=out:=cR (by omega)
    refine aD ?_;exact aB
 ·rw[if_neg g]at hM
  subst hM;clear hle lN hb;generalize dM src=L at*;obtain⟨l1,l2,e⟩:=L;simp only[]at*;refine aD ?_;exact aB
end Go.Proofs.YtioafciifiggaaaGreatDoor
namespace Go.Proofs.YtioafciifiggaaaGreatDoor
open Go.Proofs Go.AL
set_option maxRecDepth 100000
set_option maxHeartbeats 1000000
attribute [local irreducible] cB AW aX cZ dK hold
abbrev C9(v:kD):AV:= .c (.int .u32 (nV v))
theorem ak2(v:kD):bits .and .u32 (nV v) 1=nV v % 2:=by
 have h:=bits_mask .u32 32 (by decide) (fun n h0 h1=>by rw[IntKind.wrap_u32];omega) 1 (by decide) (nV v) (LH v).1 (LH v).2
 simpa using h
theorem Aj(v:kD):nV v % 2=if v.getLsbD 0 then 1 else 0:=by
 unfold nV;rw[BitVec.getLsbD,Nat.testBit_zero];by_cases h:v.toNat % 2=1
 ·simp[h];omega
 ·have:v.toNat % 2=0:=by omega
  simp[this];omega
theorem Lo(v:kD):bits .xor .u32 ((nV v).fdiv (2 ^ min 1 32)) (IntKind.u32.wrap (2197175160*(nV v % 2)))=nV (vX v):=by
 have h1:=Aa v 1;rw[show min 1 32=1 from rfl,Aj,h1]
 unfold vX;cases v.getLsbD 0
 ·have h2:IntKind.u32.wrap (2197175160*(if false=true then 1 else 0))=nV 0#32:=by decide
  rw[h2,Q4];simp
 ·have h2:IntKind.u32.wrap (2197175160*(if true=true then 1 else 0))=nV Lb:=by decide
  rw[h2,Q4];simp
theorem ak3{v:kD}(h:v.getLsbD 0=true):bits .xor .u32 ((nV v).fdiv (2 ^ min 1 32)) 2197175160=nV (vX v):=by
 have:=Lo v;rw[Aj,h]at this;exact this
theorem ak4{v:kD}(h:v.getLsbD 0=false):(nV v).fdiv (2 ^ min 1 32)=nV (vX v):=by
 rw[show min 1 32=1 from rfl,Aa v 1]
 unfold vX;rw[h];simp
theorem ak5(r:kD)(b:Int)(hb:aV b):PC 256 [C9 r,uV b] (C9 (jH 8 (r ^^^ BitVec.ofInt 32 b))):=by
 refine aT Tryz.func256 Tryz.ntmps256 (.c _) ?_
 have hx:bits .xor .u32 (nV r) (IntKind.u32.wrap b)=nV (r ^^^ BitVec.ofInt 32 b):=by
  have:IntKind.u32.wrap b=nV (BitVec.ofInt 32 b):=by
   obtain⟨h0,h1⟩:=hb;obtain⟨n,rfl⟩:=sK h0;rw[IntKind.wrap_u32];unfold nV;rw[YY,PB];omega
  rw[this,Q4]
 refine aD ?_;refine tM 8 0 [] (fun k=> [(5,true,zV k),(0,true,C9 (jH k (r ^^^ BitVec.ofInt 32 b)))]) aN (fun k m hk hm=> ?_) (fun m hm=> ?_)
 ·have h1:=Ab k (r ^^^ BitVec.ofInt 32 b)
  have h4:=Aj (jH k (r ^^^ BitVec.ofInt 32 b));have h5:= @ak3 (jH k (r ^^^ BitVec.ofInt 32 b));have h6:= @ak4 (jH k (r ^^^ BitVec.ofInt 32 b));have h3:=LH (jH k (r ^^^ BitVec.ofInt 32 b));rw[<-h1]at h5 h6;generalize jH k (r ^^^ BitVec.ofInt 32 b)=v at*;generalize jH (k+1) (r ^^^ BitVec.ofInt 32 b)=v' at*;clear h1 hx;cases hb:v.getLsbD 0 with
  |true=>
   have h7:=h5 hb;rw[hb,if_pos rfl]at h4;clear h5 h6 hb;refine aD ?_;exact⟨m,hm,aN⟩
  |false=>
   have h7:=h6 hb;rw[hb,if_neg (by decide)]at h4
   clear h5 h6 hb;refine aD ?_;exact⟨m,hm,aN⟩
 ·refine aD ?_
  exact aB
theorem Lp{b:Int}(h:aV b):∃n:Nat,b=n/\n<256:=by
 obtain⟨h0,h1⟩:=h;obtain⟨n,rfl⟩:=sK h0;exact⟨n,rfl,by omega⟩
theorem ak6(v:kD):bits .xor .u32 IntKind.u32.max (nV v)=nV (~~~ v):=by
 have h:(IntKind.u32.max:Int)=nV (BitVec.allOnes 32):=by decide
 rw[h,Q4,BitVec.allOnes_xor]
theorem V5(v:kD):bits .xor .u32 (if IntKind.u32.signed=true then-1 else IntKind.u32.max) (nV v)=nV (~~~ v):=ak6 v
theorem ak7(l:List Int)(hb:∀x∈l,aV x)(hl:l.length<=1000000):PC 220 [.c (.int .u32 0),.snap (aA aH l)] (.c (.int .u32 (eO l))):=by
 refine aT Tryz.func220 Tryz.ntmps220 (.c _) ?_;have hg:=gB l;have h0:bits .xor .u32 (if IntKind.u32.signed=true then-1 else IntKind.u32.max) 0=nV (~~~ 0#32):=V5 0#32
 unfold eO;refine aD ?_;refine tM l.length 0 [] (fun k=> [(6,true,zV k),(5,true,C9 (uL (~~~ 0#32) (l.take k))),(1,true,.snap (aA aH l))]) aN (fun k m hk hm=> ?_) (fun m hm=> ?_)
 ·have c1:=ak5 (uL (~~~ 0#32) (l.take k)) (l.getD k 0) (hb _ (dC 0 hk))
  rw[<-Le hk]at c1;have cV:=hg k hk;clear h0 hb hg;refine aD ?_;exact⟨m,hm,aN⟩
 ·rw[l4]
  have h1:=V5 (uL (~~~ 0#32) l);clear h0 hb hg;refine aD ?_;exact aB
theorem Lq(l:List Int)(hb:∀x∈l,aV x)(hl:l.length<=1000000):PC 180 [.snap (aA aH l)] (.c (.int .u32 (eO l))):=by
 refine aT Tryz.func180 Tryz.ntmps180 (.c _) ?_;have c1:=ak7 l hb hl;refine aD ?_;exact aB
def jS(k:Nat):List AV:=(List.range 256).map fun i=>C9 (if i<k then jH 8 (BitVec.ofNat 32 i)else 0#32)
theorem A9(k:Nat):(jS k).length=256:=by simp[jS]
theorem Lr:List.replicate 256 (AV.c (.int .u32 0))=jS 0:=by kernel_rfl
theorem V6{k i:Nat}(h:i<256):(jS k)[i]? =some (C9 (if i<k then jH 8 (BitVec.ofNat 32 i)else 0#32)):=by
 simp[jS,h]
theorem ak8{k:Nat}(h:k<256):(jS k).set k (C9 (jH 8 (BitVec.ofNat 32 k)))=jS (k+1):=by
 apply BS;intro i;rw[Yh];by_cases hi:i<256
 ·by_cases he:k=i
  ·subst he
   rw[if_pos rfl,if_pos (by rw[A9];exact h),V6 hi,if_pos (by omega)]
  ·rw[if_neg he,V6 hi,V6 hi]
   by_cases h3:i<k
   ·rw[if_pos h3,if_pos (by omega)]
   ·rw[if_neg h3,if_neg (by omega)]
 ·rw[if_neg (by omega),ET (by rw[A9];omega),ET (by rw[A9];omega)]
theorem V7(k:Nat):∀x∈jS k,bJ x:=fun x hx=>by
 simp only[jS,mS]at hx;obtain⟨i,_,rfl⟩:=hx;exact .c _
theorem Ls(k:Nat):(jS k).all AV.one=true:=by
 rw[gK];intro x hx;simp only[jS,mS]at hx;obtain⟨i,_,rfl⟩:=hx;rfl
theorem ak9(k:Nat)(G:Nat->Option aI):(jS k).map (oN G)=jS k:=by
 simp only[jS,P9];rfl
theorem al0(v:kD):jH 0 v=v:=rfl
attribute [local irreducible] jS jH
theorem al1:PC 194 [] (.agg (jS 256)):=by
 refine aT Tryz.func194 Tryz.ntmps194 (e8.2 (V7 256)) ?_;have t0:=Lr;have tl:=A9;refine aD ?_;refine dP (α:=Unit) 256 (fun k _=> [(5,true,zV k),(1,true,.ptr 1 0 0),(0,true,.ptr 0 0 0)]) (fun k _=> [(0,some (.cells 304 256 [jS 0] true false)),(1,some (.cells 304 256 [jS k] true false))]) (fun k m _=>2<=m) ⟨1000,(),by omega,rV rfl (rV rfl (rV rfl (holds_nil (by decide) (sO rfl (sO rfl zY)))))⟩ (fun k m _ hk hm=> ?_) (fun m _ hm=> ?_)
 ·have hw:IntKind.u32.wrap (k:Int)=nV (BitVec.ofNat 32 k):=by
   rw[IntKind.wrap_u32];unfold nV;rw[PB];omega
  have iM:=al0 (BitVec.ofNat 32 k);refine aD ?_;refine tM 8 m [(0,some (.cells 304 256 [jS 0] true false)),(1,some (.cells 304 256 [jS k] true false))] (fun j=> [(10,true,zV j),(3,true,C9 (jH j (BitVec.ofNat 32 k))),(2,true,zV k),(5,true,zV k),(1,true,.ptr 1 0 0),(0,true,.ptr 0 0 0)]) aN (fun j m' hj r4=> ?_) (fun m' r4=> ?_)
  ·have h1:=Ab j (BitVec.ofNat 32 k)
   have h2:=ak2 (jH j (BitVec.ofNat 32 k));have h3:=LH (jH j (BitVec.ofNat 32 k));have h4:=Lo (jH j (BitVec.ofNat 32 k));rw[<-h1]at h4;generalize jH j (BitVec.ofNat 32 k)=v at*;generalize jH (j+1) (BitVec.ofNat 32 k)=v' at*;clear h1 hw t0 tl iM;refine aD ?_;exact⟨m',r4,aN⟩
  ·have h1:(jS k).take k++[C9 (jH 8 (BitVec.ofNat 32 k))]++(jS k).drop (k+1)=jS (k+1):=by
    rw[<-ak8 hk,bv6,if_pos (by rw[A9];exact hk)]
    simp
   have h2:k<(jS k).length:=by rw[A9];exact hk
   clear hw;refine aD ?_;exact⟨m'+1,(),by omega,aN⟩
 ·have h1:(jS 256).take 256=jS 256:=cR (by rw[A9];decide)
  have h2:(jS 256).all AV.one=true:=Ls 256;have h3:(jS 0).drop 256=[]:=Yi (by rw[A9];decide)
  have h4:=e8.2 (V7 256);have h5:(∀x∈jS 256,bJ x)=True:=eq_true (V7 256);have h6:∀G,(jS 256).map (oN G)=jS 256:=ak9 256;refine aD ?_;exact aB
end Go.Proofs.YtioafciifiggaaaGreatDoor
