/- Staging. No condition. -/
import Derived.Test.YtioafciifiggaaaGreatDoorL0
import Derived.Test.YtioafciifiggaaaGreatDoorAh
import Derived.Test.YtioafciifiggaaaGreatDoorLg
set_option linter.all false
namespace Go.Proofs.YtioafciifiggaaaGreatDoor
open Go.Proofs Go.AL
set_option maxRecDepth 100000
set_option maxHeartbeats 1000000
attribute [local irreducible] cB AW aX cZ dK hold
theorem ah4:Tryz.prog.eqGuardType Tryz.prog.depth 124=false:=by kernel_rfl
theorem ah5(d:Nat)(s t:aY):pT Tryz.prog (d+2) 124 (.agg (aQ s)) (.agg (aQ t))=some (decide (s=t)):=by
 have h5:Tryz.prog.underlying 5=some (.int .u8):=Tryz.underlying5;simp only[pT,Tryz.underlying124,Za,LF,qY,Zb,aQ,HD,List.range_zero,x8,YX,BQ,Nat.mul_one,mK,qS,h5,if_true];obtain⟨⟨a,b,c,e⟩,⟨f,g,h,i⟩⟩:=s;obtain⟨⟨a',b',c',e'⟩,⟨f',g',h',i'⟩⟩:=t;simp only[bB,bY];rw[Bool.eq_iff_iff]
 simp only[jX,beq_iff_eq,decide_eq_true_eq,Iu,and_assoc]
@[go_sem] theorem bF1(s:aY):xF Tryz.prog 124 (.agg (aQ s)) (.agg (aQ s))=some true:=by
  unfold xF;rw[ah4,if_neg (by simp)]
  exact(ah5 9998 s s).trans (by simp)
theorem ah6(l:List Int)(hl:l.length<=1000000):PC 81 [.snap (aA bA l),.snap (aA bA l)] (bV true):=by
 refine aT Tryz.func81 Tryz.ntmps81 (.c _) ?_;have hg:=gI l;refine aE ?_;refine tM l.length 0 [] (fun k=> [(5,true,zV k),(0,true,.snap (aA bA l)),(1,true,.snap (aA bA l))]) aN (fun k m bG hm=> ?_) (fun m hm=> ?_)
 ·have cV:=hg k bG
  clear hg;refine aE ?_;refine⟨m+200,by omega,aN⟩
 ·clear hg
  refine aE ?_;exact aB
theorem ah7(l:List Int)(hl:l.length<=1000000):PC 101 [.snap (aA bA l),.snap (aA bA l)] (bV true):=by
 refine aT Tryz.func101 Tryz.ntmps101 (.c _) ?_;have hg:=gI l;refine aE ?_;refine tM l.length 0 [] (fun k=> [(5,true,zV k),(0,true,.snap (aA bA l)),(1,true,.snap (aA bA l))]) aN (fun k m bG hm=> ?_) (fun m hm=> ?_)
 ·have cV:=hg k bG
  clear hg;refine aE ?_;refine⟨m+200,by omega,aN⟩
 ·clear hg
  refine aE ?_;exact aB
theorem Ky(l:List aY)(hl:l.length<=1000000):PC 45 [.snap (aA aQ l),.snap (aA aQ l)] (bV true):=by
 refine aT Tryz.func45 Tryz.ntmps45 (.c _) ?_;have hg:=gS l;refine aE ?_;refine tM l.length 0 [] (fun k=> [(5,true,zV k),(0,true,.snap (aA aQ l)),(1,true,.snap (aA aQ l))]) aN (fun k m bG hm=> ?_) (fun m hm=> ?_)
 ·have cV:=hg k bG
  clear hg;refine aE ?_;refine⟨m+200,by omega,aN⟩
 ·clear hg
  refine aE ?_;exact aB
theorem Kz(l:List ZP)(hl:l.length<=1000000)(hs:∀o∈l,o.2.2.length<=1000000):PC 13 [.snap (aA bC l),.snap (aA bC l)] (bV true):=by
 refine aT Tryz.func13 Tryz.ntmps13 (.c _) ?_;have hg:=gO l;refine aE ?_;refine tM l.length 0 [] (fun k=> [(5,true,zV k),(0,true,.snap (aA bC l)),(1,true,.snap (aA bC l))]) aN (fun k m bG hm=> ?_) (fun m hm=> ?_)
 ·have cV:=hg k bG
  clear hg;have nZ:l.getD k F6∈l:=dC F6 bG;have c1:=Ky (l.getD k F6).2.2 (hs _ nZ);unfold bC at cV;have F8:(aA bC l)[k]? =some [zV (l.getD k F6).1,zV (l.getD k F6).2.1,.snap (aA aQ (l.getD k F6).2.2)]:=cV;clear cV;refine aE ?_;refine⟨m+200,by omega,aN⟩
 ·clear hg
  refine aE ?_;exact aB
def LG(d:fJ):Bool:=decide (d.st.length<=400)&&decide (d.ca.length<=400)
theorem ah8(d:fJ)(h1:d.st.length<=9223372036854775807)(h2:d.ca.length<=9223372036854775807):PC 7 [.agg (dI d)] (bV (LG d)):=by
 refine aT Tryz.func7 Tryz.ntmps7 (.c _) ?_;obtain⟨M,hM⟩:∃M,LG d=M:=⟨_,rfl⟩;rw[hM];unfold LG at hM;unfold dI;by_cases g1:d.st.length<=400
 ·by_cases g2:d.ca.length<=400
  ·obtain rfl:M=true:=by rw[<-hM];simp[g1,g2]
   clear hM;refine aE ?_;exact aB
  ·obtain rfl:M=false:=by rw[<-hM];simp[g1,g2]
   clear hM;refine aE ?_;exact aB
 ·obtain rfl:M=false:=by rw[<-hM];simp[g1]
  clear hM;refine aE ?_;exact aB
abbrev kD:=BitVec 32
def nV(v:kD):Int:=(v.toNat:Int)
theorem LH(v:kD):0<=nV v/\nV v<4294967296:=by
 have:=v.isLt;unfold nV;omega
theorem La(v:kD):BitVec.ofInt 32 (nV v)=v:=by
 unfold nV;rw[YY];simp
theorem Q4(a b:kD):bits .xor .u32 (nV a) (nV b)=nV (a ^^^ b):=by
 have h:bits .xor .u32 (nV a) (nV b)=IntKind.u32.wrap ((BitVec.ofInt 32 (nV a) ^^^ BitVec.ofInt 32 (nV b)).toNat:Int):=rfl;rw[h,La,La,IntKind.wrap_u32];have:=LH (a ^^^ b);unfold nV at*;omega
theorem Aa(a:kD)(k:Nat):(nV a).fdiv ((2:Int) ^ k)=nV (a>>>k):=by
 unfold nV;rw[BitVec.toNat_ushiftRight,Nat.shiftRight_eq_div_pow,Yd _ (Int.le_of_lt (Int.pow_pos (by decide)))]
 push_cast
 rfl
def Lb:kD:=0x82F63B78#32
def vX(r:kD):kD:=(r>>>1) ^^^ (if r.getLsbD 0 then Lb else 0#32)
theorem ah9(a b p:kD):(a ^^^ p) ^^^ (b ^^^ p)=a ^^^ b:=by
 apply Iv;intro i hi;simp only[Ye];cases a.getLsbD i<;>cases b.getLsbD i<;>cases p.getLsbD i<;>rfl
theorem ai0(a b:kD):vX (a ^^^ b)=vX a ^^^ vX b:=by
 unfold vX;rw[BitVec.ushiftRight_xor_distrib,Ye];cases a.getLsbD 0<;>cases b.getLsbD 0
 ·simp
 ·simp[Iw]
 ·simp only[Bool.true_xor,YZ,if_true,kV,if_false]
  rw[BitVec.xor_zero,Iw,Iw,BitVec.xor_comm (b>>>1)]
 ·simp only[Bool.true_xor,PA,if_true,kV,if_false]
  rw[ah9,BitVec.xor_zero]
def jH:Nat->kD->kD
 |0,r=>r
 |k+1,r=>jH k (vX r)
theorem Lc:∀(k:Nat) (a b:kD),jH k (a ^^^ b)=jH k a ^^^ jH k b
 |0,a,b=>rfl
 |k+1,a,b=>by simp only[jH];rw[ai0,Lc k]
theorem Ab:∀(k:Nat) (r:kD),jH (k+1) r=vX (jH k r)
 |0,r=>rfl
 |k+1,r=>by
  have:=Ab k (vX r);simp only[jH]at this⊢;exact this
theorem Ld:∀(k:Nat) (r:kD),(∀i,i<k->r.getLsbD i=false)->jH k r=r>>>k
 |0,r,_=>by simp[jH]
 |k+1,r,h=>by
  have h0:vX r=r>>>1:=by unfold vX;rw[h 0 (by omega)];simp
  simp only[jH];rw[h0,Ld k _ fun i hi=>by rw[Yf];exact h (1+i) (by omega)]
  apply Iv;intro i hi;simp only[Yf];congr 1;omega
theorem ai1(r:kD):r=(r&&&0xFFFFFF00#32) ^^^ (r&&&0xFF#32):=by
 apply Iv;intro i hi;simp only[Ye,Yg];have h:∀j:Fin 32,(0xFFFFFF00#32).getLsbD j.val= !((0xFF#32).getLsbD j.val):=by decide
 rw[h ⟨i,hi⟩];cases r.getLsbD i<;>cases(0xFF#32).getLsbD i<;>rfl
theorem hi8(r:kD):(r&&&0xFFFFFF00#32)>>>8=r>>>8:=by
 apply Iv;intro i hi;simp only[Yf,Yg];by_cases h:8+i<32
 ·have h2:∀j:Fin 32,8<=j.val->(0xFFFFFF00#32).getLsbD j.val=true:=by decide
  rw[h2 ⟨8+i,h⟩ (by simp)]
  simp
 ·rw[BitVec.getLsbD_of_ge r (8+i) (by omega)]
  rfl
theorem ai3(r b:kD):jH 8 (r ^^^ b)=(r>>>8) ^^^ jH 8 ((r&&&0xFF#32) ^^^ b):=by
 have h1:jH 8 (r&&&0xFFFFFF00#32)=(r&&&0xFFFFFF00#32)>>>8:=Ld 8 _ fun i hi=>by
  have h2:∀j:Fin 8,(0xFFFFFF00#32).getLsbD j.val=false:=by decide
  rw[Yg,h2 ⟨i,hi⟩,It]
 have h3:r ^^^ b=(r&&&0xFFFFFF00#32) ^^^ ((r&&&0xFF#32) ^^^ b):=by
  rw[<-Iw,<-ai1]
 rw[h3,Lc,h1,hi8]
def uL(r:kD)(l:List Int):kD:=l.foldl (fun r x=>jH 8 (r ^^^ BitVec.ofInt 32 x)) r
def eO(l:List Int):Int:=nV (~~~ (uL (~~~ 0#32) l))
theorem HR(l:List Int):0<=eO l/\eO l<4294967296:=LH _
theorem Le{r:kD}{l:List Int}{k:Nat}(h:k<l.length):uL r (l.take (k+1))=jH 8 (uL r (l.take k) ^^^ BitVec.ofInt 32 (l.getD k 0)):=by
 unfold uL;rw[P7 h,Xy];simp[h]
def dM(src:List Int):Int×List Int×Int:=if(aF src).2.2=0 then(if 65536<(aF src).1 then(0,[],5)else aF src)else(0,[],(aF src).2.2)
def lW{α:Type}(one:List Int->α×List Int×Int):Nat->List Int->List α->List α×List Int×Int
 |0,src,out=>(out,src,0)
 |f+1,src,out=>if(one src).2.2=0 then lW one f (one src).2.1 (out++[(one src).1])else([],[],(one src).2.2)
theorem C7{α:Type}(one:List Int->α×List Int×Int)(f:Nat)(src:List Int)(out:List α):lW one (f+1) src out=if(one src).2.2=0 then lW one f (one src).2.1 (out++[(one src).1])else([],[],(one src).2.2):=rfl
theorem FA{α:Type}(one:List Int->α×List Int×Int)(src:List Int)(out:List α):lW one 0 src out=(out,src,0):=rfl
def cC{α:Type}(one:List Int->α×List Int×Int)(src:List Int):List α×List Int×Int:=if(dM src).2.2=0 then lW one (dM src).1.toNat (dM src).2.1 []else([],[],(dM src).2.2)
def V0(l:List Int):aY:=((l.getD 0 0,l.getD 1 0,l.getD 2 0,l.getD 3 0),(l.getD 4 0,l.getD 5 0,l.getD 6 0,l.getD 7 0))
def kE(src:List Int):aY×List Int×Int:=if src.length<8 then(aO,[],10)else(V0 src,src.drop 8,0)
def fN(src:List Int):iC×List Int×Int:=
 if(aF src).2.2=0 then
  if(aF (aF src).2.1).2.2=0 then(((aF src).1,(aF (aF src).2.1).1,(cC kE (aF (aF src).2.1).2.1).1),(cC kE (aF (aF src).2.1).2.1).2.1,(cC kE (aF (aF src).2.1).2.1).2.2)
  else(j8,[],(aF (aF src).2.1).2.2)
 else(j8,[],(aF src).2.2)
def HS{α:Type}(one:List Int->α×List Int×Int):Prop:=∀src,(∀x∈src,aV x)->(∀x∈(one src).2.1,aV x)/\(one src).2.1.length<=src.length
theorem Q5:HS aF:=fun src h=>mB h
theorem HT:HS dM:=fun src h=>by
 unfold dM;have:=mB h;split
 ·split
  ·exact⟨fun x hx=>by simp at hx,by simp⟩
  ·exact this
 ·exact⟨fun x hx=>by simp at hx,by simp⟩
theorem Lf{α:Type}{one:List Int->α×List Int×Int}(h1:HS one):∀(f:Nat) (src:List Int) (out:List α),(∀x∈src,aV x)->(∀x∈(lW one f src out).2.1,aV x)/\(lW one f src out).2.1.length<=src.length
 |0,src,out,h=>⟨h,cA _⟩
 |f+1,src,out,h=>by
  rw[C7];split
  ·have h2:=h1 src h
   have h3:=Lf h1 f _ (out++[(one src).1]) h2.1;exact⟨h3.1,by omega⟩
  ·exact⟨fun x hx=>by simp at hx,by simp⟩
theorem Q6{α:Type}{one:List Int->α×List Int×Int}(h1:HS one):HS (cC one):=fun src h=>by
 unfold cC;have h2:=HT src h;split
 ·have h3:=Lf h1 (dM src).1.toNat _ [] h2.1
  exact⟨h3.1,by omega⟩
 ·exact⟨fun x hx=>by simp at hx,by simp⟩
theorem Ac:HS kE:=fun src h=>by
 unfold kE;split
 ·exact⟨fun x hx=>by simp at hx,by simp⟩
 ·exact⟨fun x hx=>h x (l5 hx),by simp⟩
theorem Ad:HS fN:=fun src h=>by
 unfold fN;have h1:=mB h;have h2:=mB h1.1;have h3:=Q6 Ac _ h2.1;split
 ·split
  ·exact⟨h3.1,by simp only[];omega⟩
  ·exact⟨fun x hx=>by simp at hx,by simp⟩
 ·exact⟨fun x hx=>by simp at hx,by simp⟩
theorem Lg{α:Type}{one:List Int->α×List Int×Int}:∀(f:Nat) (src:List Int) (out:List α),(lW one f src out).1.length<=f+out.length
 |0,src,out=>by rw[FA];simp
 |f+1,src,out=>by
  rw[C7];split
  ·have:=Lg (one:=one) f (one src).2.1 (out++[(one src).1])
   simp only[cP,eI,gL]at this;omega
  ·simp
theorem ai4{src:List Int}:(dM src).1<=65536:=by
 unfold dM;split
 ·split
  ·simp
  ·omega
 ·simp
theorem Q7{α:Type}{one:List Int->α×List Int×Int}(src:List Int):(cC one src).1.length<=65536:=by
 unfold cC;split
 ·have:=Lg (one:=one) (dM src).1.toNat (dM src).2.1 []
  have h2:=ai4 (src:=src);simp only[gL]at this;omega
 ·simp
theorem Lh{α:Type}{one:List Int->α×List Int×Int}{p:α->Prop}(hp:∀src,(one src).2.2=0->p (one src).1):∀(f:Nat) (src:List Int) (out:List α),(∀x∈out,p x)->∀x∈(lW one f src out).1,p x
 |0,src,out,h=>h
 |f+1,src,out,h=>by
  rw[C7];split
  ·rename_i g
   exact Lh hp f _ _ fun x hx=>by
    rcases BR.1 hx with hx|hx
    ·exact h x hx
    ·simp only[fB,mR,or_false]at hx
     subst hx;exact hp src g
  ·exact fun x hx=>by simp at hx
theorem ai5{α:Type}{one:List Int->α×List Int×Int}{p:α->Prop}(hp:∀src,(one src).2.2=0->p (one src).1)(src:List Int):∀x∈(cC one src).1,p x:=by
 unfold cC;split
 ·exact Lh hp _ _ _ fun x hx=>by simp at hx
 ·exact fun x hx=>by simp at hx
theorem Li:∀(f:Nat) (src:List Int) (i:Nat) (n:Int),(∀x∈src,aV x)->0<=n->0<=(eV f src i n).1
 |0,src,i,n,_,_=>by rw[PV];simp
 |f+1,src,i,n,h,h0=>by
  rw[EZ];have hp:=PX i;split
  ·rename_i hi
   have hx:=h _ (dC 0 hi);have h1:0<=src.getD i 0 % 128*2 ^ (7*i):=Int.mul_nonneg (by omega) (by omega)
   split
   ·exact Li f src (i+1) _ h (by omega)
   ·split
    ·simp
    ·simp only[];omega
  ·simp
theorem V1{src:List Int}(h:∀x∈src,aV x):0<=(aF src).1:=by
 unfold aF;split
 ·exact Li 8 src 0 0 h (by decide)
 ·simp
theorem LI{src:List Int}(h:∀x∈src,aV x)(h0:(dM src).2.2=0):(aF src).1=(dM src).1/\0<=(dM src).1/\(dM src).1<=65536/\(aF src).2.2=0:=by
 have h1:=V1 h;unfold dM at h0⊢;split at h0
 ·rename_i g
  rw[if_pos g];split at h0
  ·exact absurd h0 (by decide)
  ·rename_i g2
   rw[if_neg g2];exact⟨rfl,h1,by omega,g⟩
 ·rename_i g
  exact absurd h0 g
def jQ{α:Type}(enc:α->List Int)(l:List α):List Int:=b9 l.length++l.flatMap enc
def oQ(s:aY):List Int:=[s.1.1,s.1.2.1,s.1.2.2.1,s.1.2.2.2,s.2.1,s.2.2.1,s.2.2.2.1,s.2.2.2.2]
def mX(w:iC):List Int:=b9 w.1++b9 w.2.1++jQ oQ w.2.2
end Go.Proofs.YtioafciifiggaaaGreatDoor
namespace Go.Proofs.YtioafciifiggaaaGreatDoor
open Go.Proofs Go.AL
set_option maxRecDepth 100000
set_option maxHeartbeats 1000000
attribute [local irreducible] cB AW aX cZ dK hold
attribute [local irreducible] eV
def jR(src:List Int):aI:= .cells 376 1 [[.snap (aA aH src)]] true false
def kF{α:Type}(x:α×List Int×Int):Option aI:=if x.2.2=0 then some (jR x.2.1)else none
theorem V2(src:List Int)(hb:∀x∈src,aV x)(hl:src.length<=100000)(id:Nat):jZ Tryz.prog 212 [.ptr id 0 0] id (jR src) (kF (aF src)) (.aR [zV (aF src).1,zV (aF src).2.2]) 100:=by
 refine mstart Tryz.func212 Tryz.ntmps212 ?_;intro N G aC iL hG;have hE:∀F,eV 8 src 0 0=F->aF src=if F.2.2=0 then(F.1,src.drop F.2.1,0)else(0,[],F.2.2):=fun F h=>by unfold aF;rw[h]
 generalize aF src=X at*;unfold jR at iL;unfold kF jR;refine bO ?_;have hg:=gB src;generalize hF:eV 8 src 0 0=F at hE;have hX:∀F0,F=F0->X=if F0.2.2=0 then(F0.1,src.drop F0.2.1,0)else(0,[],F0.2.2):=fun F0 h=>by rw[<-h];exact hE F rfl
 clear hE;refine LJ (α:=Int) (G:=G) 8 (fun k n=> [(7,true,zV k),(4,true,zV n),(0,true,.ptr id 0 0)]) (fun _ _=> []) (fun k m n=>(N<=m/\m<=N+50)/\eV (8-k) src k n=F/\0<=n/\n<2 ^ (7*k)) ⟨N,0,⟨⟨cA _,by omega⟩,hF,by decide,by decide⟩,qX⟩ (fun k m n hk hR=> ?_) (fun m n hR=> ?_)
 ·obtain⟨h1,h2,h3,h4⟩:=hR
  have w0:IntKind.i64.wrap (7*(k:Int))=((7*k:Nat):Int):=by rw[IntWalk.i64_in _ (by omega)];omega
  by_cases g1:k<src.length
  ·have hx:=hb _ (dC 0 g1)
   obtain⟨w1,w2,w3,w4⟩:=ZM (b:=src.getD k 0) hk h3 h4;have a1:=Kj hx.1 hx.2;have a2:=Kk hx.1 hx.2;obtain⟨f,hf⟩:∃f,8-k=f+1:=⟨7-k,by omega⟩
   have jP:8-(k+1)=f:=by omega
   rw[hf]at h2;have wm:min (7*k) 64=7*k:=by omega
   have cV:=hg k g1;clear hb hg hF;generalize hv:src.getD k 0=b at*;rw[EZ,if_pos g1,hv]at h2;generalize F3:(2:Int) ^ (7*k)=p at*;have hp:(2:Int) ^ min (7*k) 64=p:=by rw[wm,F3]
   clear wm h4;generalize hq:b % 128*p=q at*;have w5:aU (n+q<2 ^ (7*(k+1))):=⟨w4⟩;clear w4;by_cases g2:128<=b
   ·rw[if_pos g2]at a2
    have h5:aU (eV (8-(k+1)) src (k+1) (n+q)=F):=⟨by rw[jP,<-h2,if_pos g2]⟩
    clear h2 jP hf;refine bO ?_;exact⟨m,_,⟨h1,h5.out,w3,w5.out⟩,qX⟩
   ·rw[if_neg g2]at a2
    have h5:F=if(b=0/\0<k)\/9007199254740991<n+q then(0,0,3)else(n+q,k+1,0):=by
     rw[<-h2,if_neg g2]
    clear h2 jP hf;by_cases g3:b=0/\0<k
    ·have h6:F=(0,0,3):=by rw[h5,if_pos (.inl g3)]
     obtain⟨g4,g5⟩:=g3;have g6:(0:Int)<k:=by omega
     have hY:=hX _ h6;rw[if_neg (by decide)]at hY
     clear hX;subst hY;clear h5 h6;rw[if_neg (by decide)]
     have nY:(b==(0:Int))=true:=by rw[g4];rfl
     clear g4;refine bO ?_;exact jI
    ·by_cases g4:9007199254740991<n+q
     ·have h6:F=(0,0,3):=by rw[h5,if_pos (.inr g4)]
      have hY:=hX _ h6;rw[if_neg (by decide)]at hY
      clear hX;subst hY;clear h5 h6;rw[if_neg (by decide)]
      by_cases g5:b=0
      ·have g6:¬(0:Int)<k:=by omega
       clear g3;have nY:(b==(0:Int))=true:=by rw[g5];rfl
       clear g5;refine bO ?_;exact jI
      ·clear g3
       refine bO ?_;exact jI
     ·have h6:F=(n+q,k+1,0):=by rw[h5,if_neg (by omega)]
      have hY:=hX _ h6;rw[if_pos rfl]at hY;clear hX;subst hY;clear h5 h6;rw[if_pos rfl];have e3:(src.drop (k+1)).take (src.length-(k+1))=src.drop (k+1):=cR (by rw[fX];omega)
      by_cases g5:b=0
      ·have g6:¬(0:Int)<k:=by omega
       clear g3;have nY:(b==(0:Int))=true:=by rw[g5];rfl
       clear g5;refine bO ?_;exact jI
      ·clear g3
       refine bO ?_;exact jI
  ·have h9:F=(0,0,10):=by rw[<-h2,show 8-k=(7-k)+1 by omega];rw[EZ,if_neg g1]
   have hY:=hX _ h9;rw[if_neg (by decide)]at hY
   clear hX;subst hY;clear h9 h2;rw[if_neg (by decide)]
   refine bO ?_;exact jI
 ·have h9:F=(0,0,3):=by rw[<-hR.2.1,tG,PV]
  have hm:=hR.1;have hY:=hX _ h9;rw[if_neg (by decide)]at hY
  clear hX;subst hY;clear h9 hR;rw[if_neg (by decide)]
  refine bO ?_;exact jI
end Go.Proofs.YtioafciifiggaaaGreatDoor
namespace Go.Proofs.YtioafciifiggaaaGreatDoor
open Go.Proofs Go.AL
set_option maxRecDepth 100000
set_option maxHeartbeats 1000000
attribute [local irreducible] cB AW aX cZ dK hold
def vY:List Int:=List.replicate 8 4096
def yU(c:oO):List Int:=b9 c.base++b9 c.number++b9 c.time++jQ b9 c.pos++jQ mX c.writes
def p9:oO:=⟨0,0,0,[],[]⟩
def rZ(c:oO):List Int×Int:=if xE c vY=0 then(if 65536<(yU c).length then([],5)else(yU c,0))else([],xE c vY)
def Ae(x1 x2 x3:Int×List Int×Int)(p:List Int×List Int×Int)(w:List iC×List Int×Int):oO×Int:=
 if x1.2.2=0 then
  if x2.2.2=0 then
   if x3.2.2=0 then
    if p.2.2=0 then
     if w.2.2=0 then
      if w.2.1=[]then
       if xE ⟨x1.1,x2.1,x3.1,p.1,w.1⟩ vY=0 then(⟨x1.1,x2.1,x3.1,p.1,w.1⟩,0)else(p9,xE ⟨x1.1,x2.1,x3.1,p.1,w.1⟩ vY)
      else(p9,3)
     else(p9,w.2.2)
    else(p9,p.2.2)
   else(p9,x3.2.2)
  else(p9,x2.2.2)
 else(p9,x1.2.2)
def uM(b:List Int):oO×Int:=
 if 65536<b.length then(p9,5)
 else Ae (aF b) (aF (aF b).2.1) (aF (aF (aF b).2.1).2.1) (cC aF (aF (aF (aF b).2.1).2.1).2.1) (cC fN (cC aF (aF (aF (aF b).2.1).2.1).2.1).2.1)
end Go.Proofs.YtioafciifiggaaaGreatDoor
