/- Staging. No condition. -/
import Derived.Test.YtioafciifiggaaaGreatDoorL0
import Derived.Test.YtioafciifiggaaaGreatDoorAe
import Derived.Test.YtioafciifiggaaaGreatDoorLe
set_option linter.all false
namespace Go.Proofs.YtioafciifiggaaaGreatDoor
open Go.Proofs Go.AL
set_option maxRecDepth 100000
set_option maxHeartbeats 1000000
attribute [local irreducible] cB AW aX cZ dK hold
theorem ad8(a:Option Addr)(cap:Nat):PC 151 [.c (.slice a 0 cap)] (.snap (aA aH [])):=by
 refine aT Tryz.func151 Tryz.ntmps151 (iJ _) ?_;cases a with
 |none=>
  refine aD ?_;simp only[D6];exact aB
 |some a=>
  refine aD ?_;simp only[D6];exact aB
theorem yT(l:List Int)(hl:l.length<=1000000):PC 151 [.snap (aA aH l)] (.snap (aA aH l)):=by
 by_cases h:l=[]
 ·subst h
  exact fD.nil (pre:=[]) (post:=[]) ad8
 ·refine aT Tryz.func151 Tryz.ntmps151 (iJ l) ?_
  have h1:=rS h;refine aD ?_;exact aB
theorem UT(l:List aY):(gY l).1.length<=31:=by
 unfold gY;split
 ·split
  ·simp
  ·split
   ·rw[eD];omega
   ·simp
 ·simp
theorem ad9(d:fJ)(a:Int)(A B:List Int×Int)(l m:List aY)(hA:A.1.length<=31)(hB:B.1.length<=31)(hc:PC 161 [.agg (dI d),zV a] (.aR [.agg (C4 A B l m),zV (A4 A B).1,zV (A4 A B).2])):
  PC 169 [.agg (dI d),zV a] (.aR (if(A4 A B).2=0 then(if(A4 A B).1=1 then [.snap (aA aH B.1),zV B.2,zV 0]else [.snap (aA aH A.1),zV A.2,zV 0])else [.snap (aA aH []),zV 0,zV 9])):=by
 have c3:=yT A.1 (by omega)
 have c4:=yT B.1 (by omega)
 obtain⟨pa,ga⟩:=A;obtain⟨pb,gb⟩:=B;unfold A4 C4 at*;simp only[]at*;unfold dI at hc⊢;by_cases g5:ga<gb
 ·rw[if_pos g5]at hc⊢
  by_cases g6:gb=0
  ·rw[if_pos g6]at hc⊢
   rw[if_neg (by decide)]
   refine aT Tryz.func169 Tryz.ntmps169 (by simp only[go_sem]) ?_
   refine aD ?_;exact aB
  ·rw[if_neg g6]at hc⊢
   rw[if_pos rfl,if_pos rfl];refine aT Tryz.func169 Tryz.ntmps169 (by simp only[go_sem]) ?_
   refine aD ?_;exact aB
 ·rw[if_neg g5]at hc⊢
  by_cases g6:ga=0
  ·rw[if_pos g6]at hc⊢
   rw[if_neg (by decide)]
   refine aT Tryz.func169 Tryz.ntmps169 (by simp only[go_sem]) ?_
   refine aD ?_;exact aB
  ·rw[if_neg g6]at hc⊢
   rw[if_pos rfl,if_neg (by decide)]
   refine aT Tryz.func169 Tryz.ntmps169 (by simp only[go_sem]) ?_
   refine aD ?_;exact aB
theorem ae0(d:fJ)(a:Int)(hs:d.st.length<=1000000)(h2:d.ca.length<=1000000)(he:(qV d a 16).2≠0):PC 161 [.agg (dI d),zV a] (.aR [.agg (C4 ([],0) ([],0) [] []),zV 0,zV (qV d a 16).2]):=by
 refine aT Tryz.func161 Tryz.ntmps161 (by simp only[go_sem,C4]) ?_
 have c2:=ZL d a 16 hs h2;generalize qV d a 16=F at*;obtain⟨L,e⟩:=F;simp only[]at c2 he;unfold dI at c2⊢;unfold C4;refine aD ?_;exact aB
theorem ae1(d:fJ)(a e:Int)(he:e≠0)(hc:PC 161 [.agg (dI d),zV a] (.aR [.agg (C4 ([],0) ([],0) [] []),zV 0,zV e])):PC 169 [.agg (dI d),zV a] (.aR [.snap (aA aH []),zV 0,zV e]):=by
 refine aT Tryz.func169 Tryz.ntmps169 (by simp only[go_sem]) ?_
 unfold dI C4 at*;simp only[]at hc;refine aD ?_;exact aB
theorem ae2{d:fJ}{a:Int}(g:(qV d a 16).2=0):l6 d=0/\0<=a/\a<=(d.st.length:Int)-16:=by
 unfold qV at g;by_cases h0:l6 d=0
 ·rw[if_pos h0]at g
  split at g
  ·exact absurd g (by decide)
  ·exact⟨h0,by omega,by omega⟩
 ·rw[if_neg h0]at g
  exact absurd g h0
theorem ae3{d:fJ}{a:Int}(hs:d.st.length<=1000000)(g:(qV d a 16).2≠0):kO d a=([],0,[],0,(qV d a 16).2):=by
 unfold qV at g⊢;unfold kO;by_cases h0:l6 d=0
 ·rw[if_pos h0]at g⊢
  split at g
  ·rename_i h1
   rw[if_pos h0,if_pos h1,if_pos (by omega)]
  ·exact absurd rfl g
 ·rw[if_neg h0]at g⊢
  rw[if_neg h0]
theorem ae4{d:fJ}{a:Int}(h0:l6 d=0)(h3:0<=a)(h4:a<=(d.st.length:Int)-16)(hA:0<=(gY ((fR d a).take 8)).2)(hB:0<=(gY ((fR d a).drop 8)).2):
  kO d a=if(A4 (gY ((fR d a).take 8)) (gY ((fR d a).drop 8))).2=0 then(if(A4 (gY ((fR d a).take 8)) (gY ((fR d a).drop 8))).1=1 then(fR d a,1,(gY ((fR d a).drop 8)).1,(gY ((fR d a).drop 8)).2,0)else(fR d a,0,(gY ((fR d a).take 8)).1,(gY ((fR d a).take 8)).2,0))else([],0,[],0,9):=by
 unfold kO A4;rw[if_pos h0,if_neg (by omega)]
 generalize gY ((fR d a).take 8)=A at*;generalize gY ((fR d a).drop 8)=B at*;by_cases g1:A.2<B.2
 ·rw[if_pos g1,if_pos g1,if_neg (by omega:¬B.2=0),if_neg (by omega:¬(A.2=0/\B.2=0)),if_pos rfl,if_pos rfl]
 ·rw[if_neg g1,if_neg g1]
  by_cases g2:A.2=0
  ·rw[if_pos g2,if_pos (by omega:A.2=0/\B.2=0),if_neg (by decide)]
  ·rw[if_neg g2,if_neg (by omega:¬(A.2=0/\B.2=0)),if_pos rfl,if_neg (by decide)]
theorem ae5(d:fJ)(a:Int)(hs:d.st.length<=1000000)(h2:d.ca.length<=1000000)(hk:∀s∈iK d.st d.ca,eR s):PC 169 [.agg (dI d),zV a] (.aR [.snap (aA aH (kO d a).2.2.1),zV (kO d a).2.2.2.1,zV (kO d a).2.2.2.2]):=by
 by_cases g:(qV d a 16).2=0
 ·obtain⟨h0,h3,h4⟩:=ae2 g
  have kP:∀s∈fR d a,eR s:=fun s hs=>hk s (l5 (qB hs))
  have gA:=US (l:=(fR d a).take 8) fun s hs=>kP s (qB hs)
  have gB:=US (l:=(fR d a).drop 8) fun s hs=>kP s (l5 hs)
  have c:=ad9 d a _ _ _ _ (UT _) (UT _) (ad7 d a hs h2 hk h0 h3 h4);rw[ae4 h0 h3 h4 gA.1 gB.1];split at c
  ·rename_i e1
   rw[if_pos e1];split at c
   ·rename_i e2
    rw[if_pos e2];exact c
   ·rename_i e2
    rw[if_neg e2];exact c
  ·rename_i e1
   rw[if_neg e1];exact c
 ·rw[ae3 hs g]
  exact ae1 d a _ g (ae0 d a hs h2 g)
theorem Kj{x:Int}(h0:0<=x)(h1:x<256):bits .and .u8 x 127=x % 128:=bits_mask .u8 8 (by decide) wraps_u8 7 (by decide) x h0 h1
theorem Kk{x:Int}(h0:0<=x)(h1:x<256):bits .and .u8 x 128=(if 128<=x then 128 else 0):=by
 have key:∀i:Fin 256,bits .and .u8 ((i.val:Nat):Int) 128=(if 128<=i.val then 128 else 0):=by decide
 have:=key ⟨x.toNat,by omega⟩
 simp only at this;rw[show((x.toNat:Nat):Int)=x by omega]at this
 rw[this];by_cases h:128<=x
 ·rw[if_pos h,if_pos (by omega)]
 ·rw[if_neg h,if_neg (by omega)]
def eV:Nat->List Int->Nat->Int->Int×Nat×Int
 |0,_,_,_=>(0,0,3)
 |f+1,src,i,n=>
  if i<src.length then
   if 128<=src.getD i 0 then eV f src (i+1) (n+src.getD i 0 % 128*2 ^ (7*i))
   else if(src.getD i 0=0/\0<i)\/9007199254740991<n+src.getD i 0 % 128*2 ^ (7*i)then(0,0,3)
   else(n+src.getD i 0 % 128*2 ^ (7*i),i+1,0)
  else(0,0,10)
theorem EZ(f:Nat)(src:List Int)(i:Nat)(n:Int):eV (f+1) src i n=if i<src.length then if 128<=src.getD i 0 then eV f src (i+1) (n+src.getD i 0 % 128*2 ^ (7*i))else if(src.getD i 0=0/\0<i)\/9007199254740991<n+src.getD i 0 % 128*2 ^ (7*i)then(0,0,3)else(n+src.getD i 0 % 128*2 ^ (7*i),i+1,0)else(0,0,10):=rfl
theorem PV(src:List Int)(i:Nat)(n:Int):eV 0 src i n=(0,0,3):=rfl
theorem Kl(k:Nat):(2:Int) ^ (7*(k+1))=128*2 ^ (7*k):=by
 rw[Nat.mul_add,Int.pow_add];omega
theorem PX(k:Nat):(0:Int)<2 ^ (7*k):=Int.pow_pos (by decide)
theorem Km{k:Nat}(h:k<=8):(2:Int) ^ (7*k)<=2 ^ 56:=by
 obtain⟨j,hj⟩:=Nat.exists_eq_add_of_le h;have e:(2:Int) ^ 56=2 ^ (7*k)*2 ^ (7*j):=by rw[<-Int.pow_add];congr 1;omega
 rw[e];have h1:=PX j;have h2:=PX k;have:=Int.mul_le_mul_of_nonneg_left (show(1:Int)<=2 ^ (7*j)by omega) (show(0:Int)<=2 ^ (7*k)by omega)
 omega
theorem ZM{k:Nat}{n b:Int}(hk:k<8)(h0:0<=n)(h1:n<2 ^ (7*k)):
  IntKind.i64.wrap (b % 128*2 ^ (7*k))=b % 128*2 ^ (7*k)/\bits .or .i64 n (b % 128*2 ^ (7*k))=n+b % 128*2 ^ (7*k)/\0<=n+b % 128*2 ^ (7*k)/\n+b % 128*2 ^ (7*k)<2 ^ (7*(k+1)):=by
 have ZN:(2:Int) ^ 56=72057594037927936:=by decide
 have h2:=PX k;have h3:=Kl k;have h4:=Km (k:=k+1) (by omega)
 generalize hm:b % 128=m at*;have HN:0<=m:=by omega
 have nZ:m<=127:=by omega
 have h5:m*2 ^ (7*k)<=127*2 ^ (7*k):=Int.mul_le_mul_of_nonneg_right nZ (by omega)
 have h6:0<=m*2 ^ (7*k):=Int.mul_nonneg HN (by omega)
 refine⟨IntWalk.i64_in _ (by omega),?_,by omega,by omega⟩
 have e:=bits_join .i64 56 (by decide) (fun n a b=>IntWalk.i64_in _ (by omega)) (7*k) (m*2 ^ (7*k)) n h6 (by simp) (by omega) h0 h1 (by omega)
 simp only[bits,BitVec.or_comm]at e⊢;rw[e];omega
def aF(src:List Int):Int×List Int×Int:=
 if(eV 8 src 0 0).2.2=0 then((eV 8 src 0 0).1,src.drop (eV 8 src 0 0).2.1,0)else(0,[],(eV 8 src 0 0).2.2)
attribute [local irreducible] eV
theorem A5(src:List Int)(hb:∀x∈src,aV x)(hl:src.length<=100000):PC 170 [.snap (aA aH src)] (.aR [zV (aF src).1,.snap (aA aH (aF src).2.1),zV (aF src).2.2]):=by
 refine aT Tryz.func170 Tryz.ntmps170 (by simp only[go_sem]) ?_
 refine aD ?_;refine nS Tryz.func211 Tryz.ntmps211 ?_;refine aD ?_;refine nS Tryz.func212 Tryz.ntmps212 ?_;refine aD ?_;have hg:=gB src;unfold aF;generalize hF:eV 8 src 0 0=F;refine dP (α:=Int) 8 (fun k n=> [(7,true,zV k),(4,true,zV n),(0,true,.ptr 0 0 0)]) (fun _ _=> [(0,some (.cells 376 1 [[.snap (aA aH src)]] true false))]) (fun k m n=>1<=m/\eV (8-k) src k n=F/\0<=n/\n<2 ^ (7*k)) ⟨1,0,⟨cA _,hF,by decide,by decide⟩,aN⟩ (fun k m n hk hR=> ?_) (fun m n hR=> ?_)
 ·obtain⟨h1,h2,h3,h4⟩:=hR
  have w0:IntKind.i64.wrap (7*(k:Int))=((7*k:Nat):Int):=by rw[IntWalk.i64_in _ (by omega)];omega
  by_cases g1:k<src.length
  ·have hx:=hb _ (dC 0 g1)
   obtain⟨w1,w2,w3,w4⟩:=ZM (b:=src.getD k 0) hk h3 h4;have a1:=Kj hx.1 hx.2;have a2:=Kk hx.1 hx.2;obtain⟨f,hf⟩:∃f,8-k=f+1:=⟨7-k,by omega⟩
   have jP:8-(k+1)=f:=by omega
   rw[hf]at h2;have wm:min (7*k) 64=7*k:=by omega
   have cV:=hg k g1;clear hb hg hF;generalize hv:src.getD k 0=b at*;rw[EZ,if_pos g1,hv]at h2;generalize F3:(2:Int) ^ (7*k)=p at*;have hp:(2:Int) ^ min (7*k) 64=p:=by rw[wm,F3]
   clear wm h4;generalize hq:b % 128*p=q at*;have w5:aU (n+q<2 ^ (7*(k+1))):=⟨w4⟩;clear w4;by_cases g2:128<=b
   ·rw[if_pos g2]at a2
    have h5:aU (eV (8-(k+1)) src (k+1) (n+q)=F):=⟨by rw[jP,<-h2,if_pos g2]⟩
    clear h2 jP hf;refine aD ?_;exact⟨m,_,⟨h1,h5.out,w3,w5.out⟩,aN⟩
   ·rw[if_neg g2]at a2
    have h5:F=if(b=0/\0<k)\/9007199254740991<n+q then(0,0,3)else(n+q,k+1,0):=by
     rw[<-h2,if_neg g2]
    clear h2 jP hf;by_cases g3:b=0/\0<k
    ·have h6:F=(0,0,3):=by rw[h5,if_pos (.inl g3)]
     obtain⟨g4,g5⟩:=g3;have g6:(0:Int)<k:=by omega
     rw[h6];clear h5 h6;have nY:(b==(0:Int))=true:=by rw[g4];rfl
     clear g4;refine aD ?_;exact aB
    ·by_cases g4:9007199254740991<n+q
     ·have h6:F=(0,0,3):=by rw[h5,if_pos (.inr g4)]
      rw[h6];clear h5 h6;by_cases g5:b=0
      ·have g6:¬(0:Int)<k:=by omega
       clear g3;have nY:(b==(0:Int))=true:=by rw[g5];rfl
       clear g5;refine aD ?_;exact aB
      ·clear g3
       refine aD ?_;exact aB
     ·have h6:F=(n+q,k+1,0):=by rw[h5,if_neg (by omega)]
      rw[h6];clear h5 h6;have c3:=yT (src.drop (k+1)) (by rw[fX];omega)
      have e3:(src.drop (k+1)).take (src.length-(k+1))=src.drop (k+1):=cR (by rw[fX];omega)
      by_cases g5:b=0
      ·have g6:¬(0:Int)<k:=by omega
       clear g3;have nY:(b==(0:Int))=true:=by rw[g5];rfl
       clear g5;refine aD ?_;exact aB
      ·clear g3
       refine aD ?_;exact aB
  ·refine aD ?_
   have h9:F=(0,0,10):=by rw[<-h2,show 8-k=(7-k)+1 by omega];rw[EZ,if_neg g1]
   rw[h9];exact aB
 ·have h9:F=(0,0,3):=by rw[<-hR.2.1,tG,PV]
  refine aD ?_;rw[h9];exact aB
end Go.Proofs.YtioafciifiggaaaGreatDoor
namespace Go.Proofs.YtioafciifiggaaaGreatDoor
open Go.Proofs Go.AL
set_option maxRecDepth 100000
set_option maxHeartbeats 1000000
attribute [local irreducible] cB AW aX cZ dK hold
attribute [local irreducible] eV
theorem ae6(src:List Int)(hb:∀x∈src,aV x)(hl:src.length<=100000):PC 216 [.snap (aA aH src)] (.aR [zV (eV 8 src 0 0).1,zV ((eV 8 src 0 0).2.1:Nat),zV (eV 8 src 0 0).2.2]):=by
 refine aT Tryz.func216 Tryz.ntmps216 (by simp only[go_sem]) ?_
 refine aD ?_;have hg:=gB src;generalize hF:eV 8 src 0 0=F;refine dP (α:=Int) 8 (fun k n=> [(7,true,zV k),(6,true,zV (2 ^ (7*k))),(5,true,zV n),(0,true,.snap (aA aH src))]) (fun _ _=> []) (fun k m n=>eV (8-k) src k n=F/\0<=n/\n<2 ^ (7*k)) ⟨0,0,⟨hF,by decide,by decide⟩,aN⟩ (fun k m n hk hR=> ?_) (fun m n hR=> ?_)
 ·obtain⟨h2,h3,h4⟩:=hR
  by_cases g1:k<src.length
  ·have hx:=hb _ (dC 0 g1)
   obtain⟨w1,w2,w3,w4⟩:=ZM (b:=src.getD k 0) hk h3 h4;obtain⟨f,hf⟩:∃f,8-k=f+1:=⟨7-k,by omega⟩
   have jP:8-(k+1)=f:=by omega
   rw[hf]at h2;have cV:=hg k g1;obtain⟨gR,hx2⟩:=hx;clear hb hg hF;generalize hv:src.getD k 0=b at*;rw[EZ,if_pos g1,hv]at h2;have PY:=Kl k;have Kn:=PX k;have F5:=Km (k:=k+1) (by omega)
   have ZN:(2:Int) ^ 56=72057594037927936:=by decide
   rw[ZN]at F5;have w5:aU (n+b % 128*2 ^ (7*k)<2 ^ (7*(k+1))):=⟨w4⟩;have wt:IntKind.i64.wrap (2 ^ (7*k)*128)=2 ^ (7*(k+1)):=by rw[IntWalk.i64_in _ (by omega)];omega
   have wr:b.tmod 128=b % 128:=KT gR;have wn:IntKind.i64.wrap (n+b % 128*2 ^ (7*k))=n+b % 128*2 ^ (7*k):=IntWalk.i64_in _ (by omega)
   clear PY F5 ZN w2 w4;generalize (2:Int) ^ (7*(k+1))=p2 at*;generalize (2:Int) ^ (7*k)=p at*;clear h4 Kn;generalize hq:b % 128*p=q at*;by_cases g2:128<=b
   ·have h5:aU (eV (8-(k+1)) src (k+1) (n+q)=F):=⟨by rw[jP,<-h2,if_pos g2]⟩
    clear h2 jP hf;have g3:¬b<128:=by omega
    refine aD ?_;exact⟨m,_,⟨h5.out,w3,w5.out⟩,aN⟩
   ·have h5:F=if(b=0/\0<k)\/9007199254740991<n+q then(0,0,3)else(n+q,k+1,0):=by
     rw[<-h2,if_neg g2]
    clear h2 jP hf;have g9:b<128:=by omega
    by_cases g3:b=0/\0<k
    ·have h6:F=(0,0,3):=by rw[h5,if_pos (.inl g3)]
     obtain⟨g4,g5⟩:=g3;have g6:(0:Int)<k:=by omega
     rw[h6];clear h5 h6;have nY:(b==(0:Int))=true:=by rw[g4];rfl
     clear g4;refine aD ?_;exact aB
    ·by_cases g4:9007199254740991<n+q
     ·have h6:F=(0,0,3):=by rw[h5,if_pos (.inr g4)]
      rw[h6];clear h5 h6;by_cases g5:b=0
      ·have g6:¬(0:Int)<k:=by omega
       clear g3;have nY:(b==(0:Int))=true:=by rw[g5];rfl
       clear g5;refine aD ?_;exact aB
      ·clear g3
       refine aD ?_;exact aB
     ·have h6:F=(n+q,k+1,0):=by rw[h5,if_neg (by omega)]
      rw[h6];clear h5 h6;by_cases g5:b=0
      ·have g6:¬(0:Int)<k:=by omega
       clear g3;have nY:(b==(0:Int))=true:=by rw[g5];rfl
       clear g5;refine aD ?_;exact aB
      ·clear g3
       refine aD ?_;exact aB
  ·have h9:F=(0,0,10):=by rw[<-h2,show 8-k=(7-k)+1 by omega,EZ,if_neg g1]
   rw[h9];clear h9 h2;refine aD ?_;exact aB
 ·have h9:F=(0,0,3):=by rw[<-hR.1,tG,PV]
  rw[h9];clear h9 hR;refine aD ?_;exact aB
theorem Ko(src:List Int)(n:Nat)(hn:n<=src.length)(hl:src.length<=100000):PC 217 [.snap (aA aH src),zV n] (.snap (aA aH (src.drop n))):=by
 refine aT Tryz.func217 Tryz.ntmps217 (by simp only[go_sem]) ?_
 have e3:(src.drop n).take (src.length-n)=src.drop n:=cR (by rw[fX];omega)
 cases hE:src.drop n with
 |nil=>
  rw[hE]at e3;refine aD ?_;exact aB
 |cons x r=>
  have bQ:(x::r).length<=100000:=by rw[<-hE,fX];omega
  simp only[eI]at bQ;rw[hE]at e3;refine aD ?_;exact aB
theorem Kp:∀(f:Nat) (src:List Int) (i:Nat) (n:Int),(eV f src i n).2.2=0->(eV f src i n).2.1<=src.length
 |0,_,_,_,h=>by rw[PV]at h;simp at h
 |f+1,src,i,n,h=>by
  rw[EZ]at h⊢;split at h
  ·rename_i h1
   rw[if_pos h1];split at h
   ·rename_i h2
    rw[if_pos h2];exact Kp f src _ _ h
   ·rename_i h2
    rw[if_neg h2];split at h
    ·simp at h
    ·rename_i h3
     rw[if_neg h3];exact h1
  ·simp at h
theorem vW(src:List Int)(hb:∀x∈src,aV x)(hl:src.length<=100000):PC 177 [.snap (aA aH src)] (.aR [zV (aF src).1,.snap (aA aH (aF src).2.1),zV (aF src).2.2]):=by
 refine aT Tryz.func177 Tryz.ntmps177 (by simp only[go_sem]) ?_
 have c1:=ae6 src hb hl;have h1:=Kp 8 src 0 0;unfold aF;generalize eV 8 src 0 0=F at*;obtain⟨n,k,e⟩:=F;simp only[]at c1 h1⊢;by_cases g:e=0
 ·have c2:=Ko src k (h1 g) hl
  rw[if_pos g];clear h1 hb;refine aD ?_;exact aB
 ·rw[if_neg g]
  clear h1 hb;refine aD ?_;exact aB
theorem mB{src:List Int}(hb:∀x∈src,aV x):(∀x∈(aF src).2.1,aV x)/\(aF src).2.1.length<=src.length:=by
 unfold aF;split
 ·exact⟨fun x hx=>hb x (l5 hx),by simp⟩
 ·exact⟨fun x hx=>by simp at hx,by simp⟩
end Go.Proofs.YtioafciifiggaaaGreatDoor
namespace Go.Proofs.YtioafciifiggaaaGreatDoor
open Go.Proofs Go.AL
set_option maxRecDepth 100000
set_option maxHeartbeats 1000000
attribute [local irreducible] cB AW aX cZ dK hold
theorem Kq{l:List aY}(h:∀s∈l,eR s):∀x∈(gY l).1,aV x:=by
 have hd:∀x∈eE l,aV x:=fun x hx=>by
  obtain⟨s,hs,hx⟩:=sJ.1 hx;exact(h s hs).2 x hx
 unfold gY;split
 ·split
  ·intro x hx;simp at hx
  ·split
   ·exact fun x hx=>hd x (l5 (qB hx))
   ·intro x hx;simp at hx
 ·intro x hx;simp at hx
theorem ZO{d:fJ}{a:Int}(hk:∀s∈iK d.st d.ca,eR s):(∀x∈(kO d a).2.2.1,aV x)/\(kO d a).2.2.1.length<=31:=by
 have kP:∀s∈fR d a,eR s:=fun s hs=>hk s (l5 (qB hs))
 have h1:=Kq (l:=(fR d a).take 8) fun s hs=>kP s (qB hs)
 have h2:=Kq (l:=(fR d a).drop 8) fun s hs=>kP s (l5 hs)
 have h3:=UT ((fR d a).take 8);have h4:=UT ((fR d a).drop 8);unfold kO;split
 ·split
  ·exact⟨fun x hx=>by simp at hx,by simp⟩
  ·split
   ·exact⟨fun x hx=>by simp at hx,by simp⟩
   ·split
    ·exact⟨h2,h4⟩
    ·exact⟨h1,h3⟩
 ·exact⟨fun x hx=>by simp at hx,by simp⟩
@[go_sem] theorem bE4(v:Value)(s:aY):List.take 9 (AV.c v::(aQ s++[]))=AV.c v::aQ s:=rfl
@[go_sem] theorem bE5(v:Value)(s:aY):List.take 9 (AV.c v::aQ s)=AV.c v::aQ s:=rfl
@[go_sem] theorem bE6(v:Value)(s:aY):List.drop 9 (AV.c v::aQ s)=[]:=rfl
abbrev ZP:=Int×Int×List aY
def F6:ZP:=(0,0,[])
theorem gO(l:List ZP)(k:Nat)(h:k<l.length):(aA bC l)[k]? =some (bC (l.getD k F6)):=pQ F6 h
theorem tL{α:Type}{l:List α}{k:Nat}(z:α)(h:k<l.length):l.drop k=l.getD k z::l.drop (k+1):=by
 rw[YW h,lC,fU h];rfl
@[go_sem] theorem bE7(G:Nat->Option aI)(k:Nat)(l:List Int):((aA aH l).all fun row=>row.all (fresh G k))=true:=by
  rw[gK];intro row hr;simp only[aA,mS]at hr;obtain⟨x,_,rfl⟩:=hr;cases k<;>rfl
end Go.Proofs.YtioafciifiggaaaGreatDoor
