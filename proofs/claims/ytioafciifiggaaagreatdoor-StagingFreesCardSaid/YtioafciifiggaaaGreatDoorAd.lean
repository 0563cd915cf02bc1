/- Staging. No condition. -/
import Derived.Test.YtioafciifiggaaaGreatDoorL0
import Derived.Test.YtioafciifiggaaaGreatDoorAc
set_option linter.all false
namespace Go.Proofs.YtioafciifiggaaaGreatDoor
open Go.Proofs Go.AL
set_option maxRecDepth 100000
set_option maxHeartbeats 1000000
attribute [local irreducible] cH AW b9 dR eH hold
theorem CZ(d:bL)(h1:d.st.length<=1000000)(h2:d.ca.length<=1000000):PC 34 [.agg (bM d)] (zV (dM d)):=by
 refine bI Tryz.func34 Tryz.ntmps34 (.c _) ?_;have c1:=aM6 d h1 h2;unfold dM;unfold U9 bM at c1;unfold bM;by_cases g1:4096<d.st.length
 ·have g2:(4096:Int)<(d.st.length:Int):=by omega
  clear c1;refine aG ?_;exact aC
 have g2:¬(4096:Int)<(d.st.length:Int):=by omega
 rw[if_neg g1];cases h:d.ca.any (pZ d.st.length)with
 |true=>
  rw[h]at c1;refine aG ?_;exact aC
 |false=>
  rw[h]at c1;refine aG ?_;exact aC
theorem Gt(d:bL)(s n:Int)(hs:d.st.length<=1000000)(h2:d.ca.length<=1000000):PC 108 [.agg (bM d),.agg [zV s,zV n]] (.aU [.snap (aA aS (tO d s n).1),zV (tO d s n).2]):=by
 refine bI Tryz.func108 Tryz.ntmps108 (by simp only[go_sem]) ?_
 have c1:=CZ d hs h2;have c3:=Us d s n hs;unfold tO;by_cases g:dM d=0
 ·have c2:=Uu d h2 g
  rw[if_pos g];have e0:=wJ d.ca d.st;rw[g]at c1;clear g;by_cases g1:s<0\/n<0\/(d.st.length:Int)<n\/(d.st.length:Int)-n<s
  ·have e:l5 d s n=false:=by
    cases h:l5 d s n with
    |false=>rfl
    |true=>
     simp only[l5,k6,decide_eq_true_eq]at h;omega
   rw[if_pos g1];rw[e]at c3;unfold bM at c1 c2 c3⊢;clear g1;refine aG ?_;exact aC
  ·have e:l5 d s n=true:=by
    simp only[l5,k6,decide_eq_true_eq];omega
   rw[if_neg g1];rw[e]at c3;unfold bM at c1 c2 c3⊢;obtain⟨S,rfl⟩:=BA (by omega:0<=s)
   obtain⟨N,rfl⟩:=BA (by omega:0<=n)
   have e1:((S:Int)+(N:Int)-(S:Int)).toNat=N:=by omega
   have g2:S+N<=d.st.length:=by omega
   have g3:d.st.length<=1000000:=hs;clear g1;refine aG ?_;exact aC
 ·rw[if_neg g]
  unfold bM at c1⊢;refine aG ?_;exact aC
def BK(A B:List Int×Int)(l m:List aH):List AV:=[zV A.2,.snap (aA aN A.1),.snap (aA aS l),zV B.2,.snap (aA aN B.1),.snap (aA aS m)]
def pF(A B:List Int×Int):Int×Int:=if A.2<B.2 then(if B.2=0 then(0,9)else(1,0))else if A.2=0 then(0,9)else(0,0)
theorem Gu(d:bL)(a:Int)(hs:d.st.length<=1000000)(h2:d.ca.length<=1000000)(hk:∀s∈fA d.st d.ca,dC s)(h0:dM d=0)(h3:0<=a)(h4:a<=(d.st.length:Int)-16):PC 161 [.agg (bM d),zV a] (.aU [.agg (BK (eB ((cN d a).take 8)) (eB ((cN d a).drop 8)) ((cN d a).take 8) ((cN d a).drop 8)),zV (pF (eB ((cN d a).take 8)) (eB ((cN d a).drop 8))).1,zV (pF (eB ((cN d a).take 8)) (eB ((cN d a).drop 8))).2]):=by
 refine bI Tryz.func161 Tryz.ntmps161 (by simp only[go_sem,BK]) ?_
 have c2:=Gt d a 16 hs h2;unfold tO at c2;rw[if_pos h0,if_neg (by omega)]at c2
 have e0:=wJ d.ca d.st;have e1:(cN d a).length=16:=by unfold cN;rw[cU,eF];omega
 have c2':PC 108 [.agg (bM d),.agg [zV a,zV 16]] (.aU [.snap (aA aS (cN d a)),zV 0]):=c2;have iX:∀s∈cN d a,dC s:=fun s hs=>hk s (lJ (oS hs))
 clear c2 hk h0;unfold bM at c2'⊢;generalize cN d a=L at*;have c3:=Un (L.take 8) (by rw[cU];omega) fun s hs=>iX s (oS hs)
 have c4:=Un (L.drop 8) (by rw[eF];omega) fun s hs=>iX s (lJ hs)
 have e2:(L.drop 8).take 8=L.drop 8:=eD (by rw[eF];omega)
 clear iX;generalize eB (L.take 8)=A at*;generalize eB (L.drop 8)=B at*;obtain⟨pa,ga⟩:=A;obtain⟨pb,gb⟩:=B;unfold copyV at c3 c4;unfold BK pF;simp only[]at c3 c4⊢;by_cases g5:ga<gb
 ·rw[if_pos g5]
  by_cases g6:gb=0
  ·rw[if_pos g6]
   refine aG ?_;exact aC
  ·rw[if_neg g6]
   refine aG ?_;exact aC
 ·rw[if_neg g5]
  by_cases g6:ga=0
  ·rw[if_pos g6]
   refine aG ?_;exact aC
  ·rw[if_neg g6]
   refine aG ?_;exact aC
theorem aM8(a:Option Addr)(cap:Nat):PC 151 [.c (.slice a 0 cap)] (.snap (aA aN [])):=by
 refine bI Tryz.func151 Tryz.ntmps151 (kL _) ?_;cases a with
 |none=>
  refine aG ?_;simp only[G6];exact aC
 |some a=>
  refine aG ?_;simp only[G6];exact aC
theorem BL(l:List Int)(hl:l.length<=1000000):PC 151 [.snap (aA aN l)] (.snap (aA aN l)):=by
 by_cases h:l=[]
 ·subst h
  exact eU.nil (pre:=[]) (post:=[]) aM8
 ·refine bI Tryz.func151 Tryz.ntmps151 (kL l) ?_
  have h1:=wG h;refine aG ?_;exact aC
theorem ZI(l:List aH):(eB l).1.length<=31:=by
 unfold eB;split
 ·split
  ·simp
  ·split
   ·rw[cU];omega
   ·simp
 ·simp
theorem aM9(d:bL)(a:Int)(A B:List Int×Int)(l m:List aH)(hA:A.1.length<=31)(hB:B.1.length<=31)(hc:PC 161 [.agg (bM d),zV a] (.aU [.agg (BK A B l m),zV (pF A B).1,zV (pF A B).2])):
  PC 169 [.agg (bM d),zV a] (.aU (if(pF A B).2=0 then(if(pF A B).1=1 then [.snap (aA aN B.1),zV B.2,zV 0]else [.snap (aA aN A.1),zV A.2,zV 0])else [.snap (aA aN []),zV 0,zV 9])):=by
 have c3:=BL A.1 (by omega)
 have c4:=BL B.1 (by omega)
 obtain⟨pa,ga⟩:=A;obtain⟨pb,gb⟩:=B;unfold pF BK at*;simp only[]at*;unfold bM at hc⊢;by_cases g5:ga<gb
 ·rw[if_pos g5]at hc⊢
  by_cases g6:gb=0
  ·rw[if_pos g6]at hc⊢
   rw[if_neg (by decide)]
   refine bI Tryz.func169 Tryz.ntmps169 (by simp only[go_sem]) ?_
   refine aG ?_;exact aC
  ·rw[if_neg g6]at hc⊢
   rw[if_pos rfl,if_pos rfl];refine bI Tryz.func169 Tryz.ntmps169 (by simp only[go_sem]) ?_
   refine aG ?_;exact aC
 ·rw[if_neg g5]at hc⊢
  by_cases g6:ga=0
  ·rw[if_pos g6]at hc⊢
   rw[if_neg (by decide)]
   refine bI Tryz.func169 Tryz.ntmps169 (by simp only[go_sem]) ?_
   refine aG ?_;exact aC
  ·rw[if_neg g6]at hc⊢
   rw[if_pos rfl,if_neg (by decide)]
   refine bI Tryz.func169 Tryz.ntmps169 (by simp only[go_sem]) ?_
   refine aG ?_;exact aC
theorem Uv(d:bL)(a:Int)(hs:d.st.length<=1000000)(h2:d.ca.length<=1000000)(he:(tO d a 16).2≠0):PC 161 [.agg (bM d),zV a] (.aU [.agg (BK ([],0) ([],0) [] []),zV 0,zV (tO d a 16).2]):=by
 refine bI Tryz.func161 Tryz.ntmps161 (by simp only[go_sem,BK]) ?_
 have c2:=Gt d a 16 hs h2;generalize tO d a 16=F at*;obtain⟨L,e⟩:=F;simp only[]at c2 he;unfold bM at c2⊢;unfold BK;refine aG ?_;exact aC
theorem aN0(d:bL)(a e:Int)(he:e≠0)(hc:PC 161 [.agg (bM d),zV a] (.aU [.agg (BK ([],0) ([],0) [] []),zV 0,zV e])):PC 169 [.agg (bM d),zV a] (.aU [.snap (aA aN []),zV 0,zV e]):=by
 refine bI Tryz.func169 Tryz.ntmps169 (by simp only[go_sem]) ?_
 unfold bM BK at*;simp only[]at hc;refine aG ?_;exact aC
theorem Gv{d:bL}{a:Int}(g:(tO d a 16).2=0):dM d=0/\0<=a/\a<=(d.st.length:Int)-16:=by
 unfold tO at g;by_cases h0:dM d=0
 ·rw[if_pos h0]at g
  split at g
  ·exact absurd g (by decide)
  ·exact⟨h0,by omega,by omega⟩
 ·rw[if_neg h0]at g
  exact absurd g h0
theorem Gw{d:bL}{a:Int}(hs:d.st.length<=1000000)(g:(tO d a 16).2≠0):oE d a=([],0,[],0,(tO d a 16).2):=by
 unfold tO at g⊢;unfold oE;by_cases h0:dM d=0
 ·rw[if_pos h0]at g⊢
  split at g
  ·rename_i h1
   rw[if_pos h0,if_pos h1,if_pos (by omega)]
  ·exact absurd rfl g
 ·rw[if_neg h0]at g⊢
  rw[if_neg h0]
theorem Gx{d:bL}{a:Int}(h0:dM d=0)(h3:0<=a)(h4:a<=(d.st.length:Int)-16)(hA:0<=(eB ((cN d a).take 8)).2)(hB:0<=(eB ((cN d a).drop 8)).2):
  oE d a=if(pF (eB ((cN d a).take 8)) (eB ((cN d a).drop 8))).2=0 then(if(pF (eB ((cN d a).take 8)) (eB ((cN d a).drop 8))).1=1 then(cN d a,1,(eB ((cN d a).drop 8)).1,(eB ((cN d a).drop 8)).2,0)else(cN d a,0,(eB ((cN d a).take 8)).1,(eB ((cN d a).take 8)).2,0))else([],0,[],0,9):=by
 unfold oE pF;rw[if_pos h0,if_neg (by omega)]
 generalize eB ((cN d a).take 8)=A at*;generalize eB ((cN d a).drop 8)=B at*;by_cases g1:A.2<B.2
 ·rw[if_pos g1,if_pos g1,if_neg (by omega:¬B.2=0),if_neg (by omega:¬(A.2=0/\B.2=0)),if_pos rfl,if_pos rfl]
 ·rw[if_neg g1,if_neg g1]
  by_cases g2:A.2=0
  ·rw[if_pos g2,if_pos (by omega:A.2=0/\B.2=0),if_neg (by decide)]
  ·rw[if_neg g2,if_neg (by omega:¬(A.2=0/\B.2=0)),if_pos rfl,if_neg (by decide)]
theorem aN1(d:bL)(a:Int)(hs:d.st.length<=1000000)(h2:d.ca.length<=1000000)(hk:∀s∈fA d.st d.ca,dC s):PC 169 [.agg (bM d),zV a] (.aU [.snap (aA aN (oE d a).2.2.1),zV (oE d a).2.2.2.1,zV (oE d a).2.2.2.2]):=by
 by_cases g:(tO d a 16).2=0
 ·obtain⟨h0,h3,h4⟩:=Gv g
  have iX:∀s∈cN d a,dC s:=fun s hs=>hk s (lJ (oS hs))
  have gA:=OL (l:=(cN d a).take 8) fun s hs=>iX s (oS hs)
  have gB:=OL (l:=(cN d a).drop 8) fun s hs=>iX s (lJ hs)
  have c:=aM9 d a _ _ _ _ (ZI _) (ZI _) (Gu d a hs h2 hk h0 h3 h4);rw[Gx h0 h3 h4 gA.1 gB.1];split at c
  ·rename_i e1
   rw[if_pos e1];split at c
   ·rename_i e2
    rw[if_pos e2];exact c
   ·rename_i e2
    rw[if_neg e2];exact c
  ·rename_i e1
   rw[if_neg e1];exact c
 ·rw[Gw hs g]
  exact aN0 d a _ g (Uv d a hs h2 g)
theorem Uw{x:Int}(h0:0<=x)(h1:x<256):bits .and .u8 x 127=x % 128:=bits_mask .u8 8 (by decide) wraps_u8 7 (by decide) x h0 h1
theorem Ux{x:Int}(h0:0<=x)(h1:x<256):bits .and .u8 x 128=(if 128<=x then 128 else 0):=by
 have key:∀i:Fin 256,bits .and .u8 ((i.val:Nat):Int) 128=(if 128<=i.val then 128 else 0):=by decide
 have:=key ⟨x.toNat,by omega⟩
 simp only at this;rw[show((x.toNat:Nat):Int)=x by omega]at this
 rw[this];by_cases h:128<=x
 ·rw[if_pos h,if_pos (by omega)]
 ·rw[if_neg h,if_neg (by omega)]
def jI:Nat->List Int->Nat->Int->Int×Nat×Int
 |0,_,_,_=>(0,0,3)
 |f+1,src,i,n=>
  if i<src.length then
   if 128<=src.getD i 0 then jI f src (i+1) (n+src.getD i 0 % 128*2 ^ (7*i))
   else if(src.getD i 0=0/\0<i)\/9007199254740991<n+src.getD i 0 % 128*2 ^ (7*i)then(0,0,3)
   else(n+src.getD i 0 % 128*2 ^ (7*i),i+1,0)
  else(0,0,10)
theorem OM(f:Nat)(src:List Int)(i:Nat)(n:Int):jI (f+1) src i n=if i<src.length then if 128<=src.getD i 0 then jI f src (i+1) (n+src.getD i 0 % 128*2 ^ (7*i))else if(src.getD i 0=0/\0<i)\/9007199254740991<n+src.getD i 0 % 128*2 ^ (7*i)then(0,0,3)else(n+src.getD i 0 % 128*2 ^ (7*i),i+1,0)else(0,0,10):=rfl
theorem Gy(src:List Int)(i:Nat)(n:Int):jI 0 src i n=(0,0,3):=rfl
theorem Uy(k:Nat):(2:Int) ^ (7*(k+1))=128*2 ^ (7*k):=by
 rw[Nat.mul_add,Int.pow_add];omega
theorem UA(k:Nat):(0:Int)<2 ^ (7*k):=Int.pow_pos (by decide)
theorem aN2{k:Nat}(h:k<=8):(2:Int) ^ (7*k)<=2 ^ 56:=by
 obtain⟨j,hj⟩:=Nat.exists_eq_add_of_le h;have e:(2:Int) ^ 56=2 ^ (7*k)*2 ^ (7*j):=by rw[<-Int.pow_add];congr 1;omega
 rw[e];have h1:=UA j;have h2:=UA k;have:=Int.mul_le_mul_of_nonneg_left (show(1:Int)<=2 ^ (7*j)by omega) (show(0:Int)<=2 ^ (7*k)by omega)
 omega
theorem Uz{k:Nat}{n b:Int}(hk:k<8)(h0:0<=n)(h1:n<2 ^ (7*k)):
  IntKind.i64.wrap (b % 128*2 ^ (7*k))=b % 128*2 ^ (7*k)/\bits .or .i64 n (b % 128*2 ^ (7*k))=n+b % 128*2 ^ (7*k)/\0<=n+b % 128*2 ^ (7*k)/\n+b % 128*2 ^ (7*k)<2 ^ (7*(k+1)):=by
 have e56:(2:Int) ^ 56=72057594037927936:=by decide
 have h2:=UA k;have h3:=Uy k;have h4:=aN2 (k:=k+1) (by omega)
 generalize hm:b % 128=m at*;have IB:0<=m:=by omega
 have wH:m<=127:=by omega
 have h5:m*2 ^ (7*k)<=127*2 ^ (7*k):=Int.mul_le_mul_of_nonneg_right wH (by omega)
 have h6:0<=m*2 ^ (7*k):=Int.mul_nonneg IB (by omega)
 refine⟨IntWalk.i64_in _ (by omega),?_,by omega,by omega⟩
 have e:=bits_join .i64 56 (by decide) (fun n a b=>IntWalk.i64_in _ (by omega)) (7*k) (m*2 ^ (7*k)) n h6 (by simp) (by omega) h0 h1 (by omega)
 simp only[bits,BitVec.or_comm]at e⊢;rw[e];omega
def aP(src:List Int):Int×List Int×Int:=
 if(jI 8 src 0 0).2.2=0 then((jI 8 src 0 0).1,src.drop (jI 8 src 0 0).2.1,0)else(0,[],(jI 8 src 0 0).2.2)
attribute [local irreducible] jI
theorem D1(src:List Int)(hb:∀x∈src,aV x)(hl:src.length<=100000):PC 170 [.snap (aA aN src)] (.aU [zV (aP src).1,.snap (aA aN (aP src).2.1),zV (aP src).2.2]):=by
 refine bI Tryz.func170 Tryz.ntmps170 (by simp only[go_sem]) ?_
 refine aG ?_;refine kA Tryz.func211 Tryz.ntmps211 ?_;refine aG ?_;refine kA Tryz.func212 Tryz.ntmps212 ?_;refine aG ?_;have hg:=gB src;unfold aP;generalize hF:jI 8 src 0 0=F;refine fK (α:=Int) 8 (fun k n=> [(7,true,zV k),(4,true,zV n),(0,true,.ptr 0 0 0)]) (fun _ _=> [(0,some (.cells 376 1 [[.snap (aA aN src)]] true false))]) (fun k m n=>1<=m/\jI (8-k) src k n=F/\0<=n/\n<2 ^ (7*k)) ⟨1,0,⟨cE _,hF,by decide,by decide⟩,aT⟩ (fun k m n hk hR=> ?_) (fun m n hR=> ?_)
 ·obtain⟨h1,h2,h3,h4⟩:=hR
  have w0:IntKind.i64.wrap (7*(k:Int))=((7*k:Nat):Int):=by rw[IntWalk.i64_in _ (by omega)];omega
  by_cases g1:k<src.length
  ·have hx:=hb _ (cQ 0 g1)
   obtain⟨w1,w2,w3,w4⟩:=Uz (b:=src.getD k 0) hk h3 h4;have a1:=Uw hx.1 hx.2;have a2:=Ux hx.1 hx.2;obtain⟨f,hf⟩:∃f,8-k=f+1:=⟨7-k,by omega⟩
   have sR:8-(k+1)=f:=by omega
   rw[hf]at h2;have wm:min (7*k) 64=7*k:=by omega
   have fD:=hg k g1;clear hb hg hF;generalize hv:src.getD k 0=b at*;rw[OM,if_pos g1,hv]at h2;generalize ID:(2:Int) ^ (7*k)=p at*;have hp:(2:Int) ^ min (7*k) 64=p:=by rw[wm,ID]
   clear wm h4;generalize hq:b % 128*p=q at*;have w5:bB (n+q<2 ^ (7*(k+1))):=⟨w4⟩;clear w4;by_cases g2:128<=b
   ·rw[if_pos g2]at a2
    have h5:bB (jI (8-(k+1)) src (k+1) (n+q)=F):=⟨by rw[sR,<-h2,if_pos g2]⟩
    clear h2 sR hf;refine aG ?_;exact⟨m,_,⟨h1,h5.out,w3,w5.out⟩,aT⟩
   ·rw[if_neg g2]at a2
    have h5:F=if(b=0/\0<k)\/9007199254740991<n+q then(0,0,3)else(n+q,k+1,0):=by
     rw[<-h2,if_neg g2]
    clear h2 sR hf;by_cases g3:b=0/\0<k
    ·have h6:F=(0,0,3):=by rw[h5,if_pos (.inl g3)]
     obtain⟨g4,g5⟩:=g3;have g6:(0:Int)<k:=by omega
     rw[h6];clear h5 h6;have tP:(b==(0:Int))=true:=by rw[g4];rfl
     clear g4;refine aG ?_;exact aC
    ·by_cases g4:9007199254740991<n+q
     ·have h6:F=(0,0,3):=by rw[h5,if_pos (.inr g4)]
      rw[h6];clear h5 h6;by_cases g5:b=0
      ·have g6:¬(0:Int)<k:=by omega
       clear g3;have tP:(b==(0:Int))=true:=by rw[g5];rfl
       clear g5;refine aG ?_;exact aC
      ·clear g3
       refine aG ?_;exact aC
     ·have h6:F=(n+q,k+1,0):=by rw[h5,if_neg (by omega)]
      rw[h6];clear h5 h6;have c3:=BL (src.drop (k+1)) (by rw[eF];omega)
      have e3:(src.drop (k+1)).take (src.length-(k+1))=src.drop (k+1):=eD (by rw[eF];omega)
      by_cases g5:b=0
      ·have g6:¬(0:Int)<k:=by omega
       clear g3;have tP:(b==(0:Int))=true:=by rw[g5];rfl
       clear g5;refine aG ?_;exact aC
      ·clear g3
       refine aG ?_;exact aC
  ·refine aG ?_
   have h9:F=(0,0,10):=by rw[<-h2,show 8-k=(7-k)+1 by omega];rw[OM,if_neg g1]
   rw[h9];exact aC
 ·have h9:F=(0,0,3):=by rw[<-hR.2.1,CM,Gy]
  refine aG ?_;rw[h9];exact aC
end Go.Proofs.YtioafciifiggaaaGreatDoor
namespace Go.Proofs.YtioafciifiggaaaGreatDoor
open Go.Proofs Go.AL
set_option maxRecDepth 100000
set_option maxHeartbeats 1000000
attribute [local irreducible] cH AW b9 dR eH hold
attribute [local irreducible] jI
theorem tQ{src:List Int}(hb:∀x∈src,aV x):(∀x∈(aP src).2.1,aV x)/\(aP src).2.1.length<=src.length:=by
 unfold aP;split
 ·exact⟨fun x hx=>hb x (lJ hx),by simp⟩
 ·exact⟨fun x hx=>by simp at hx,by simp⟩
end Go.Proofs.YtioafciifiggaaaGreatDoor
namespace Go.Proofs.YtioafciifiggaaaGreatDoor
open Go.Proofs Go.AL
set_option maxRecDepth 100000
set_option maxHeartbeats 1000000
attribute [local irreducible] cH AW b9 dR eH hold
theorem Va{l:List aH}(h:∀s∈l,dC s):∀x∈(eB l).1,aV x:=by
 have hd:∀x∈gD l,aV x:=fun x hx=>by
  obtain⟨s,hs,hx⟩:=tJ.1 hx;exact(h s hs).2 x hx
 unfold eB;split
 ·split
  ·intro x hx;simp at hx
  ·split
   ·exact fun x hx=>hd x (lJ (oS hx))
   ·intro x hx;simp at hx
 ·intro x hx;simp at hx
theorem Vb{d:bL}{a:Int}(hk:∀s∈fA d.st d.ca,dC s):(∀x∈(oE d a).2.2.1,aV x)/\(oE d a).2.2.1.length<=31:=by
 have iX:∀s∈cN d a,dC s:=fun s hs=>hk s (lJ (oS hs))
 have h1:=Va (l:=(cN d a).take 8) fun s hs=>iX s (oS hs)
 have h2:=Va (l:=(cN d a).drop 8) fun s hs=>iX s (lJ hs)
 have h3:=ZI ((cN d a).take 8);have h4:=ZI ((cN d a).drop 8);unfold oE;split
 ·split
  ·exact⟨fun x hx=>by simp at hx,by simp⟩
  ·split
   ·exact⟨fun x hx=>by simp at hx,by simp⟩
   ·split
    ·exact⟨h2,h4⟩
    ·exact⟨h1,h3⟩
 ·exact⟨fun x hx=>by simp at hx,by simp⟩
def fE:Int->List aH->List (Int×aH)
 |_,[]=> []
 |a,s::l=>(a,s)::fE (a+1) l
theorem GC:∀(a:Int) (l:List aH),(fE a l).length=l.length
 |_,[]=>rfl
 |a,s::l=>by simp[fE,GC (a+1) l]
theorem Vc:∀(a:Int) (l:List aH) (s:aH),fE a (l++[s])=fE a l++[(a+l.length,s)]
 |a,[],s=>by simp[fE]
 |a,x::l,s=>by
  simp only[yI,fE,Vc (a+1) l s,dK];rw[show a+1+(l.length:Int)=a+((l.length+1:Nat):Int)by omega]
theorem Vd{a:Int}{l:List aH}{k:Nat}(h:k<l.length):fE a (l.take k)++[(a+k,l.getD k aE)]=fE a (l.take (k+1)):=by
 rw[I0 h,Vc,cU,aF0 (by omega),eP,eQ h]
 rfl
theorem Ve:∀(a:Int) (l:List aH) (n:Nat),0<=a->a+l.length<=n->∀c∈fE a l,pZ n c=false
 |_,[],_,_,_,c,hc=>by simp[fE]at hc
 |a,s::l,n,h0,h1,c,hc=>by
  simp only[fE,cG,dK]at hc h1;rcases hc with rfl|hc
  ·unfold pZ;rw[ZC (by simp only[];omega),CT (by simp only[];omega)];rfl
  ·exact Ve (a+1) l n (by omega) (by omega) c hc
def nG:bL:=⟨[],[]⟩
def GD(d:bL)(a:Int)(l:List aH):bL×Int:=
 if dM d=0 then(if l5 d a l.length=true then(⟨d.st,d.ca++fE a l⟩,0)else(nG,2))else(nG,dM d)
theorem UB{d:bL}{a:Int}{n:Nat}(h:l5 d a n=true):0<=a/\a+n<=d.st.length:=by
 simp only[l5,k6,decide_eq_true_eq]at h;omega
theorem ZJ{d:bL}{a:Int}{l:List aH}(h:dM d=0)(hi:l5 d a l.length=true):dM ⟨d.st,d.ca++fE a l⟩=0:=by
 obtain⟨h1,h2⟩:=EI h;obtain⟨h3,h4⟩:=UB hi;unfold dM;rw[if_neg (by simp only[];omega),if_neg]
 simp only[List.any_append,KA,not_or,Bool.not_eq_true,TF];refine⟨fun c hc=> ?_,fun c hc=>by rw[Ve a l _ h3 h4 c hc]⟩
 have:=h2 c hc;unfold pZ;rw[ZC (by omega),CT (by omega)];rfl
@[go_sem] theorem cz4(v:Value)(s:aH):List.take 9 (AV.c v::(aS s++[]))=AV.c v::aS s:=rfl
@[go_sem] theorem cz5(v:Value)(s:aH):List.take 9 (AV.c v::aS s)=AV.c v::aS s:=rfl
@[go_sem] theorem cz6(v:Value)(s:aH):List.drop 9 (AV.c v::aS s)=[]:=rfl
theorem IE{st:List aH}{Vf:List aH}(h:st.length<=4096)(h2:Vf.length=st.length):dM ⟨Vf,[]⟩=0:=by
 unfold dM;rw[if_neg (by simp only[];omega)]
 rfl
abbrev nH:=Int×Int×List aH
def uK:nH:=(0,0,[])
theorem gO(l:List nH)(k:Nat)(h:k<l.length):(aA bJ l)[k]? =some (bJ (l.getD k uK)):=pD uK h
def oF:List nH->bL->Nat->bL×Int×Int
 |[],d,i=>(d,i,0)
 |o::r,d,i=>
  if o.1=0 then(if(GD d o.2.1 o.2.2).2=0 then oF r (GD d o.2.1 o.2.2).1 (i+1)else(nG,i,(GD d o.2.1 o.2.2).2))
  else if o.1=1 then oF r ⟨fA d.st d.ca,[]⟩ (i+1)
  else(nG,i,1)
def oN(d:bL)(ops:List nH):bL×Int×Int:=if dM d=0 then oF ops d 0 else(nG,0,dM d)
theorem uL{α:Type}{l:List α}{k:Nat}(z:α)(h:k<l.length):l.drop k=l.getD k z::l.drop (k+1):=by
 rw[Fu h,eP,eQ h];rfl
def vH(d:bL)(ops:List nH)(k:Nat)(x:bL):Prop:=
 dM x=0/\x.st.length=d.st.length/\x.ca.length<=d.ca.length+k*4096/\oF (ops.drop k) x k=oF ops d 0
theorem vH.write{d:bL}{ops:List nH}{k:Nat}{x:bL}(h:vH d ops k x)(hk:k<ops.length)(h0:(ops.getD k uK).1=0)(hi:l5 x (ops.getD k uK).2.1 (ops.getD k uK).2.2.length=true):vH d ops (k+1) ⟨x.st,x.ca++fE (ops.getD k uK).2.1 (ops.getD k uK).2.2⟩:=by
 obtain⟨h1,h2,h3,h4⟩:=h;obtain⟨q1,q2⟩:=EI h1;obtain⟨q3,q4⟩:=UB hi;refine⟨ZJ h1 hi,h2,?_,?_⟩
 ·simp only[bP,GC];omega
 ·rw[<-h4,uL uK hk]
  simp only[oF];rw[if_pos h0];unfold GD;rw[if_pos h1,if_pos hi,if_pos rfl]
theorem vH.sync{d:bL}{ops:List nH}{k:Nat}{x:bL}(h:vH d ops k x)(hk:k<ops.length)(h0:(ops.getD k uK).1=1):vH d ops (k+1) ⟨fA x.st x.ca,[]⟩:=by
 obtain⟨h1,h2,h3,h4⟩:=h;obtain⟨q1,q2⟩:=EI h1;refine⟨IE q1 (wJ _ _),by rw[wJ];exact h2,by simp,?_⟩
 ·rw[<-h4,uL uK hk]
  simp only[oF];rw[if_neg (by rw[h0];decide),if_pos h0]
theorem vH.bad{d:bL}{ops:List nH}{k:Nat}{x:bL}(h:vH d ops k x)(hk:k<ops.length)(h0:(ops.getD k uK).1≠0)(h5:(ops.getD k uK).1≠1):oF ops d 0=(nG,(k:Int),1):=by
 obtain⟨h1,h2,h3,h4⟩:=h;rw[<-h4,uL uK hk];simp only[oF];rw[if_neg h0,if_neg h5]
theorem vH.out{d:bL}{ops:List nH}{k:Nat}{x:bL}(h:vH d ops k x)(hk:k<ops.length)(h0:(ops.getD k uK).1=0)(hi:l5 x (ops.getD k uK).2.1 (ops.getD k uK).2.2.length=false):oF ops d 0=(nG,(k:Int),2):=by
 obtain⟨h1,h2,h3,h4⟩:=h;rw[<-h4,uL uK hk];simp only[oF];rw[if_pos h0];unfold GD;rw[if_pos h1,hi];rfl
theorem vH.fin{d:bL}{ops:List nH}{x:bL}(h:vH d ops ops.length x):oF ops d 0=(x,(ops.length:Int),0):=by
 obtain⟨h1,h2,h3,h4⟩:=h;rw[<-h4,BB];rfl
end Go.Proofs.YtioafciifiggaaaGreatDoor
