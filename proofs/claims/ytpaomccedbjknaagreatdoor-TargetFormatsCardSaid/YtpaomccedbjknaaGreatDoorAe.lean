/- Target: contracts of its functions (Ae). No condition but those named. -/
import Derived.Test.YtpaomccedbjknaaGreatDoorAd
set_option linter.all false
namespace Go.Proofs.YtpaomccedbjknaaGreatDoor
open Go.Proofs Go.AL Tryz
set_option maxRecDepth 100000
set_option maxHeartbeats 8000000
attribute [local irreducible] bT AW b8 cF dB hold
theorem Jz(l:List aQ)(h:l≠[])(hl:l.length<=1000000):r5 prog 150 [.snap (aB aP l)] 67 8 (aB aP l):=by
 refine EU func150 ntmps150 (by simp only[go_sem]) (oN l) ?_
 have h1:=qF h;refine aM ?_;exact⟨1,by simp only[go_sem],by simp only[go_sem]⟩
theorem af7(a:Option Addr)(cap:Nat):PC 150 [.c (.slice a 0 cap)] (.snap (aB aP [])):=by
 refine aZ func150 ntmps150 (gJ _) ?_;cases a with
 |none=>
  refine aM ?_;simp only[yJ];exact cR
 |some a=>
  refine aM ?_;simp only[yJ];exact cR
theorem yM(l:List aQ)(hl:l.length<=1000000):PC 150 [.snap (aB aP l)] (.snap (aB aP l)):=by
 by_cases h:l=[]
 ·subst h
  exact eA.nil (pre:=[]) (post:=[]) af7
 ·refine aZ func150 ntmps150 (gJ l) ?_
  have h1:=qF h;exact zEa
theorem Ka(d:bQ)(h2:d.ca.length<=1000000)(h:gE d=0):PC 232 [.agg (bD d)] (.snap (aB aP (k9 d.st d.ca))):=by
 refine aZ func232 ntmps232 (gJ _) ?_;obtain⟨h0,h3⟩:=HB h;obtain⟨st,ca⟩:=d;unfold bD;simp only[]at h0 h2 h3⊢;clear h;by_cases g:st=[]
 ·have g2:ca=[]:=by
   cases ca with
   |nil=>rfl
   |cons c ca=>have:=h3 c (by simp);subst g;simp at this;omega
  subst g g2;clear h3;have g3:k9 [] []=[]:=rfl;have c1:=yM [] (qV _);rw[g3];clear g3;refine aM ?_;refine fZ 2 ?_;refine gD ?_;exact zEa
 ·have hg:=gC ca
  have hx:∀(x:Int) (s:aQ),(aB kD [(x,s)])[0]? =some (zV x::aP s):=fun _ _=>rfl
  have hy:∀(x:Int) (s:aQ) (r:List AV),(aB kD [(x,s)]).set 0 r=[r]:=fun _ _ _=>rfl
  have c1:=Jz st g oM
  refine aM ?_;refine dC (α:=Unit) ca.length (fun k _=> [(12,true,zV k),(11,true,zV ca.length),(10,true,.snap (aB kD ca)),(3,true,.own 1 0 st.length),(1,true,.ptr 0 0 0)]) (fun k _=> [(0,some (.cells 61 2 [[.snap (aB aP st),.snap (aB kD ca)]] true false)),(1,some (.cells 67 8 (aB aP (k9 st (ca.take k))) true true))]) (fun k m _=>2<=m) ⟨2,(),cA _,?_⟩ (fun k m _ hk hR=> ?_) (fun m _ hR=> ?_)
  ·have e0:k9 st (ca.take 0)=st:=rfl
   rw[e0];exact aG
  ·obtain⟨h5,h6⟩:=h3 _ (eB (0,bS) hk)
   obtain⟨n,hn⟩:=xD h5;have hz:(ca.getD k (0,bS))=((n:Int),(ca.getD k (0,bS)).2):=by rw[<-hn]
   have h7:=af5 (st:=st) hk hn;have h8:n<st.length:=oM
   have h9:=BI (ca.take k) st;have fG:=gS (k9 st (ca.take k));clear h3 h5 h6 hz;refine aM ?_;exact⟨m+1+1+1,(),oM,aG⟩
  ·have e0:k9 st (ca.take ca.length)=k9 st ca:=by rw[gP]
   have e1:=BI ca st;have e2:(k9 st ca).take st.length=k9 st ca:=cN oM
   rw[e0];clear h3;exact zEa
abbrev P5(d:bQ):AV:= .fn (.func 130) [] [.cH [bD d] 0 0]
theorem af8(d:bQ)(hs:d.st.length<=1000000)(hl:d.ca.length<=1000000):PC 209 [.snap (aB kD d.ca),P5 d] (zV (pM (d.ca.findIdx? (oO d.st.length)))):=by
 refine aZ func209 ntmps209 (.c _) ?_;unfold pM P5 bD;have hg:=gC d.ca;refine aM ?_;refine dC (α:=Unit) d.ca.length (fun k _=> [(8,true,zV k),(7,true,zV d.ca.length),(0,true,.snap (aB kD d.ca)),(1,true,.fn (.func 130) [] [.cH [[.snap (aB aP d.st),.snap (aB kD d.ca)]] 0 0])]) (fun _ _=> []) (fun k m _=>∀i,i<k->oO d.st.length (d.ca.getD i (0,bS))=false) ⟨0,(),fun i hi=>by omega,aG⟩ (fun k m _ hk hR=> ?_) (fun m _ hR=> ?_)
 ·have c1:=af6 d (d.ca.getD k (0,bS)) hs
  unfold kD bD at c1;cases h:oO d.st.length (d.ca.getD k (0,bS))with
  |true=>
   have hf:d.ca.findIdx? (oO d.st.length)=some k:=by
    rw[KG];exact⟨hk,by simpa[hk]using h,fun j hj=>by have:=hR j hj;simp[show j<d.ca.length by omega]at this;simpa using this⟩
   rw[h]at c1;clear hR;exact zEa
  |false=>
   rw[h]at c1
   have cW:∀i,i<k+1->oO d.st.length (d.ca.getD i (0,bS))=false:=fun i hi=>by
    by_cases iJ:i=k
    ·subst iJ;exact h
    ·exact hR i oM
   clear hR;refine aM ?_;exact⟨m,(),cW,aG⟩
 ·have hf:d.ca.findIdx? (oO d.st.length)=none:=by
   rw[KH];intro x hx;obtain⟨i,hi⟩:=CT.1 hx;obtain⟨h1,h2⟩:=fT.1 hi;have:=hR i h1;simp[h1,h2]at this;exact this
  clear hR;exact zEa
theorem af9(d:bQ):decide (0<=pM (d.ca.findIdx? (oO d.st.length)))=d.ca.any (oO d.st.length):=by
 cases h:d.ca.findIdx? (oO d.st.length)with
 |none=>
  rw[KH]at h;simp only[pM];symm;simpa using h
 |some i=>
  rw[KG]at h;obtain⟨h1,h2,_⟩:=h;simp only[pM];have:d.ca.any (oO d.st.length)=true:=CU.2 ⟨_,EN h1,h2⟩;rw[this];simp
theorem ag0(d:bQ)(hs:d.st.length<=1000000)(hl:d.ca.length<=1000000):PC 129 [.snap (aB kD d.ca),P5 d] (bV (d.ca.any (oO d.st.length))):=by
 refine aZ func129 ntmps129 (.c _) ?_;have c1:=af8 d hs hl;have h1:=af9 d;unfold P5 bD at c1⊢;exact zEa
theorem EW(d:bQ)(h1:d.st.length<=1000000)(h2:d.ca.length<=1000000):PC 63 [.agg (bD d)] (zV (gE d)):=by
 refine aZ func63 ntmps63 (.c _) ?_;have c1:=ag0 d h1 h2;unfold gE;unfold P5 bD at c1;unfold bD;by_cases g1:4096<d.st.length
 ·have g2:(4096:Int)<(d.st.length:Int):=oM
  clear c1;exact zEa
 have g2:¬(4096:Int)<(d.st.length:Int):=oM
 rw[if_neg g1];cases h:d.ca.any (oO d.st.length)with
 |true=>
  rw[h]at c1;exact zEa
 |false=>
  rw[h]at c1;exact zEa
theorem Kb(d:bQ)(s n:Int)(hs:d.st.length<=1000000)(h2:d.ca.length<=1000000):PC 275 [.agg (bD d),.agg [zV s,zV n]] (.aK [.snap (aB aP (u4 d s n).1),zV (u4 d s n).2]):=by
 refine aZ func275 ntmps275 (by simp only[go_sem]) ?_
 have c1:=EW d hs h2;have c3:=Jy d s n hs;unfold u4;by_cases g:gE d=0
 ·have c2:=Ka d h2 g
  rw[if_pos g];have e0:=BI d.ca d.st;rw[g]at c1;clear g;by_cases g1:s<0\/n<0\/(d.st.length:Int)<n\/(d.st.length:Int)-n<s
  ·have e:lF d s n=false:=by
    cases h:lF d s n with
    |false=>rfl
    |true=>
     simp only[lF,jF,decide_eq_true_eq]at h;omega
   rw[if_pos g1];rw[e]at c3;unfold bD at c1 c2 c3⊢;clear g1;exact zEa
  ·have e:lF d s n=true:=by
    simp only[lF,jF,decide_eq_true_eq];omega
   rw[if_neg g1];rw[e]at c3;unfold bD at c1 c2 c3⊢;obtain⟨S,rfl⟩:=xD (by omega:0<=s)
   obtain⟨N,rfl⟩:=xD (by omega:0<=n)
   have e1:((S:Int)+(N:Int)-(S:Int)).toNat=N:=oM
   have g2:S+N<=d.st.length:=oM
   have g3:d.st.length<=1000000:=hs;clear g1;exact zEa
 ·rw[if_neg g]
  unfold bD at c1⊢;exact zEa
def EX(A B:List Int×Int)(l m:List aQ):List AV:=[zV A.2,.snap (aB aO A.1),.snap (aB aP l),zV B.2,.snap (aB aO B.1),.snap (aB aP m)]
def qG(A B:List Int×Int):Int×Int:=if A.2<B.2 then(if B.2=0 then(0,9)else(1,0))else if A.2=0 then(0,9)else(0,0)
theorem Kc(d:bQ)(a:Int)(hs:d.st.length<=1000000)(h2:d.ca.length<=1000000)(hk:∀s∈k9 d.st d.ca,kL s)(h0:gE d=0)(h3:0<=a)(h4:a<=(d.st.length:Int)-16):PC 253 [.agg (bD d),zV a] (.aK [.agg (EX (fF ((cO d a).take 8)) (fF ((cO d a).drop 8)) ((cO d a).take 8) ((cO d a).drop 8)),zV (qG (fF ((cO d a).take 8)) (fF ((cO d a).drop 8))).1,zV (qG (fF ((cO d a).take 8)) (fF ((cO d a).drop 8))).2]):=by
 refine aZ func253 ntmps253 (by simp only[go_sem,EX]) ?_
 have c2:=Kb d a 16 hs h2;unfold u4 at c2;rw[if_pos h0,if_neg oM]at c2
 have e0:=BI d.ca d.st;have e1:(cO d a).length=16:=by unfold cO;rw[dX,kR];omega
 have Kd:PC 275 [.agg (bD d),.agg [zV a,zV 16]] (.aK [.snap (aB aP (cO d a)),zV 0]):=c2;have nT:∀s∈cO d a,kL s:=fun s hs=>hk s (BA (GO hs))
 clear c2 hk h0;unfold bD at Kd⊢;generalize cO d a=L at*;have c3:=Jo (L.take 8) (by rw[dX];omega) fun s hs=>nT s (GO hs)
 have c4:=Jo (L.drop 8) (by rw[kR];omega) fun s hs=>nT s (BA hs)
 have e2:(L.drop 8).take 8=L.drop 8:=cN (by rw[kR];omega)
 clear nT;generalize fF (L.take 8)=A at*;generalize fF (L.drop 8)=B at*;obtain⟨pa,ga⟩:=A;obtain⟨pb,gb⟩:=B;unfold copyV at c3 c4;unfold EX qG;simp only[]at c3 c4⊢;by_cases g5:ga<gb
 ·rw[if_pos g5]
  by_cases g6:gb=0
  ·rw[if_pos g6]
   exact zEa
  ·rw[if_neg g6]
   exact zEa
 ·rw[if_neg g5]
  by_cases g6:ga=0
  ·rw[if_pos g6]
   exact zEa
  ·rw[if_neg g6]
   exact zEa
theorem ag1(a:Option Addr)(cap:Nat):PC 179 [.c (.slice a 0 cap)] (.snap (aB aO [])):=by
 refine aZ func179 ntmps179 (gJ _) ?_;cases a with
 |none=>
  refine aM ?_;simp only[yJ];exact cR
 |some a=>
  refine aM ?_;simp only[yJ];exact cR
theorem HC(l:List Int)(hl:l.length<=1000000):PC 179 [.snap (aB aO l)] (.snap (aB aO l)):=by
 by_cases h:l=[]
 ·subst h
  exact eA.nil (pre:=[]) (post:=[]) ag1
 ·refine aZ func179 ntmps179 (gJ l) ?_
  have h1:=qF h;exact zEa
theorem ag2(d:bQ)(a:Int)(hs:d.st.length<=1000000)(h2:d.ca.length<=1000000)(he:(u4 d a 16).2≠0):PC 253 [.agg (bD d),zV a] (.aK [.agg (EX ([],0) ([],0) [] []),zV 0,zV (u4 d a 16).2]):=by
 refine aZ func253 ntmps253 (by simp only[go_sem,EX]) ?_
 have c2:=Kb d a 16 hs h2;generalize u4 d a 16=F at*;obtain⟨L,e⟩:=F;simp only[]at c2 he;unfold bD at c2⊢;unfold EX;exact zEa
theorem Ke{d:bQ}{a:Int}(g:(u4 d a 16).2=0):gE d=0/\0<=a/\a<=(d.st.length:Int)-16:=by
 unfold u4 at g;by_cases h0:gE d=0
 ·rw[if_pos h0]at g
  split at g
  ·exact absurd g dE
  ·exact⟨h0,oM,oM⟩
 ·rw[if_neg h0]at g
  exact absurd g h0
theorem Kf{d:bQ}{a:Int}(hs:d.st.length<=1000000)(g:(u4 d a 16).2≠0):BJ d a=([],0,[],0,(u4 d a 16).2):=by
 unfold u4 at g⊢;unfold BJ;by_cases h0:gE d=0
 ·rw[if_pos h0]at g⊢
  split at g
  ·rename_i h1
   rw[if_pos h0,if_pos h1,if_pos oM]
  ·exact absurd rfl g
 ·rw[if_neg h0]at g⊢
  rw[if_neg h0]
theorem Kg{d:bQ}{a:Int}(h0:gE d=0)(h3:0<=a)(h4:a<=(d.st.length:Int)-16)(hA:0<=(fF ((cO d a).take 8)).2)(hB:0<=(fF ((cO d a).drop 8)).2):
  BJ d a=if(qG (fF ((cO d a).take 8)) (fF ((cO d a).drop 8))).2=0 then(if(qG (fF ((cO d a).take 8)) (fF ((cO d a).drop 8))).1=1 then(cO d a,1,(fF ((cO d a).drop 8)).1,(fF ((cO d a).drop 8)).2,0)else(cO d a,0,(fF ((cO d a).take 8)).1,(fF ((cO d a).take 8)).2,0))else([],0,[],0,9):=by
 unfold BJ qG;rw[if_pos h0,if_neg oM]
 generalize fF ((cO d a).take 8)=A at*;generalize fF ((cO d a).drop 8)=B at*;by_cases g1:A.2<B.2
 ·rw[if_pos g1,if_pos g1,if_neg (by omega:¬B.2=0),if_neg (by omega:¬(A.2=0/\B.2=0)),if_pos rfl,if_pos rfl]
 ·rw[if_neg g1,if_neg g1]
  by_cases g2:A.2=0
  ·rw[if_pos g2,if_pos (by omega:A.2=0/\B.2=0),if_neg dE]
  ·rw[if_neg g2,if_neg (by omega:¬(A.2=0/\B.2=0)),if_pos rfl,if_neg dE]
theorem Kh{x:Int}(h0:0<=x)(h1:x<256):bits .and .u8 x 127=x % 128:=bits_mask .u8 8 dE wraps_u8 7 dE x h0 h1
theorem Ki{x:Int}(h0:0<=x)(h1:x<256):bits .and .u8 x 128=(if 128<=x then 128 else 0):=by
 have key:∀i:Fin 256,bits .and .u8 ((i.val:Nat):Int) 128=(if 128<=i.val then 128 else 0):=by decide
 have:=key ⟨x.toNat,oM⟩
 simp only at this;rw[show((x.toNat:Nat):Int)=x by omega]at this
 rw[this];by_cases h:128<=x
 ·rw[if_pos h,if_pos oM]
 ·rw[if_neg h,if_neg oM]
def iX:Nat->List Int->Nat->Int->Int×Nat×Int
 |0,_,_,_=>(0,0,3)
 |f+1,src,i,n=>
  if i<src.length then
   if 128<=src.getD i 0 then iX f src (i+1) (n+src.getD i 0 % 128*2 ^ (7*i))
   else if(src.getD i 0=0/\0<i)\/9007199254740991<n+src.getD i 0 % 128*2 ^ (7*i)then(0,0,3)
   else(n+src.getD i 0 % 128*2 ^ (7*i),i+1,0)
  else(0,0,10)
theorem P6(f:Nat)(src:List Int)(i:Nat)(n:Int):iX (f+1) src i n=if i<src.length then if 128<=src.getD i 0 then iX f src (i+1) (n+src.getD i 0 % 128*2 ^ (7*i))else if(src.getD i 0=0/\0<i)\/9007199254740991<n+src.getD i 0 % 128*2 ^ (7*i)then(0,0,3)else(n+src.getD i 0 % 128*2 ^ (7*i),i+1,0)else(0,0,10):=rfl
theorem YQ(src:List Int)(i:Nat)(n:Int):iX 0 src i n=(0,0,3):=rfl
theorem ag3(k:Nat):(2:Int) ^ (7*(k+1))=128*2 ^ (7*k):=by
 rw[Nat.mul_add,Int.pow_add];omega
theorem TS(k:Nat):(0:Int)<2 ^ (7*k):=Int.pow_pos dE
theorem ag4{k:Nat}(h:k<=8):(2:Int) ^ (7*k)<=2 ^ 56:=by
 obtain⟨j,hj⟩:=Nat.exists_eq_add_of_le h;have e:(2:Int) ^ 56=2 ^ (7*k)*2 ^ (7*j):=by rw[<-Int.pow_add];congr 1;omega
 rw[e];have h1:=TS j;have h2:=TS k;have:=Int.mul_le_mul_of_nonneg_left (show(1:Int)<=2 ^ (7*j)by omega) (show(0:Int)<=2 ^ (7*k)by omega)
 omega
theorem Kj{k:Nat}{n b:Int}(hk:k<8)(h0:0<=n)(h1:n<2 ^ (7*k)):
  IntKind.i64.wrap (b % 128*2 ^ (7*k))=b % 128*2 ^ (7*k)/\bits .or .i64 n (b % 128*2 ^ (7*k))=n+b % 128*2 ^ (7*k)/\0<=n+b % 128*2 ^ (7*k)/\n+b % 128*2 ^ (7*k)<2 ^ (7*(k+1)):=by
 have e56:(2:Int) ^ 56=72057594037927936:=by decide
 have h2:=TS k;have h3:=ag3 k;have h4:=ag4 (k:=k+1) oM
 generalize hm:b % 128=m at*;have H7:0<=m:=oM
 have r6:m<=127:=oM
 have h5:m*2 ^ (7*k)<=127*2 ^ (7*k):=Int.mul_le_mul_of_nonneg_right r6 oM
 have h6:0<=m*2 ^ (7*k):=Int.mul_nonneg H7 oM
 refine⟨IntWalk.i64_in _ oM,?_,oM,oM⟩
 have e:=bits_join .i64 56 dE (fun n a b=>IntWalk.i64_in _ oM) (7*k) (m*2 ^ (7*k)) n h6 (by simp) oM h0 h1 oM
 simp only[bits,BitVec.or_comm]at e⊢;rw[e];omega
def aU(src:List Int):Int×List Int×Int:=
 if(iX 8 src 0 0).2.2=0 then((iX 8 src 0 0).1,src.drop (iX 8 src 0 0).2.1,0)else(0,[],(iX 8 src 0 0).2.2)
attribute [local irreducible] iX
theorem HD(src:List Int)(hb:∀x∈src,bZ x)(hl:src.length<=100000):PC 185 [.snap (aB aO src)] (.aK [zV (aU src).1,.snap (aB aO (aU src).2.1),zV (aU src).2.2]):=by
 refine aZ func185 ntmps185 (by simp only[go_sem]) ?_
 refine aM ?_;refine eO func236 ntmps236 ?_;refine aM ?_;refine eO func237 ntmps237 ?_;refine aM ?_;have hg:=gB src;unfold aU;generalize hF:iX 8 src 0 0=F;refine dC (α:=Int) 8 (fun k n=> [(7,true,zV k),(4,true,zV n),(0,true,.ptr 0 0 0)]) (fun _ _=> [(0,some (.cells 373 1 [[.snap (aB aO src)]] true false))]) (fun k m n=>1<=m/\iX (8-k) src k n=F/\0<=n/\n<2 ^ (7*k)) ⟨1,0,⟨cA _,hF,dE,dE⟩,aG⟩ (fun k m n hk hR=> ?_) (fun m n hR=> ?_)
 ·obtain⟨h1,h2,h3,h4⟩:=hR
  have w0:IntKind.i64.wrap (7*(k:Int))=((7*k:Nat):Int):=by rw[IntWalk.i64_in _ oM];omega
  by_cases g1:k<src.length
  ·have hx:=hb _ (eB 0 g1)
   obtain⟨w1,w2,w3,w4⟩:=Kj (b:=src.getD k 0) hk h3 h4;have a1:=Kh hx.1 hx.2;have a2:=Ki hx.1 hx.2;obtain⟨f,hf⟩:∃f,8-k=f+1:=⟨7-k,oM⟩
   have rS:8-(k+1)=f:=oM
   rw[hf]at h2;have wm:min (7*k) 64=7*k:=oM
   have bO:=hg k g1;clear hb hg hF;generalize hv:src.getD k 0=b at*;rw[P6,if_pos g1,hv]at h2;generalize EY:(2:Int) ^ (7*k)=p at*;have hp:(2:Int) ^ min (7*k) 64=p:=by rw[wm,EY]
   clear wm h4;generalize hq:b % 128*p=q at*;have w5:bC (n+q<2 ^ (7*(k+1))):=⟨w4⟩;clear w4;by_cases g2:128<=b
   ·rw[if_pos g2]at a2
    have h5:bC (iX (8-(k+1)) src (k+1) (n+q)=F):=⟨by rw[rS,<-h2,if_pos g2]⟩
    clear h2 rS hf;refine aM ?_;exact⟨m,_,⟨h1,h5.out,w3,w5.out⟩,aG⟩
   ·rw[if_neg g2]at a2
    have h5:F=if(b=0/\0<k)\/9007199254740991<n+q then(0,0,3)else(n+q,k+1,0):=by
     rw[<-h2,if_neg g2]
    clear h2 rS hf;by_cases g3:b=0/\0<k
    ·have h6:F=(0,0,3):=by rw[h5,if_pos (.inl g3)]
     obtain⟨g4,g5⟩:=g3;have g6:(0:Int)<k:=oM
     rw[h6];clear h5 h6;have D5:(b==(0:Int))=true:=by rw[g4];rfl
     clear g4;exact zEa
    ·by_cases g4:9007199254740991<n+q
     ·have h6:F=(0,0,3):=by rw[h5,if_pos (.inr g4)]
      rw[h6];clear h5 h6;by_cases g5:b=0
      ·have g6:¬(0:Int)<k:=oM
       clear g3;have D5:(b==(0:Int))=true:=by rw[g5];rfl
       clear g5;exact zEa
      ·clear g3
       exact zEa
     ·have h6:F=(n+q,k+1,0):=by rw[h5,if_neg oM]
      rw[h6];clear h5 h6;have c3:=HC (src.drop (k+1)) (by rw[kR];omega)
      have e3:(src.drop (k+1)).take (src.length-(k+1))=src.drop (k+1):=cN (by rw[kR];omega)
      by_cases g5:b=0
      ·have g6:¬(0:Int)<k:=oM
       clear g3;have D5:(b==(0:Int))=true:=by rw[g5];rfl
       clear g5;exact zEa
      ·clear g3
       exact zEa
  ·refine aM ?_
   have h9:F=(0,0,10):=by rw[<-h2,show 8-k=(7-k)+1 by omega];rw[P6,if_neg g1]
   rw[h9];exact cR
 ·have h9:F=(0,0,3):=by rw[<-hR.2.1,B7,YQ]
  refine aM ?_;rw[h9];exact cR
end Go.Proofs.YtpaomccedbjknaaGreatDoor
namespace Go.Proofs.YtpaomccedbjknaaGreatDoor
open Go.Proofs Go.AL Tryz
set_option maxRecDepth 100000
set_option maxHeartbeats 8000000
attribute [local irreducible] bT AW b8 cF dB hold
attribute [local irreducible] iX
theorem sI{src:List Int}(hb:∀x∈src,bZ x):(∀x∈(aU src).2.1,bZ x)/\(aU src).2.1.length<=src.length:=by
 unfold aU;split
 ·exact⟨fun x hx=>hb x (BA hx),by simp⟩
 ·exact⟨fun x hx=>by simp at hx,by simp⟩
end Go.Proofs.YtpaomccedbjknaaGreatDoor
namespace Go.Proofs.YtpaomccedbjknaaGreatDoor
open Go.Proofs Go.AL Tryz
set_option maxRecDepth 100000
set_option maxHeartbeats 8000000
attribute [local irreducible] bT AW b8 cF dB hold
def iC:Int->List aQ->List (Int×aQ)
 |_,[]=> []
 |a,s::l=>(a,s)::iC (a+1) l
theorem D7:∀(a:Int) (l:List aQ),(iC a l).length=l.length
 |_,[]=>rfl
 |a,s::l=>by simp[iC,D7 (a+1) l]
theorem Kk:∀(a:Int) (l:List aQ) (s:aQ),iC a (l++[s])=iC a l++[(a+l.length,s)]
 |a,[],s=>by simp[iC]
 |a,x::l,s=>by
  simp only[BB,iC,Kk (a+1) l s,iQ];rw[show a+1+(l.length:Int)=a+((l.length+1:Nat):Int)by omega]
theorem Kl{a:Int}{l:List aQ}{k:Nat}(h:k<l.length):iC a (l.take k)++[(a+k,l.getD k bS)]=iC a (l.take (k+1)):=by
 rw[CS h,Kk,dX,Yw oM,rL,gY h]
 rfl
theorem Km:∀(a:Int) (l:List aQ) (n:Nat),0<=a->a+l.length<=n->∀c∈iC a l,oO n c=false
 |_,[],_,_,_,c,hc=>by simp[iC]at hc
 |a,s::l,n,h0,h1,c,hc=>by
  simp only[iC,dJ,iQ]at hc h1;rcases hc with rfl|hc
  ·unfold oO;rw[KP (by simp only[];omega),zW (by simp only[];omega)];rfl
  ·exact Km (a+1) l n oM oM c hc
def oP:bQ:=⟨[],[]⟩
def HE(d:bQ)(a:Int)(l:List aQ):bQ×Int:=
 if gE d=0 then(if lF d a l.length=true then(⟨d.st,d.ca++iC a l⟩,0)else(oP,2))else(oP,gE d)
theorem P7{d:bQ}{a:Int}{n:Nat}(h:lF d a n=true):0<=a/\a+n<=d.st.length:=by
 simp only[lF,jF,decide_eq_true_eq]at h;omega
theorem Kn{d:bQ}{a:Int}{l:List aQ}(h:gE d=0)(hi:lF d a l.length=true):gE ⟨d.st,d.ca++iC a l⟩=0:=by
 obtain⟨h1,h2⟩:=HB h;obtain⟨h3,h4⟩:=P7 hi;unfold gE;rw[if_neg (by simp only[];omega),if_neg]
 simp only[List.any_append,GN,not_or,Bool.not_eq_true,Y0];refine⟨fun c hc=> ?_,fun c hc=>by rw[Km a l _ h3 h4 c hc]⟩
 have:=h2 c hc;unfold oO;rw[KP oM,zW oM];rfl
@[go_sem] theorem bS5(v:Value)(s:aQ):List.take 9 (AV.c v::(aP s++[]))=AV.c v::aP s:=rfl
@[go_sem] theorem bS6(v:Value)(s:aQ):List.take 9 (AV.c v::aP s)=AV.c v::aP s:=rfl
@[go_sem] theorem bS7(v:Value)(s:aQ):List.drop 9 (AV.c v::aP s)=[]:=rfl
def ag5(e:TypeId)(k:Nat)(rows:List (List AV))(lo no m:Nat)(v:AV)(T:List (Nat×Option aI)):Prop:=
 (v= .c (.slice none 0 0)/\T=[]/\rows=[])\/∃id,lo<=id/\id≠no/\id<m/\v= .own id 0 rows.length/\T=[(id,some (.cells e k rows true true))]
end Go.Proofs.YtpaomccedbjknaaGreatDoor
