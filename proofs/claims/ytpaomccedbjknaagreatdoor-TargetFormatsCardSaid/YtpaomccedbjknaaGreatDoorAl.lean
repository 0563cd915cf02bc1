/- Target: contracts of its functions (Al). No condition but those named. -/
import Derived.Test.YtpaomccedbjknaaGreatDoorAk
import Derived.Test.YtpaomccedbjknaaGreatDoorLg
set_option linter.all false
namespace Go.Proofs.YtpaomccedbjknaaGreatDoor
open Go.Proofs Go.AL Tryz
set_option maxRecDepth 100000
set_option maxHeartbeats 8000000
attribute [local irreducible] bT AW b8 cF dB hold
def jH(src:List Int):Int×List Int×Int:=if(aU src).2.2=0 then(if 65536<(aU src).1 then(0,[],5)else aU src)else(0,[],(aU src).2.2)
def qM{α:Type}(one:List Int->α×List Int×Int):Nat->List Int->List α->List α×List Int×Int
 |0,src,out=>(out,src,0)
 |f+1,src,out=>if(one src).2.2=0 then qM one f (one src).2.1 (out++[(one src).1])else([],[],(one src).2.2)
theorem HP{α:Type}(one:List Int->α×List Int×Int)(f:Nat)(src:List Int)(out:List α):qM one (f+1) src out=if(one src).2.2=0 then qM one f (one src).2.1 (out++[(one src).1])else([],[],(one src).2.2):=rfl
theorem PU{α:Type}(one:List Int->α×List Int×Int)(src:List Int)(out:List α):qM one 0 src out=(out,src,0):=rfl
def eG{α:Type}(one:List Int->α×List Int×Int)(src:List Int):List α×List Int×Int:=if(jH src).2.2=0 then qM one (jH src).1.toNat (jH src).2.1 []else([],[],(jH src).2.2)
def Mb(l:List Int):aQ:=((l.getD 0 0,l.getD 1 0,l.getD 2 0,l.getD 3 0),(l.getD 4 0,l.getD 5 0,l.getD 6 0,l.getD 7 0))
def pB(src:List Int):aQ×List Int×Int:=if src.length<8 then(bS,[],10)else(Mb src,src.drop 8,0)
def jA(src:List Int):bR×List Int×Int:=
 if(aU src).2.2=0 then
  if(aU (aU src).2.1).2.2=0 then(((aU src).1,(aU (aU src).2.1).1,(eG pB (aU (aU src).2.1).2.1).1),(eG pB (aU (aU src).2.1).2.1).2.1,(eG pB (aU (aU src).2.1).2.1).2.2)
  else(eF,[],(aU (aU src).2.1).2.2)
 else(eF,[],(aU src).2.2)
def HQ{α:Type}(one:List Int->α×List Int×Int):Prop:=∀src,(∀x∈src,bZ x)->(∀x∈(one src).2.1,bZ x)/\(one src).2.1.length<=src.length
theorem ZJ:HQ aU:=fun src h=>sI h
theorem UF:HQ jH:=fun src h=>by
 grind [jH,sI]
theorem Mc{α:Type}{one:List Int->α×List Int×Int}(h1:HQ one):∀(f:Nat) (src:List Int) (out:List α),(∀x∈src,bZ x)->(∀x∈(qM one f src out).2.1,bZ x)/\(qM one f src out).2.1.length<=src.length
 |0,src,out,h=>⟨h,cA _⟩
 |f+1,src,out,h=>by
  rw[HP];split
  ·have h2:=h1 src h
   have h3:=Mc h1 f _ (out++[(one src).1]) h2.1
   grind
  grind
theorem UG{α:Type}{one:List Int->α×List Int×Int}(h1:HQ one):HQ (eG one):=fun src h=>by
 unfold eG;have h2:=UF src h
 grind [Mc]
theorem Md:HQ pB:=fun src h=>by
 grind [pB]
theorem Me:HQ jA:=fun src h=>by
 unfold jA;have h1:=sI h;have h2:=sI h1.1;have h3:=UG Md _ h2.1
 grind
theorem Mf{α:Type}{one:List Int->α×List Int×Int}:∀(f:Nat) (src:List Int) (out:List α),(qM one f src out).1.length<=f+out.length
 |0,src,out=>by rw[PU];simp
 |f+1,src,out=>by
  rw[HP];split
  ·have:=Mf (one:=one) f (one src).2.1 (out++[(one src).1])
   grind
  ·simp
theorem PV{α:Type}{one:List Int->α×List Int×Int}(src:List Int):(eG one src).1.length<=65536:=by
 grind [eG,Mf,jH]
theorem Mg{α:Type}{one:List Int->α×List Int×Int}{p:α->Prop}(hp:∀src,(one src).2.2=0->p (one src).1):∀(f:Nat) (src:List Int) (out:List α),(∀x∈out,p x)->∀x∈(qM one f src out).1,p x
 |0,src,out,h=>h
 |f+1,src,out,h=>by
  rw[HP];split
  ·rename_i g
   exact Mg hp f _ _ fun x hx=>by
    grind
  grind
theorem ar1{α:Type}{one:List Int->α×List Int×Int}{p:α->Prop}(hp:∀src,(one src).2.2=0->p (one src).1)(src:List Int):∀x∈(eG one src).1,p x:=by
 unfold eG;split
 ·exact Mg hp _ _ _ fun x hx=>by simp at hx
 grind
theorem Mh:∀(f:Nat) (src:List Int) (i:Nat) (n:Int),(∀x∈src,bZ x)->0<=n->0<=(iX f src i n).1
 |0,src,i,n,_,_=>by rw[YQ];simp
 |f+1,src,i,n,h,h0=>by
  rw[P6];have hp:=TS i;split
  ·rename_i hi
   have hx:=h _ (eB 0 hi);have h1:0<=src.getD i 0 % 128*2 ^ (7*i):=Int.mul_nonneg oM oM
   split
   ·exact Mh f src (i+1) _ h oM
   grind
  ·simp
theorem ZK{src:List Int}(h:∀x∈src,bZ x):0<=(aU src).1:=by
 unfold aU;split
 ·simp_all [Mh]
 ·simp
theorem ZL{src:List Int}(h:∀x∈src,bZ x)(h0:(jH src).2.2=0):(aU src).1=(jH src).1/\0<=(jH src).1/\(jH src).1<=65536/\(aU src).2.2=0:=by
 have h1:=ZK h;unfold jH at h0⊢
 grind
def jP{α:Type}(enc:α->List Int)(l:List α):List Int:=aV l.length++l.flatMap enc
def pC(s:aQ):List Int:=[s.1.1,s.1.2.1,s.1.2.2.1,s.1.2.2.2,s.2.1,s.2.2.1,s.2.2.2.1,s.2.2.2.2]
def mU(w:bR):List Int:=aV w.1++aV w.2.1++jP pC w.2.2
end Go.Proofs.YtpaomccedbjknaaGreatDoor
namespace Go.Proofs.YtpaomccedbjknaaGreatDoor
open Go.Proofs Go.AL Tryz
set_option maxRecDepth 100000
set_option maxHeartbeats 8000000
attribute [local irreducible] bT AW b8 cF dB hold
attribute [local irreducible] iX
def jQ(src:List Int):aI:= .cells 373 1 [[.snap (aB aO src)]] true false
def kA{α:Type}(x:α×List Int×Int):Option aI:=if x.2.2=0 then some (jQ x.2.1)else none
theorem UH(src:List Int)(hb:∀x∈src,bZ x)(hl:src.length<=100000)(id:Nat):u9 prog 237 [.ptr id 0 0] id (jQ src) (kA (aU src)) (.aK [zV (aU src).1,zV (aU src).2.2]) 100:=by
 refine mstart func237 ntmps237 ?_;intro N G aC lS hG;have hE:∀F,iX 8 src 0 0=F->aU src=if F.2.2=0 then(F.1,src.drop F.2.1,0)else(0,[],F.2.2):=fun F h=>by unfold aU;rw[h]
 generalize aU src=X at*;unfold jQ at lS;unfold kA jQ;refine fL ?_;have hg:=gB src;generalize hF:iX 8 src 0 0=F at hE;have hX:∀F0,F=F0->X=if F0.2.2=0 then(F0.1,src.drop F0.2.1,0)else(0,[],F0.2.2):=fun F0 h=>by rw[<-h];exact hE F rfl
 clear hE;refine UI (α:=Int) (G:=G) 8 (fun k n=> [(7,true,zV k),(4,true,zV n),(0,true,.ptr id 0 0)]) (fun _ _=> []) (fun k m n=>(N<=m/\m<=N+50)/\iX (8-k) src k n=F/\0<=n/\n<2 ^ (7*k)) ⟨N,0,⟨⟨cA _,oM⟩,hF,dE,dE⟩,vG⟩ (fun k m n hk hR=> ?_) (fun m n hR=> ?_)
 ·obtain⟨h1,h2,h3,h4⟩:=hR
  have w0:IntKind.i64.wrap (7*(k:Int))=((7*k:Nat):Int):=by rw[IntWalk.i64_in _ oM];omega
  by_cases g1:k<src.length
  ·have hx:=hb _ (eB 0 g1)
   obtain⟨w1,w2,w3,w4⟩:=Kj (b:=src.getD k 0) hk h3 h4;have a1:=Kh hx.1 hx.2;have a2:=Ki hx.1 hx.2;obtain⟨f,hf⟩:∃f,8-k=f+1:=⟨7-k,oM⟩
   have rS:8-(k+1)=f:=oM
   rw[hf]at h2;have wm:min (7*k) 64=7*k:=oM
   have bO:=hg k g1;clear hb hg hF;generalize hv:src.getD k 0=b at*;rw[P6,if_pos g1,hv]at h2;generalize EY:(2:Int) ^ (7*k)=p at*;have hp:(2:Int) ^ min (7*k) 64=p:=by rw[wm,EY]
   clear wm h4;generalize hq:b % 128*p=q at*;have w5:bC (n+q<2 ^ (7*(k+1))):=⟨w4⟩;clear w4;by_cases g2:128<=b
   ·rw[if_pos g2]at a2
    have h5:bC (iX (8-(k+1)) src (k+1) (n+q)=F):=⟨by rw[rS,<-h2,if_pos g2]⟩
    clear h2 rS hf;refine fL ?_;exact⟨m,_,⟨h1,h5.out,w3,w5.out⟩,vG⟩
   ·rw[if_neg g2]at a2
    have h5:F=if(b=0/\0<k)\/9007199254740991<n+q then(0,0,3)else(n+q,k+1,0):=by
     rw[<-h2,if_neg g2]
    clear h2 rS hf;by_cases g3:b=0/\0<k
    ·have h6:F=(0,0,3):=by rw[h5,if_pos (.inl g3)]
     obtain⟨g4,g5⟩:=g3;have g6:(0:Int)<k:=oM
     have hY:=hX _ h6;rw[if_neg dE]at hY
     clear hX;subst hY;clear h5 h6;rw[if_neg dE]
     have D5:(b==(0:Int))=true:=by rw[g4];rfl
     clear g4;refine fL ?_;exact jR
    ·by_cases g4:9007199254740991<n+q
     ·have h6:F=(0,0,3):=by rw[h5,if_pos (.inr g4)]
      have hY:=hX _ h6;rw[if_neg dE]at hY
      clear hX;subst hY;clear h5 h6;rw[if_neg dE]
      by_cases g5:b=0
      ·have g6:¬(0:Int)<k:=oM
       clear g3;have D5:(b==(0:Int))=true:=by rw[g5];rfl
       clear g5;refine fL ?_;exact jR
      ·clear g3
       refine fL ?_;exact jR
     ·have h6:F=(n+q,k+1,0):=by rw[h5,if_neg oM]
      have hY:=hX _ h6;rw[if_pos rfl]at hY;clear hX;subst hY;clear h5 h6;rw[if_pos rfl];have e3:(src.drop (k+1)).take (src.length-(k+1))=src.drop (k+1):=cN (by rw[kR];omega)
      by_cases g5:b=0
      ·have g6:¬(0:Int)<k:=oM
       clear g3;have D5:(b==(0:Int))=true:=by rw[g5];rfl
       clear g5;refine fL ?_;exact jR
      ·clear g3
       refine fL ?_;exact jR
  ·have h9:F=(0,0,10):=by rw[<-h2,show 8-k=(7-k)+1 by omega];rw[P6,if_neg g1]
   have hY:=hX _ h9;rw[if_neg dE]at hY
   clear hX;subst hY;clear h9 h2;rw[if_neg dE]
   refine fL ?_;exact jR
 ·have h9:F=(0,0,3):=by rw[<-hR.2.1,B7,YQ]
  have hm:=hR.1;have hY:=hX _ h9;rw[if_neg dE]at hY
  clear hX;subst hY;clear h9 hR;rw[if_neg dE]
  refine fL ?_;exact jR
end Go.Proofs.YtpaomccedbjknaaGreatDoor
namespace Go.Proofs.YtpaomccedbjknaaGreatDoor
open Go.Proofs Go.AL Tryz
set_option maxRecDepth 100000
set_option maxHeartbeats 8000000
attribute [local irreducible] bT AW b8 cF dB hold
def A4:List Int:=List.replicate 8 4096
def yS(c:kM):List Int:=aV c.base++aV c.number++aV c.time++jP aV c.pos++jP mU c.writes
def mV:kM:=⟨0,0,0,[],[]⟩
def vK(c:kM):List Int×Int:=if rT c A4=0 then(if 65536<(yS c).length then([],5)else(yS c,0))else([],rT c A4)
def ZM(x1 x2 x3:Int×List Int×Int)(p:List Int×List Int×Int)(w:List bR×List Int×Int):kM×Int:=
 if x1.2.2=0 then
  if x2.2.2=0 then
   if x3.2.2=0 then
    if p.2.2=0 then
     if w.2.2=0 then
      if w.2.1=[]then
       if rT ⟨x1.1,x2.1,x3.1,p.1,w.1⟩ A4=0 then(⟨x1.1,x2.1,x3.1,p.1,w.1⟩,0)else(mV,rT ⟨x1.1,x2.1,x3.1,p.1,w.1⟩ A4)
      else(mV,3)
     else(mV,w.2.2)
    else(mV,p.2.2)
   else(mV,x3.2.2)
  else(mV,x2.2.2)
 else(mV,x1.2.2)
def A5(b:List Int):kM×Int:=
 if 65536<b.length then(mV,5)
 else ZM (aU b) (aU (aU b).2.1) (aU (aU (aU b).2.1).2.1) (eG aU (aU (aU (aU b).2.1).2.1).2.1) (eG jA (eG aU (aU (aU (aU b).2.1).2.1).2.1).2.1)
structure ZN where
 number:Int
 index:Int
 parts:Int
 sum:Int
 piece:List Int
def yT:ZN:=⟨0,0,0,0,[]⟩
def HR(n i p s:Int)(l:List Int):Prop:=n<1\/1073741824<n\/p<=i\/65536<p\/4294967295<s\/l=[]\/4096<l.length
instance (n i p s:Int)(l:List Int):Decidable (HR n i p s l):=by unfold HR;exact inferInstance
def UJ(x1 x2 x3 x4:Int×List Int×Int):ZN×Int:=
 if x1.2.2=0 then
  if x2.2.2=0 then
   if x3.2.2=0 then
    if x4.2.2=0 then
     if HR x1.1 x2.1 x3.1 x4.1 x4.2.1 then(yT,3)else(⟨x1.1,x2.1,x3.1,x4.1,x4.2.1⟩,0)
    else(yT,x4.2.2)
   else(yT,x3.2.2)
  else(yT,x2.2.2)
 else(yT,x1.2.2)
def dA(b:List Int):ZN×Int:=UJ (aU b) (aU (aU b).2.1) (aU (aU (aU b).2.1).2.1) (aU (aU (aU (aU b).2.1).2.1).2.1)
structure oX where
 number:Int
 parts:Int
 sum:Int
 dF:List (List Int)
 seen:List Bool
def pU:oX:=⟨0,0,0,[],[]⟩
def bY(l:List Int):List AV:=[.snap (aB aO l)]
def jX(a:oX):List AV:=[zV a.number,zV a.parts,zV a.sum,.snap (aB bY a.dF),.snap (aB eH a.seen)]
def BN(b:List Int):oX×Int:=
 if(dA b).2=0 then(⟨(dA b).1.number,(dA b).1.parts,(dA b).1.sum,(List.replicate (dA b).1.parts.toNat []).set (dA b).1.index.toNat (dA b).1.piece,(List.replicate (dA b).1.parts.toNat false).set (dA b).1.index.toNat true⟩,0)
 else(pU,(dA b).2)
def PX(a:oX)(i:Nat):Bool:=(decide (0<(a.dF.getD i []).length)==a.seen.getD i false)&&decide ((a.dF.getD i []).length<=4096)
def uB(a:oX):Int:=
 if a.number<1\/1073741824<a.number\/a.parts<1\/65536<a.parts\/a.sum<0\/4294967295<a.sum\/(a.dF.length:Int)≠a.parts\/(a.seen.length:Int)≠a.parts then 3
 else if(List.range a.dF.length).all (PX a)=true then 0 else 3
def vL(a:oX)(b:List Int):oX×Int:=
 if uB a=0 then
  if(dA b).2=0 then
   if(dA b).1.number=a.number then
    if(dA b).1.parts=a.parts/\(dA b).1.sum=a.sum then
     if a.seen.getD (dA b).1.index.toNat false=true/\a.dF.getD (dA b).1.index.toNat []≠(dA b).1.piece then(pU,22)
     else(⟨a.number,a.parts,a.sum,a.dF.set (dA b).1.index.toNat (dA b).1.piece,a.seen.set (dA b).1.index.toNat true⟩,0)
    else(pU,22)
   else(pU,7)
  else(pU,(dA b).2)
 else(pU,3)
def uE(a:oX):kM×Int:=
 if uB a=0 then
  if a.seen.all id=true then
   if 65536<a.dF.flatten.length then(mV,5)
   else if jO a.dF.flatten=a.sum then
    if(A5 a.dF.flatten).2=0 then
     if(A5 a.dF.flatten).1.number=a.number then((A5 a.dF.flatten).1,0)else(mV,22)
    else(mV,(A5 a.dF.flatten).2)
   else(mV,9)
  else(mV,15)
 else(mV,3)
def Mi(n i p s:Int)(l:List Int):List Int:=aV n++aV i++aV p++aV s++l
def kE(b:List Int)(rB i:Nat):List Int:=(b.drop (i*rB)).take rB
def xI(len rB:Nat):Nat:=(len+rB-1)/rB
def A6(c:kM)(rB:Int):List (List Int)×Int:=
 if(vK c).2=0 then
  if rB<1\/4096<rB then([],2)
  else((List.range (xI (vK c).1.length rB.toNat)).map fun(i:Nat)=>Mi c.number (i:Int) ((xI (vK c).1.length rB.toNat:Nat):Int) (jO (vK c).1) (kE (vK c).1 rB.toNat i),0)
 else([],(vK c).2)
end Go.Proofs.YtpaomccedbjknaaGreatDoor
namespace Go.Proofs.YtpaomccedbjknaaGreatDoor
open Go.Proofs Go.AL Tryz
set_option maxRecDepth 100000
set_option maxHeartbeats 8000000
attribute [local irreducible] bT AW b8 cF dB hold
attribute [local irreducible] iX
theorem ZO(src:List Int)(hb:∀x∈src,bZ x)(hl:src.length<=100000)(id:Nat):u9 prog 286 [.ptr id 0 0] id (jQ src) (kA (jH src)) (.aK [zV (aU src).1,zV (jH src).2.2]) 200:=by
 refine mstart func286 ntmps286 ?_;intro N G aC lS hG;have c1:=UH src hb hl id;obtain⟨⟨x,r,e⟩,hX⟩:∃X,aU src=X:=⟨_,rfl⟩;have hL:jH src=if e=0 then(if 65536<x then(0,[],5)else(x,r,e))else(0,[],e):=by unfold jH;rw[hX]
 rw[hX]at c1;rw[hX,hL];clear hX hL hb;unfold kA jQ at*;simp only[]at*;by_cases g:e=0
 ·subst g
  rw[if_pos rfl]at c1;rw[if_pos rfl];by_cases g2:65536<x
  ·rw[if_pos g2,if_neg dE]
   refine fL ?_;exact jR
  ·rw[if_neg g2,if_pos rfl]
   refine fL ?_;exact jR
 ·rw[if_neg g]at c1
  rw[if_neg g,if_neg g];refine fL ?_;exact jR
theorem ar2(src:List Int)(hb:∀x∈src,bZ x)(hl:src.length<=100000)(id:Nat):u9 prog 287 [.ptr id 0 0] id (jQ src) (if(aU src).2.2=0 then kA (aU (aU src).2.1)else none) (.aK (if(aU src).2.2=0 then [zV (aU src).1,zV (aU (aU src).2.1).1,zV (aU (aU src).2.1).2.2]else [zV 0,zV 0,zV (aU src).2.2])) 300:=by
 refine mstart func287 ntmps287 ?_;intro N G aC lS hG;have c1:=UH src hb hl id;have hle:=sI hb;have c2:=UH (aU src).2.1 hle.1 oM id
 generalize aU (aU src).2.1=Y at*;generalize aU src=X at*;obtain⟨x,r,e⟩:=X;obtain⟨y,r2,e2⟩:=Y;clear hb hle;unfold kA jQ at*;simp only[]at*;by_cases g:e=0
 ·subst g
  rw[if_pos rfl]at*;rw[if_pos rfl];by_cases g2:e2=0
  ·subst g2
   rw[if_pos rfl]at*;refine fL ?_;exact jR
  ·rw[if_neg g2]at*
   refine fL ?_;exact jR
 ·rw[if_neg g]at*
  rw[if_neg g];refine fL ?_;exact jR
theorem ar3(src:List Int)(n:Nat)(hn:n<=100000)(hl:src.length<=100000)(id:Nat):u9 prog 303 [.ptr id 0 0,zV n] id (jQ src) (if src.length<n then none else some (jQ (src.drop n))) (.aK (if src.length<n then [.snap (aB aO []),zV 10]else [.snap (aB aO (src.take n)),zV 0])) 50:=by
 refine mstart func303 ntmps303 ?_;intro N G aC lS hG;unfold jQ at*;by_cases g:src.length<n
 ·rw[if_pos g,if_pos g]
  refine fL ?_;exact jR
 ·rw[if_neg g,if_neg g]
  have e3:(src.drop n).take (src.length-n)=src.drop n:=cN (by rw[kR];omega)
  refine fL ?_;exact jR
def lJ:Nat->Nat->AV
 |0,_=> .c (.slice none 0 0)
 |k+1,id=> .own id 0 (k+1)
def lX(t:TypeId)(s:Nat)(rows:List (List AV)):Nat->Nat->List (Nat×Option aI)
 |0,_=> []
 |k+1,id=> [(id,some (.cells t s rows true true))]
@[go_sem] theorem bU2(id:Nat):lJ 0 id= .c (.slice none 0 0):=rfl
@[go_sem] theorem bU3(k id:Nat):lJ (k+1) id= .own id 0 (k+1):=rfl
@[go_sem] theorem bU4(t:TypeId)(s:Nat)(rows:List (List AV))(id:Nat):lX t s rows 0 id=[]:=rfl
@[go_sem] theorem bU5(t:TypeId)(s:Nat)(rows:List (List AV))(k id:Nat):lX t s rows (k+1) id=[(id,some (.cells t s rows true true))]:=rfl
theorem ar4(src:List Int)(hb:∀x∈src,bZ x)(hl:src.length<=100000)(id:Nat):u9 prog 270 [.ptr id 0 0,.fn (.func 237) [] []] id (jQ src) (kA (eG aU src)) (.aK [.snap (aB aW (eG aU src).1),zV (eG aU src).2.2]) 10000000:=by
 refine mstart func270 ntmps270 ?_;intro N G aC lS hG;have c1:=ZO src hb hl id;have hM:eG aU src=if(jH src).2.2=0 then qM aU (jH src).1.toNat (jH src).2.1 []else([],[],(jH src).2.2):=rfl
 have hle:=UF src hb;have vM:=ZL hb;generalize eG aU src=M at*;by_cases g:(jH src).2.2=0
 ·obtain⟨i1,i2,i3,i4⟩:=vM g
  rw[if_pos g]at hM;rw[i1,g]at c1;obtain⟨s,hs⟩:∃s,(jH src).2.1=s:=⟨_,rfl⟩;obtain⟨n,hn⟩:∃n:Nat,(jH src).1=n:=⟨_,(Zg i2).symm⟩;unfold kA at c1;rw[if_pos g,hs,hn]at c1;rw[hn,hs,sY]at hM;rw[hs]at hle;rw[hn]at i3;clear i1 i2 i4 vM g hn hs hb;unfold jQ at*;refine fL ?_;refine UI (α:=(List Int×List Int)×Nat) (G:=G) n (fun k a=> [(20,true,zV k),(19,true,zV n),(8,true,lJ k a.2),(1,true,.fn (.func 237) [] []),(0,true,.ptr id 0 0)]) (fun k a=>(id,some (.cells 373 1 [[.snap (aB aO a.1.1)]] true false))::lX 3 1 (aB aW a.1.2) k a.2) (fun k m a=>(N<=m/\m<=N+300+110*k)/\((∀x∈a.1.1,bZ x)/\a.1.1.length<=src.length)/\a.1.2.length=k/\qM aU (n-k) a.1.1 a.1.2=M/\(0<k->N<=a.2/\a.2<m)) ⟨N+250,((s,[]),0),⟨⟨oM,oM⟩,hle,rfl,hM.symm,fun h=>by omega⟩,vG⟩ (fun k m a hk hR=> ?_) (fun m a hR=> ?_)
  ·obtain⟨⟨s',out⟩,PY⟩:=a
   obtain⟨⟨h1,xJ⟩,⟨h2,h3⟩,h4,h5,h6⟩:=hR;simp only[]at h1 xJ h2 h3 h4 h5 h6⊢;obtain⟨f,hf⟩:∃f,n-k=f+1:=⟨n-k-1,oM⟩
   rw[hf,HP]at h5;have c2:=UH s' h2 oM id
   have dG:=ZJ s' h2;have rS:n-(k+1)=f:=oM
   clear c1 hM hle;generalize aU s'=X at*;obtain⟨x,r,e⟩:=X;simp only[]at*;unfold kA jQ at c2;simp only[]at c2;have A7:(out++[x]).length=k+1:=by simp[h4]
   by_cases g:e=0
   ·subst g
    rw[if_pos rfl]at c2 h5;have h7:bC (qM aU (n-(k+1)) r (out++[x])=M):=⟨by rw[rS];exact h5⟩
    have h8:bC ((∀x∈r,bZ x)/\r.length<=src.length):=⟨dG.1,oM⟩
    clear h5 hf rS h2 dG;cases k with
    |zero=>
     have h9:out=[]:=eL h4;subst h9;clear h6;refine fL ?_;exact⟨m+102,((r,[x]),m+100+1),⟨⟨oM,oM⟩,h8.out,A7,h7.out,fun _=>⟨by simp only[];omega,by simp only[];omega⟩⟩,vG⟩
    |succ j=>
     obtain⟨h9,fG⟩:=h6 oM
     refine fL ?_;exact⟨m+102,((r,out++[x]),m+100+1),⟨⟨oM,oM⟩,h8.out,A7,h7.out,fun _=>⟨by simp only[];omega,by simp only[];omega⟩⟩,vG⟩
   ·rw[if_neg g]at c2 h5
    subst h5;unfold kA;rw[if_neg g];clear h2 dG hf rS A7;cases k with
    |zero=>
     refine fL ?_;exact jR
    |succ j=>
     obtain⟨h9,fG⟩:=h6 oM
     refine fL ?_;exact jR
  ·obtain⟨⟨s',out⟩,PY⟩:=a
   obtain⟨⟨h1,xJ⟩,⟨h2,h3⟩,h4,h5,h6⟩:=hR;simp only[]at h1 xJ h2 h3 h4 h5 h6⊢;rw[B7,PU]at h5;subst h5;unfold kA jQ;rw[if_pos rfl];clear c1 hM hle h2;cases n with
   |zero=>
    have h9:out=[]:=eL h4;subst h9;refine fL ?_;exact jR
   |succ j=>
    obtain⟨h9,fG⟩:=h6 oM
    have mR:out.take (j+1)=out:=cN oM
    refine fL ?_;exact jR
 ·rw[if_neg g]at hM
  subst hM;unfold kA at*;rw[if_neg g]at c1;rw[if_neg g];clear hle vM hb;generalize (jH src).2.2=e at*;unfold jQ at*;refine fL ?_;exact jR
end Go.Proofs.YtpaomccedbjknaaGreatDoor
