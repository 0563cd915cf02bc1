/- Staging. No condition. -/
import Derived.Test.YtioafciifiggaaaGreatDoorL0
import Derived.Test.YtioafciifiggaaaGreatDoorAi
set_option linter.all false
namespace Go.Proofs.YtioafciifiggaaaGreatDoor
open Go.Proofs Go.AL
set_option maxRecDepth 100000
set_option maxHeartbeats 1000000
attribute [local irreducible] cB AW aX cZ dK hold
structure Af where
 number:Int
 index:Int
 parts:Int
 sum:Int
 piece:List Int
def oR:Af:=⟨0,0,0,0,[]⟩
def HU(n i p s:Int)(l:List Int):Prop:=n<1\/1073741824<n\/p<=i\/65536<p\/4294967295<s\/l=[]\/4096<l.length
instance (n i p s:Int)(l:List Int):Decidable (HU n i p s l):=by unfold HU;exact inferInstance
def Q8(x1 x2 x3 x4:Int×List Int×Int):Af×Int:=
 if x1.2.2=0 then
  if x2.2.2=0 then
   if x3.2.2=0 then
    if x4.2.2=0 then
     if HU x1.1 x2.1 x3.1 x4.1 x4.2.1 then(oR,3)else(⟨x1.1,x2.1,x3.1,x4.1,x4.2.1⟩,0)
    else(oR,x4.2.2)
   else(oR,x3.2.2)
  else(oR,x2.2.2)
 else(oR,x1.2.2)
def bM(b:List Int):Af×Int:=Q8 (aF b) (aF (aF b).2.1) (aF (aF (aF b).2.1).2.1) (aF (aF (aF (aF b).2.1).2.1).2.1)
structure mO where
 number:Int
 parts:Int
 sum:Int
 cI:List (List Int)
 seen:List Bool
def lX:mO:=⟨0,0,0,[],[]⟩
def bW(l:List Int):List AV:=[.snap (aA aH l)]
def eL(a:mO):List AV:=[zV a.number,zV a.parts,zV a.sum,.snap (aA bW a.cI),.snap (aA cM a.seen)]
def qF(b:List Int):mO×Int:=
 if(bM b).2=0 then(⟨(bM b).1.number,(bM b).1.parts,(bM b).1.sum,(List.replicate (bM b).1.parts.toNat []).set (bM b).1.index.toNat (bM b).1.piece,(List.replicate (bM b).1.parts.toNat false).set (bM b).1.index.toNat true⟩,0)
 else(lX,(bM b).2)
def FB(a:mO)(i:Nat):Bool:=(decide (0<(a.cI.getD i []).length)==a.seen.getD i false)&&decide ((a.cI.getD i []).length<=4096)
def qZ(a:mO):Int:=
 if a.number<1\/1073741824<a.number\/a.parts<1\/65536<a.parts\/a.sum<0\/4294967295<a.sum\/(a.cI.length:Int)≠a.parts\/(a.seen.length:Int)≠a.parts then 3
 else if(List.range a.cI.length).all (FB a)=true then 0 else 3
def kG(a:mO)(b:List Int):mO×Int:=
 if qZ a=0 then
  if(bM b).2=0 then
   if(bM b).1.number=a.number then
    if(bM b).1.parts=a.parts/\(bM b).1.sum=a.sum then
     if a.seen.getD (bM b).1.index.toNat false=true/\a.cI.getD (bM b).1.index.toNat []≠(bM b).1.piece then(lX,22)
     else(⟨a.number,a.parts,a.sum,a.cI.set (bM b).1.index.toNat (bM b).1.piece,a.seen.set (bM b).1.index.toNat true⟩,0)
    else(lX,22)
   else(lX,7)
  else(lX,(bM b).2)
 else(lX,3)
def oA(a:mO):oO×Int:=
 if qZ a=0 then
  if a.seen.all id=true then
   if 65536<a.cI.flatten.length then(p9,5)
   else if eO a.cI.flatten=a.sum then
    if(uM a.cI.flatten).2=0 then
     if(uM a.cI.flatten).1.number=a.number then((uM a.cI.flatten).1,0)else(p9,22)
    else(p9,(uM a.cI.flatten).2)
   else(p9,9)
  else(p9,15)
 else(p9,3)
def Lj(n i p s:Int)(l:List Int):List Int:=b9 n++b9 i++b9 p++b9 s++l
def kH(b:List Int)(k6 i:Nat):List Int:=(b.drop (i*k6)).take k6
def xG(len k6:Nat):Nat:=(len+k6-1)/k6
def FD(c:oO)(k6:Int):List (List Int)×Int:=
 if(rZ c).2=0 then
  if k6<1\/4096<k6 then([],2)
  else((List.range (xG (rZ c).1.length k6.toNat)).map fun(i:Nat)=>Lj c.number (i:Int) ((xG (rZ c).1.length k6.toNat:Nat):Int) (eO (rZ c).1) (kH (rZ c).1 k6.toNat i),0)
 else([],(rZ c).2)
end Go.Proofs.YtioafciifiggaaaGreatDoor
namespace Go.Proofs.YtioafciifiggaaaGreatDoor
open Go.Proofs Go.AL
set_option maxRecDepth 100000
set_option maxHeartbeats 1000000
attribute [local irreducible] cB AW aX cZ dK hold
attribute [local irreducible] eV
theorem Ag(src:List Int)(hb:∀x∈src,aV x)(hl:src.length<=100000)(id:Nat):jZ Tryz.prog 280 [.ptr id 0 0] id (jR src) (kF (dM src)) (.aR [zV (aF src).1,zV (dM src).2.2]) 200:=by
 refine mstart Tryz.func280 Tryz.ntmps280 ?_;intro N G aC iL hG;have c1:=V2 src hb hl id;obtain⟨⟨x,r,e⟩,hX⟩:∃X,aF src=X:=⟨_,rfl⟩;have hL:dM src=if e=0 then(if 65536<x then(0,[],5)else(x,r,e))else(0,[],e):=by unfold dM;rw[hX]
 rw[hX]at c1;rw[hX,hL];clear hX hL hb;unfold kF jR at*;simp only[]at*;by_cases g:e=0
 ·subst g
  rw[if_pos rfl]at c1;rw[if_pos rfl];by_cases g2:65536<x
  ·rw[if_pos g2,if_neg (by decide)]
   refine bO ?_;exact jI
  ·rw[if_neg g2,if_pos rfl]
   refine bO ?_;exact jI
 ·rw[if_neg g]at c1
  rw[if_neg g,if_neg g];refine bO ?_;exact jI
theorem ai6(src:List Int)(hb:∀x∈src,aV x)(hl:src.length<=100000)(id:Nat):jZ Tryz.prog 281 [.ptr id 0 0] id (jR src) (if(aF src).2.2=0 then kF (aF (aF src).2.1)else none) (.aR (if(aF src).2.2=0 then [zV (aF src).1,zV (aF (aF src).2.1).1,zV (aF (aF src).2.1).2.2]else [zV 0,zV 0,zV (aF src).2.2])) 300:=by
 refine mstart Tryz.func281 Tryz.ntmps281 ?_;intro N G aC iL hG;have c1:=V2 src hb hl id;have hle:=mB hb;have c2:=V2 (aF src).2.1 hle.1 (by omega) id
 generalize aF (aF src).2.1=Y at*;generalize aF src=X at*;obtain⟨x,r,e⟩:=X;obtain⟨y,r2,e2⟩:=Y;clear hb hle;unfold kF jR at*;simp only[]at*;by_cases g:e=0
 ·subst g
  rw[if_pos rfl]at*;rw[if_pos rfl];by_cases g2:e2=0
  ·subst g2
   rw[if_pos rfl]at*;refine bO ?_;exact jI
  ·rw[if_neg g2]at*
   refine bO ?_;exact jI
 ·rw[if_neg g]at*
  rw[if_neg g];refine bO ?_;exact jI
theorem ai7(src:List Int)(n:Nat)(hn:n<=100000)(hl:src.length<=100000)(id:Nat):jZ Tryz.prog 304 [.ptr id 0 0,zV n] id (jR src) (if src.length<n then none else some (jR (src.drop n))) (.aR (if src.length<n then [.snap (aA aH []),zV 10]else [.snap (aA aH (src.take n)),zV 0])) 50:=by
 refine mstart Tryz.func304 Tryz.ntmps304 ?_;intro N G aC iL hG;unfold jR at*;by_cases g:src.length<n
 ·rw[if_pos g,if_pos g]
  refine bO ?_;exact jI
 ·rw[if_neg g,if_neg g]
  have e3:(src.drop n).take (src.length-n)=src.drop n:=cR (by rw[fX];omega)
  refine bO ?_;exact jI
def nG:Nat->Nat->AV
 |0,_=> .c (.slice none 0 0)
 |k+1,id=> .own id 0 (k+1)
def oB(t:TypeId)(s:Nat)(rows:List (List AV)):Nat->Nat->List (Nat×Option aI)
 |0,_=> []
 |k+1,id=> [(id,some (.cells t s rows true true))]
@[go_sem] theorem V3(id:Nat):nG 0 id= .c (.slice none 0 0):=rfl
@[go_sem] theorem bF2(k id:Nat):nG (k+1) id= .own id 0 (k+1):=rfl
@[go_sem] theorem V4(t:TypeId)(s:Nat)(rows:List (List AV))(id:Nat):oB t s rows 0 id=[]:=rfl
@[go_sem] theorem bF3(t:TypeId)(s:Nat)(rows:List (List AV))(k id:Nat):oB t s rows (k+1) id=[(id,some (.cells t s rows true true))]:=rfl
theorem ai8(src:List Int)(hb:∀x∈src,aV x)(hl:src.length<=100000)(id:Nat):jZ Tryz.prog 244 [.ptr id 0 0,.fn (.func 212) [] []] id (jR src) (kF (cC aF src)) (.aR [.snap (aA bA (cC aF src).1),zV (cC aF src).2.2]) 10000000:=by
 refine mstart Tryz.func244 Tryz.ntmps244 ?_;intro N G aC iL hG;have c1:=Ag src hb hl id;have hM:cC aF src=if(dM src).2.2=0 then lW aF (dM src).1.toNat (dM src).2.1 []else([],[],(dM src).2.2):=rfl
 have hle:=HT src hb;have lN:=LI hb;generalize cC aF src=M at*;by_cases g:(dM src).2.2=0
 ·obtain⟨i1,i2,i3,i4⟩:=lN g
  rw[if_pos g]at hM;rw[i1,g]at c1;obtain⟨s,hs⟩:∃s,(dM src).2.1=s:=⟨_,rfl⟩;obtain⟨n,hn⟩:∃n:Nat,(dM src).1=n:=⟨_,(TY i2).symm⟩;unfold kF at c1;rw[if_pos g,hs,hn]at c1;rw[hn,hs,nC]at hM;rw[hs]at hle;rw[hn]at i3;clear i1 i2 i4 lN g hn hs hb;unfold jR at*;refine bO ?_;refine LJ (α:=(List Int×List Int)×Nat) (G:=G) n (fun k a=> [(20,true,zV k),(19,true,zV n),(8,true,nG k a.2),(1,true,.fn (.func 212) [] []),(0,true,.ptr id 0 0)]) (fun k a=>(id,some (.cells 376 1 [[.snap (aA aH a.1.1)]] true false))::oB 3 1 (aA bA a.1.2) k a.2) (fun k m a=>(N<=m/\m<=N+300+110*k)/\((∀x∈a.1.1,aV x)/\a.1.1.length<=src.length)/\a.1.2.length=k/\lW aF (n-k) a.1.1 a.1.2=M/\(0<k->N<=a.2/\a.2<m)) ⟨N+250,((s,[]),0),⟨⟨by omega,by omega⟩,hle,rfl,hM.symm,fun h=>by omega⟩,qX⟩ (fun k m a hk hR=> ?_) (fun m a hR=> ?_)
  ·obtain⟨⟨s',out⟩,A6⟩:=a
   obtain⟨⟨h1,A7⟩,⟨h2,h3⟩,h4,h5,h6⟩:=hR;simp only[]at h1 A7 h2 h3 h4 h5 h6⊢;obtain⟨f,hf⟩:∃f,n-k=f+1:=⟨n-k-1,by omega⟩
   rw[hf,C7]at h5;have c2:=V2 s' h2 (by omega) id
   have bQ:=Q5 s' h2;have jP:n-(k+1)=f:=by omega
   clear c1 hM hle;generalize aF s'=X at*;obtain⟨x,r,e⟩:=X;simp only[]at*;unfold kF jR at c2;simp only[]at c2;have pU:(out++[x]).length=k+1:=by simp[h4]
   by_cases g:e=0
   ·subst g
    rw[if_pos rfl]at c2 h5;have h7:aU (lW aF (n-(k+1)) r (out++[x])=M):=⟨by rw[jP];exact h5⟩
    have h8:aU ((∀x∈r,aV x)/\r.length<=src.length):=⟨bQ.1,by omega⟩
    clear h5 hf jP h2 bQ;cases k with
    |zero=>
     have h9:out=[]:=fI h4;subst h9;clear h6;refine bO ?_;exact⟨m+102,((r,[x]),m+100+1),⟨⟨by omega,by omega⟩,h8.out,pU,h7.out,fun _=>⟨by simp only[];omega,by simp only[];omega⟩⟩,qX⟩
    |succ j=>
     obtain⟨h9,cO⟩:=h6 (by omega)
     refine bO ?_;exact⟨m+102,((r,out++[x]),m+100+1),⟨⟨by omega,by omega⟩,h8.out,pU,h7.out,fun _=>⟨by simp only[];omega,by simp only[];omega⟩⟩,qX⟩
   ·rw[if_neg g]at c2 h5
    subst h5;unfold kF;rw[if_neg g];clear h2 bQ hf jP pU;cases k with
    |zero=>
     refine bO ?_;exact jI
    |succ j=>
     obtain⟨h9,cO⟩:=h6 (by omega)
     refine bO ?_;exact jI
  ·obtain⟨⟨s',out⟩,A6⟩:=a
   obtain⟨⟨h1,A7⟩,⟨h2,h3⟩,h4,h5,h6⟩:=hR;simp only[]at h1 A7 h2 h3 h4 h5 h6⊢;rw[tG,FA]at h5;subst h5;unfold kF jR;rw[if_pos rfl];clear c1 hM hle h2;cases n with
   |zero=>
    have h9:out=[]:=fI h4;subst h9;refine bO ?_;exact jI
   |succ j=>
    obtain⟨h9,cO⟩:=h6 (by omega)
    have kC:out.take (j+1)=out:=cR (by omega)
    refine bO ?_;exact jI
 ·rw[if_neg g]at hM
  subst hM;unfold kF at*;rw[if_neg g]at c1;rw[if_neg g];clear hle lN hb;generalize (dM src).2.2=e at*;unfold jR at*;refine bO ?_;exact jI
theorem Ah(src:List Int)(hb:∀x∈src,aV x)(hl:src.length<=100000):PC 257 [.snap (aA aH src)] (.aR [zV (dM src).1,.snap (aA aH (dM src).2.1),zV (dM src).2.2]):=by
 refine aT Tryz.func257 Tryz.ntmps257 (by simp only[go_sem]) ?_
 have c1:=vW src hb hl;unfold dM;generalize aF src=X at*;obtain⟨x,r,e⟩:=X;clear hb;simp only[]at*;by_cases g:e=0
 ·subst g
  rw[if_pos rfl];by_cases g2:65536<x
  ·rw[if_pos g2]
   refine aD ?_;exact aB
  ·rw[if_neg g2]
   refine aD ?_;exact aB
 ·rw[if_neg g]
  refine aD ?_;exact aB
theorem ai9(src:List Int)(hb:∀x∈src,aV x)(hl:src.length<=100000):PC 221 [.snap (aA aH src)] (.aR [.snap (aA bA (cC aF src).1),.snap (aA aH (cC aF src).2.1),zV (cC aF src).2.2]):=by
 refine aT Tryz.func221 Tryz.ntmps221 (by simp only[go_sem]) ?_
 have c1:=Ah src hb hl;have hM:cC aF src=if(dM src).2.2=0 then lW aF (dM src).1.toNat (dM src).2.1 []else([],[],(dM src).2.2):=rfl
 have hle:=HT src hb;have lN:=LI hb;generalize cC aF src=M at*;by_cases g:(dM src).2.2=0
 ·obtain⟨i1,i2,i3,i4⟩:=lN g
  rw[if_pos g]at hM;rw[g]at c1;obtain⟨s,hs⟩:∃s,(dM src).2.1=s:=⟨_,rfl⟩;obtain⟨n,hn⟩:∃n:Nat,(dM src).1=n:=⟨_,(TY i2).symm⟩;rw[hs,hn]at c1;rw[hn,hs,nC]at hM;rw[hs]at hle;rw[hn]at i3;clear i1 i2 i4 lN g hn hs hb;refine aD ?_;refine dP (α:=(List Int×List Int)×Nat) n (fun k a=> [(8,true,zV k),(5,true,zV n),(7,true,nG k a.2),(0,true,.snap (aA aH a.1.1))]) (fun k a=>oB 3 1 (aA bA a.1.2) k a.2) (fun k m a=>((∀x∈a.1.1,aV x)/\a.1.1.length<=src.length)/\a.1.2.length=k/\lW aF (n-k) a.1.1 a.1.2=M/\(0<k->a.2<m)) ⟨0,((s,[]),0),⟨hle,rfl,hM.symm,fun h=>by omega⟩,aN⟩ (fun k m a hk hR=> ?_) (fun m a hR=> ?_)
  ·obtain⟨⟨s',out⟩,A6⟩:=a
   obtain⟨⟨h2,h3⟩,h4,h5,h6⟩:=hR;simp only[]at h2 h3 h4 h5 h6⊢;obtain⟨f,hf⟩:∃f,n-k=f+1:=⟨n-k-1,by omega⟩
   rw[hf,C7]at h5;have bQ:=Q5 s' h2;have jP:n-(k+1)=f:=by omega
   clear c1 hM hle;have c2:=vW s' h2 (by omega)
   generalize aF s'=X at*;obtain⟨x,r,e⟩:=X;simp only[]at*;have pU:(out++[x]).length=k+1:=by simp[h4]
   by_cases g:e=0
   ·subst g
    rw[if_pos rfl]at h5;have h7:aU (lW aF (n-(k+1)) r (out++[x])=M):=⟨by rw[jP];exact h5⟩
    have h8:aU ((∀x∈r,aV x)/\r.length<=src.length):=⟨bQ.1,by omega⟩
    clear h5 hf jP h2 bQ;cases k with
    |zero=>
     have h9:out=[]:=fI h4;subst h9;clear h6;refine aD ?_;exact⟨m+2,((r,[x]),m+1),⟨h8.out,pU,h7.out,fun _=>by simp only[];omega⟩,aN⟩
    |succ j=>
     have cO:=h6 (by omega)
     refine aD ?_;exact⟨m+2,((r,out++[x]),m+1),⟨h8.out,pU,h7.out,fun _=>by simp only[];omega⟩,aN⟩
   ·rw[if_neg g]at h5
    subst h5;clear h2 bQ hf jP pU;cases k with
    |zero=>
     refine aD ?_;exact aB
    |succ j=>
     have cO:=h6 (by omega)
     refine aD ?_;exact aB
  ·obtain⟨⟨s',out⟩,A6⟩:=a
   obtain⟨⟨h2,h3⟩,h4,h5,h6⟩:=hR;simp only[]at h2 h3 h4 h5 h6⊢;rw[tG,FA]at h5;subst h5;clear c1 hM hle h2;cases n with
   |zero=>
    have h9:out=[]:=fI h4;subst h9;refine aD ?_;exact aB
   |succ j=>
    have cO:=h6 (by omega)
    have kC:out.take (j+1)=out:=cR (by omega)
    refine aD ?_;exact aB
 ·rw[if_neg g]at hM
  subst hM;clear hle lN hb;generalize dM src=L at*;obtain⟨l1,l2,e⟩:=L;simp only[]at*;refine aD ?_;exact aB
end Go.Proofs.YtioafciifiggaaaGreatDoor
