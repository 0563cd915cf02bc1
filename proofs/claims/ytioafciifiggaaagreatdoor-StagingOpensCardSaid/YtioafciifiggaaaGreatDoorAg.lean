/- Staging. No condition. -/
import Derived.Test.YtioafciifiggaaaGreatDoorL0
import Derived.Test.YtioafciifiggaaaGreatDoorAf
import Derived.Test.YtioafciifiggaaaGreatDoorLe
set_option linter.all false
namespace Go.Proofs.YtioafciifiggaaaGreatDoor
open Go.Proofs Go.AL
set_option maxRecDepth 100000
set_option maxHeartbeats 1000000
attribute [local irreducible] cB AW aX cZ dK hold
def F7(n lo hi:Int):Bool:=decide (lo<=n)&&decide (n<=hi)
theorem ZQ(n lo hi:Int):PC 187 [zV n,zV lo,zV hi] (bV (F7 n lo hi)):=by
 refine aT Tryz.func187 Tryz.ntmps187 (.c _) ?_;unfold F7;by_cases g1:lo<=n
 ·refine aD ?_
  exact aB
 ·refine aD ?_
  exact aB
def qD(n:Int):Bool:= !(F7 n 0 1073741824)
theorem ae7(n:Int):PC 232 [zV n] (bV (qD n)):=by
 refine aT Tryz.func232 Tryz.ntmps232 (.c _) ?_;have c1:=ZQ n 0 1073741824;unfold qD;refine aD ?_;exact aB
theorem ae8(l:List Int)(hl:l.length<=1000000):PC 274 [.snap (aA bA l),.fn (.func 232) [] []] (zV (pR (l.findIdx? qD))):=by
 refine aT Tryz.func274 Tryz.ntmps274 (.c _) ?_;unfold pR;refine aD ?_;have hg:=gI l;have c1:=ae7;refine dP (α:=Unit) l.length (fun k _=> [(8,true,zV k),(7,true,zV l.length),(0,true,.snap (aA bA l)),(1,true,.fn (.func 232) [] [])]) (fun _ _=> []) (fun k m _=>∀i,i<k->qD (l.getD i 0)=false) ⟨0,(),fun i hi=>by omega,aN⟩ (fun k m _ hk hR=> ?_) (fun m _ hR=> ?_)
 ·refine aD ?_
  refine Jj (fun h=> ?_) (fun h=> ?_)
  ·have hf:l.findIdx? qD=some k:=by
    rw[HA];exact⟨hk,by simpa[hk]using h,fun j hj=>by have:=hR j hj;simp[show j<l.length by omega]at this;simpa using this⟩
   refine aD ?_;exact aB
  ·refine aD ?_
   refine⟨m,(),fun i hi=> ?_,aN⟩
   by_cases fE:i=k
   ·subst fE;exact h
   ·exact hR i (by omega)
 ·have hf:l.findIdx? qD=none:=by
   rw[HB];intro x hx;obtain⟨i,hi⟩:=wX.1 hx;obtain⟨h1,h2⟩:=dS.1 hi;have:=hR i h1;simp[h1,h2]at this;exact this
  refine aD ?_;exact aB
theorem ZR{α:Type}(q:α->Bool)(l:List α):decide (0<=pR (l.findIdx? q))=l.any q:=by
 cases h:l.findIdx? q with
 |none=>
  rw[HB]at h;simp only[pR];symm;simpa using h
 |some i=>
  rw[HA]at h;obtain⟨h1,h2,_⟩:=h;simp only[pR];have:l.any q=true:=pO.2 ⟨_,D2 h1,h2⟩;rw[this];simp
theorem ae9(l:List Int)(hl:l.length<=1000000):PC 231 [.snap (aA bA l),.fn (.func 232) [] []] (bV (l.any qD)):=by
 refine aT Tryz.func231 Tryz.ntmps231 (.c _) ?_;have c1:=ae8 l hl;have h1:=ZR qD l;refine aD ?_;exact aB
def LB(l:List Int):Int:=if 8<l.length then 6 else if l.any qD=true then 2 else 0
theorem af0(l:List Int)(hl:l.length<=1000000):PC 188 [.snap (aA bA l),zV 0] (zV (LB l)):=by
 refine aT Tryz.func188 Tryz.ntmps188 (.c _) ?_;have c1:=ZQ (l.length:Int) 0 8;have c2:=ae9 l hl;unfold LB;unfold F7 at c1;by_cases g1:8<l.length
 ·rw[if_pos g1]
  rw[rP (by omega),yR (by omega)]at c1
  refine aD ?_;exact aB
 ·rw[if_neg g1]
  rw[rP (by omega),rP (by omega)]at c1
  cases h:l.any qD with
  |true=>
   rw[h]at c2;refine aD ?_;exact aB
  |false=>
   rw[h]at c2;refine aD ?_;exact aB
theorem af1(l:List Int)(hl:l.length<=1000000):PC 260 [.snap (aA bA l)] (zV (if l.any qD=true then 2 else 0)):=by
 refine aT Tryz.func260 Tryz.ntmps260 (.c _) ?_;have hg:=gI l;refine aD ?_;refine dP (α:=Unit) l.length (fun k _=> [(3,true,zV k),(0,true,.snap (aA bA l))]) (fun _ _=> []) (fun k m _=>∀i,i<k->qD (l.getD i 0)=false) ⟨0,(),fun i hi=>by omega,aN⟩ (fun k m _ hk hR=> ?_) (fun m _ hR=> ?_)
 ·have h4:=dC 0 hk
  by_cases g1:l.getD k 0<0
  ·have h3:l.any qD=true:=pO.2 ⟨_,h4,by unfold qD F7;rw[yR (by omega)];rfl⟩
   rw[if_pos h3];clear hR;refine aD ?_;exact aB
  ·by_cases g2:1073741824<l.getD k 0
   ·have h3:l.any qD=true:=pO.2 ⟨_,h4,by unfold qD F7;rw[yR (a:=l.getD k 0) (by omega)];simp⟩
    rw[if_pos h3];clear hR;refine aD ?_;exact aB
   ·have bK:∀i,i<k+1->qD (l.getD i 0)=false:=fun i hi=>by
     by_cases fE:i=k
     ·subst fE;unfold qD F7;rw[rP (by omega),rP (by omega)];rfl
     ·exact hR i (by omega)
    clear hR;refine aD ?_;exact⟨m,(),bK,aN⟩
 ·have h3:l.any qD=false:=by
   rw[TV];intro x hx;obtain⟨i,hi⟩:=wX.1 hx;obtain⟨h1,h2⟩:=dS.1 hi;have:=hR i h1;simp[h1,h2]at this;simp[this]
  rw[h3,if_neg (by decide)]
  clear hR h3;refine aD ?_;exact aB
def mC(im:List (List aY)):List Int:=im.map fun v=>(v.length:Int)
theorem gV(l:List (List aY))(k:Nat)(h:k<l.length):(aA qT l)[k]? =some (qT (l.getD k [])):=pQ [] h
theorem af2(v:List aY):PC 303 [.snap (aA aQ v)] (zV v.length):=by
 refine aT Tryz.func303 Tryz.ntmps303 (.c _) ?_;refine aD ?_;exact aB
theorem af3(im:List (List aY))(hl:im.length<=1000):PC 302 [.snap (aA qT im),.fn (.func 303) [] []] (.snap (aA bA (mC im))):=by
 refine aT Tryz.func302 Tryz.ntmps302 (iJ _) ?_;have hg:=gV im;have c1:=af2;unfold mC;refine aD ?_;refine dP (α:=Nat) im.length (fun k id=> [(13,true,zV k),(12,true,zV im.length),(11,true,.snap (aA qT im)),(1,true,.fn (.func 303) [] []),(5,true,.own id 0 k)]) (fun k id=> [(id,some (.cells 3 1 (aA bA ((im.map fun v=>(v.length:Int)).take k)) true true))]) (fun k m id=>id<m) ⟨9,0,by omega,aN⟩ (fun k m id hk hR=> ?_) (fun m id hR=> ?_)
 ·have h5:=Jm (fun v:List aY=>(v.length:Int)) [] hk
  have h6:((im.map fun v=>(v.length:Int)).take k).length=k:=by simp;omega
  refine aD ?_;exact⟨m+2,m+1,by omega,aN⟩
 ·have h6:(im.map fun v=>(v.length:Int)).take im.length=im.map fun v=>(v.length:Int):=cR (by simp)
  refine aD ?_;exact aB
theorem af4(im:List (List aY))(hl:im.length<=1000):PC 294 [.snap (aA qT im)] (.snap (aA bA (mC im))):=by
 refine aT Tryz.func294 Tryz.ntmps294 (iJ _) ?_;have c1:=af3 im hl;refine aD ?_;exact aB
theorem ZS(im:List (List aY)):(mC im).length=im.length:=by simp[mC]
theorem af5(im:List (List aY))(hl:im.length<=1000):PC 275 [.snap (aA qT im)] (zV (mM (mC im))):=by
 refine aT Tryz.func275 Tryz.ntmps275 (.c _) ?_;have c1:=af4 im hl;have c2:=Jk (mC im) (by rw[ZS];omega)
 refine aD ?_;exact aB
def qE(sz:List Int)(w:Int×Int×List aY):Int:=
 if w.1<0\/(sz.length:Int)<=w.1 then 7
 else if w.2.2.length=0 then 1
 else if w.2.1<0\/sz.getD w.1.toNat 0-w.2.2.length<w.2.1 then 2
 else 0
theorem af6(im:List (List aY))(w:Int×Int×List aY)(hl:im.length<=1000)(hv:∀v∈im,v.length<=1000000)(hw:w.2.2.length<=1000000):PC 276 [.snap (aA qT im),.agg (bC w)] (zV (qE (mC im) w)):=by
 refine aT Tryz.func276 Tryz.ntmps276 (.c _) ?_;have hg:=gV im;obtain⟨v,s,l⟩:=w;unfold bC;simp only[]at*;unfold qE;by_cases g1:v<0
 ·rw[if_pos (.inl g1)]
  refine aD ?_;exact aB
 by_cases g2:(im.length:Int)<=v
 ·rw[if_pos (by rw[ZS];exact .inr g2)]
  refine aD ?_;exact aB
 rw[if_neg (by rw[ZS];omega)]
 by_cases g3:l.length=0
 ·rw[if_pos g3]
  have g4:(l.length:Int)=0:=by omega
  refine aD ?_;exact aB
 rw[if_neg g3];have g4:¬(l.length:Int)=0:=by omega
 obtain⟨n,rfl⟩:=sK (by omega:0<=v)
 have g5:n<im.length:=by omega
 have e1:(mC im).getD ((n:Int)).toNat 0=((im.getD n []).length:Int):=by
  rw[nC];unfold mC;rw[lC,lC,iA,fU g5];rfl
 rw[e1];have Kr:=hv _ (dC [] g5);have ZT:=hg n g5;clear hg hv e1;generalize im.getD n []=V at*;have w1:IntKind.i64.wrap ((V.length:Int)-l.length)=(V.length:Int)-l.length:=IntWalk.i64_in _ (by omega)
 by_cases g6:s<0
 ·rw[if_pos (.inl g6)]
  refine aD ?_;exact aB
 by_cases g7:(V.length:Int)-l.length<s
 ·rw[if_pos (.inr g7)]
  refine aD ?_;exact aB
 rw[if_neg (fun h=>by simp only[]at h;omega)]
 refine aD ?_;exact aB
theorem af7(im:List (List aY))(w:Int×Int×List aY)(hl:im.length<=1000)(hv:∀v∈im,v.length<=1000000)(hw:w.2.2.length<=1000000):PC 235 [.snap (aA qT im),.agg (bC w)] (zV (if mM (mC im)=0 then qE (mC im) w else mM (mC im))):=by
 refine aT Tryz.func235 Tryz.ntmps235 (.c _) ?_;have c1:=af5 im hl;have c2:=af6 im w hl hv hw;unfold bC at*;by_cases g:mM (mC im)=0
 ·rw[if_pos g]
  rw[g]at c1;refine aD ?_;exact aB
 ·rw[if_neg g]
  refine aD ?_;exact aB
abbrev iC:=Int×Int×List aY
def j8:iC:=(0,0,[])
theorem gW(l:List iC)(k:Nat)(h:k<l.length):(aA bC l)[k]? =some (bC (l.getD k j8)):=pQ j8 h
theorem Ks{sz:List Int}(h:mM sz=0){v:Nat}(hv:v<sz.length):1<=sz.getD v 0/\sz.getD v 0<=4096:=by
 obtain⟨h1,h2,h3⟩:=PM h;exact h3 _ (dC 0 hv)
theorem UU{sz:List Int}{w:iC}(h:mM sz=0)(hf:qE sz w=0):0<=w.1/\w.1.toNat<sz.length/\1<=w.2.2.length/\0<=w.2.1/\w.2.1+w.2.2.length<=sz.getD w.1.toNat 0/\w.2.1+w.2.2.length<=4096:=by
 unfold qE at hf;by_cases g1:w.1<0\/(sz.length:Int)<=w.1
 ·rw[if_pos g1]at hf;exact absurd hf (by decide)
 rw[if_neg g1]at hf;by_cases g2:w.2.2.length=0
 ·rw[if_pos g2]at hf;exact absurd hf (by decide)
 rw[if_neg g2]at hf;by_cases g3:w.2.1<0\/sz.getD w.1.toNat 0-w.2.2.length<w.2.1
 ·rw[if_pos g3]at hf;exact absurd hf (by decide)
 have g4:w.1.toNat<sz.length:=by omega
 have:=Ks h g4;exact⟨by omega,g4,by omega,by omega,by omega,by omega⟩
def HO(x w:iC):Bool:=decide (w.1<x.1)||(decide (w.1=x.1)&&decide (w.2.1<=x.2.1+x.2.2.length))
def qW(sz:List Int):Option iC->List iC->Int
 |_,[]=>0
 |p,w::r=>if qE sz w=0 then(match p with|none=>qW sz (some w) r|some x=>if HO x w=true then 3 else qW sz (some w) r)else qE sz w
def C5(l:List iC):Nat->Option iC
 |0=>none
 |k+1=>some (l.getD k j8)
theorem af8(im:List (List aY))(w:iC)(hl:im.length<=1000)(hv:∀v∈im,v.length<=1000000)(hw:w.2.2.length<=1000000)(h0:mM (mC im)=0):PC 234 [.agg (bC w),.dJ [[.snap (aA qT im)]] 0 0] (zV (qE (mC im) w)):=by
 refine aT Tryz.func234 Tryz.ntmps234 (.c _) ?_;have c1:=af7 im w hl hv hw;rw[if_pos h0]at c1;unfold bC at*;refine aD ?_;exact aB
theorem af9(im:List (List aY))(l:List iC)(hl:im.length<=1000)(hv:∀v∈im,v.length<=1000000)(hw:∀w∈l,w.2.2.length<=1000000)(hn:l.length<=1000000)(h0:mM (mC im)=0):PC 233 [.snap (aA bC l),.fn (.func 234) [] [.dJ [[.snap (aA qT im)]] 0 0]] (zV (qW (mC im) none l)):=by
 refine aT Tryz.func233 Tryz.ntmps233 (.c _) ?_;generalize hF:qW (mC im) none l=F;have hg:=gW l;refine aD ?_;refine dP (α:=Unit) l.length (fun k _=> [(11,true,zV k),(10,true,zV l.length),(9,true,.snap (aA bC l)),(1,true,.fn (.func 234) [] [.dJ [[.snap (aA qT im)]] 0 0]),(0,true,.snap (aA bC l))]) (fun _ _=> []) (fun k m _=>qW (mC im) (C5 l k) (l.drop k)=F/\(0<k->qE (mC im) (l.getD (k-1) j8)=0)) ⟨9,(),⟨hF,fun h=>by omega⟩,aN⟩ (fun k m _ hk hR=> ?_) (fun m _ hR=> ?_)
 ·obtain⟨r1,r2⟩:=hR
  have c1:=af8 im (l.getD k j8) hl hv (hw _ (dC j8 hk)) h0;have cV:=hg k hk;rw[tL j8 hk]at r1;by_cases g1:qE (mC im) (l.getD k j8)=0
  ·have f1:=UU h0 g1
   rw[g1]at c1;cases k with
   |zero=>
    have r3:aU (qW (mC im) (C5 l (0+1)) (l.drop (0+1))=F/\(0<0+1->qE (mC im) (l.getD (0+1-1) j8)=0)):=⟨by
     simp only[qW,C5]at r1;rw[if_pos g1]at r1
     exact r1,fun _=>g1⟩
    clear r1 r2 hF hg hw f1 g1;generalize l.getD 0 j8=w at*;obtain⟨v,s,d⟩:=w;have F8:(aA bC l)[0]? =some [zV v,zV s,.snap (aA aQ d)]:=cV;clear cV;unfold bC at c1;refine aD ?_;exact⟨m+30,(),r3.out,aN⟩
   |succ j=>
    have f2:=UU h0 (r2 (by omega))
    have C6:=hg j (by omega)
    have e1:j+1-1=j:=by omega
    rw[e1]at f2;have e2:((j+1:Nat):Int)-1=(j:Int):=by omega
    have e3:((j:Int)+1)-1=(j:Int):=by omega
    have hz:¬((j+1:Nat):Int)=0:=by omega
    simp only[qW,C5]at r1;rw[if_pos g1]at r1;by_cases g2:HO (l.getD j j8) (l.getD (j+1) j8)=true
    ·rw[if_pos g2]at r1
     rw[<-r1];clear r1 r2 hF hg hw g1;generalize l.getD j j8=x at*;generalize l.getD (j+1) j8=w at*;obtain⟨v,s,d⟩:=w;obtain⟨v2,s2,d2⟩:=x;have F8:(aA bC l)[j+1]? =some [zV v,zV s,.snap (aA aQ d)]:=cV;have ZU:(aA bC l)[j]? =some [zV v2,zV s2,.snap (aA aQ d2)]:=C6;clear cV C6;unfold bC at c1;unfold HO at g2;simp only[]at*;have w1:IntKind.i64.wrap (s2+(d2.length:Int))=s2+d2.length:=IntWalk.i64_in _ (by omega)
     simp only[ES,jX,decide_eq_true_eq]at g2;by_cases g3:v<v2
     ·clear g2
      refine aD ?_;exact aB
     ·have g4:v=v2:=by omega
      have g5:s<=s2+d2.length:=by omega
      subst g4;clear g2;refine aD ?_;exact aB
    ·rw[if_neg g2]at r1
     have r3:aU (qW (mC im) (C5 l (j+1+1)) (l.drop (j+1+1))=F/\(0<j+1+1->qE (mC im) (l.getD (j+1+1-1) j8)=0)):=⟨r1,fun _=>g1⟩
     clear r1 r2 hF hg hw g1;generalize l.getD j j8=x at*;generalize l.getD (j+1) j8=w at*;obtain⟨v,s,d⟩:=w;obtain⟨v2,s2,d2⟩:=x;have F8:(aA bC l)[j+1]? =some [zV v,zV s,.snap (aA aQ d)]:=cV;have ZU:(aA bC l)[j]? =some [zV v2,zV s2,.snap (aA aQ d2)]:=C6;clear cV C6;unfold bC at c1;unfold HO at g2;simp only[]at*;have w1:IntKind.i64.wrap (s2+(d2.length:Int))=s2+d2.length:=IntWalk.i64_in _ (by omega)
     simp only[ES,jX,decide_eq_true_eq]at g2;have g3:¬v<v2:=by omega
     by_cases g4:v=v2
     ·have g5:¬s<=s2+d2.length:=by omega
      subst g4;clear g2;refine aD ?_;exact⟨m+30,(),r3.out,aN⟩
     ·clear g2
      refine aD ?_;exact⟨m+30,(),r3.out,aN⟩
  ·simp only[qW]at r1
   rw[if_neg g1]at r1;rw[<-r1];clear r1 r2 hF hg hw;generalize qE (mC im) (l.getD k j8)=e at*;generalize l.getD k j8=w at*;obtain⟨v,s,d⟩:=w;have F8:(aA bC l)[k]? =some [zV v,zV s,.snap (aA aQ d)]:=cV;clear cV;unfold bC at c1;refine aD ?_;exact aB
 ·have r1:=hR.1
  rw[wZ]at r1;rw[<-r1];clear r1 hR hF;refine aD ?_;exact aB
end Go.Proofs.YtioafciifiggaaaGreatDoor
