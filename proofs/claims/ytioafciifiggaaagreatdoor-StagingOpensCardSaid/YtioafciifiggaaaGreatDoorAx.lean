/- Staging. No condition. -/
import Derived.Test.YtioafciifiggaaaGreatDoorL0
import Derived.Test.YtioafciifiggaaaGreatDoorAw
set_option linter.all false
namespace Go.Proofs.YtioafciifiggaaaGreatDoor
open Go.Proofs Go.AL
set_option maxRecDepth 100000
set_option maxHeartbeats 4000000
attribute [local irreducible] cB AW aX cZ dK hold
attribute [local irreducible] eV
@[go_sem] theorem bH7(F:List bI)(n p s:Int)(h:List (List Int))(e:List Bool)(r:List Int)(c:Bool):aA cG F++[[zV n,zV p,zV s,.snap (aA bW h),.snap (aA cM e),.snap (aA bA r),bV c]]=aA cG (F++[⟨n,p,s,h,e,r,c⟩]):=nR F ⟨n,p,s,h,e,r,c⟩
def sW(l:List bI)(x:bI)(k:Nat):List bI:=
 if k<=bE l x.number then l.take k
 else l.take (bE l x.number)++x::(l.take k).drop (if iW l x.number=true then bE l x.number+1 else bE l x.number)
theorem av0{l:List bI}{x:bI}{k:Nat}(hk:k<bE l x.number):sW l x (k+1)=sW l x k++[l.getD k b8]:=by
 unfold sW;rw[if_pos (by omega),if_pos (by omega),vZ b8 (by have:=LO l x.number;omega)]
theorem av1{l:List bI}{x:bI}(hk:bE l x.number<l.length):sW l x (bE l x.number+1)=if iW l x.number=true then sW l x (bE l x.number)++[x]else sW l x (bE l x.number)++[x]++[l.getD (bE l x.number) b8]:=by
 unfold sW;rw[if_neg (by omega),if_pos (cA _)]
 split
 ·rw[EU (by rw[eD];omega)]
 ·rw[vZ b8 hk,U0 (by rw[eD];omega)]
  simp
theorem av2{l:List bI}{x:bI}{k:Nat}(h:bE l x.number<k)(hk:k<l.length):sW l x (k+1)=sW l x k++[l.getD k b8]:=by
 unfold sW
 have e1:(if iW l x.number=true then bE l x.number+1 else bE l x.number)<=(l.take k).length:=by
  rw[eD];split<;>omega
 rw[if_neg (show¬k+1<=bE l x.number by omega),if_neg (show¬k<=bE l x.number by omega),vZ b8 hk,bv8 e1]
 simp
theorem av3{l:List bI}{x:bI}(h:bE l x.number<l.length):sW l x l.length=pD l x:=by
 unfold sW pD;rw[if_neg (by omega),l4]
 split
 ·rw[bv6,if_pos h]
 ·rfl
theorem av4{l:List bI}{x:bI}(h:bE l x.number=l.length):sW l x l.length++[x]=pD l x:=by
 unfold sW pD;have hb:iW l x.number=false:=by unfold iW;rw[h];simp
 rw[if_pos (by omega),if_neg (by rw[hb];decide),h,l4,wZ]
theorem av5(l:List bI)(x:bI)(hs:DG l)(hl:l.length<=100000):PC 124 [.snap (aA cG l),.agg (cG x)] (.snap (aA cG (pD l x))):=by
 refine aT Tryz.func124 Tryz.ntmps124 (iJ _) ?_;have hg:=uP l;have t1:=fun k=>av0 (l:=l) (x:=x) (k:=k)
 have t2:=av1 (l:=l) (x:=x);have t3:=fun k=>av2 (l:=l) (x:=x) (k:=k)
 have t4:=av3 (l:=l) (x:=x);have t5:=av4 (l:=l) (x:=x);have f1:=fun i=>QF (l:=l) (n:=x.number) (i:=i)
 have f2:=fun i=>QG hs (n:=x.number) (i:=i)
 have f3:=LO l x.number;have f4:iW l x.number=true->(l.getD (bE l x.number) b8).number=x.number:=fun h=>(yZ h).2
 have f5:bE l x.number<l.length->(l.getD (bE l x.number) b8).number=x.number->iW l x.number=true:=fun h1 h2=>by unfold iW;rw[decide_eq_true h1,decide_eq_true h2];rfl
 have f6:∀k,bE l x.number<k->k<l.length->x.number<(l.getD k b8).number:=fun k h1 h2=>by
  have:=f2 _ (cA _) (by omega)
  have:=hs _ _ h1 h2;omega
 have t0:sW l x 0=[]:=by unfold sW;rw[if_pos (mT _)];rfl
 generalize hi:bE l x.number=i at*;generalize iW l x.number=fb at*;generalize hP:sW l x=P at*;generalize hR:pD l x=R at*;clear hi hP hR hs;obtain⟨n,p,s,h,e,r,c⟩:=x;rw[iP];simp only[]at*;refine aE ?_;refine dP (α:=Nat) l.length (fun k id=> [(7,true,zV k),(6,true,bV (decide (i<k))),(5,true,nG (P k).length id),(3,true,.ptr 0 0 0),(0,true,.snap (aA cG l))]) (fun k id=>(0,some (.cells 64 7 [[zV n,zV p,zV s,.snap (aA bW h),.snap (aA cM e),.snap (aA bA r),bV c]] true false))::oB 64 7 (aA cG (P k)) (P k).length id) (fun k m id=>(1<=m/\(P k).length<=2*k)/\(0<(P k).length->1<=id/\id<m)) ⟨100,0,⟨⟨by omega,by rw[t0];simp⟩,fun h=>absurd h (by rw[t0];simp)⟩,by rw[t0];exact aN⟩ (fun k m id hk hR=> ?_) (fun m id hR=> ?_)
 ·obtain⟨⟨hm,s6⟩,hR⟩:=hR
  have cV:=hg k hk;rw[iP]at cV;clear hg t4 t5 t0;rcases TZ k i with bG|heq|W5
  ·have t:=t1 k bG
   have g1:=f1 k bG;have d1:decide (i<k)=false:=by simp;omega
   have d2:decide (i<k+1)=false:=by simp;omega
   rw[t,d1,d2];clear t t1 t2 t3 f1 f2 f3 f4 f5 f6 d1 d2;generalize P k=F at*;generalize l.getD k b8=y at*;obtain⟨yn,yp,ys,yh,ye,yr,yc⟩:=y;simp only[]at*;have g2:¬n<=yn:=by omega
   obtain⟨g3,AO⟩:=xS (x:=yn) (y:=n) (by omega)
   cases hF:F.length with
   |zero=>
    have gJ:F=[]:=fI hF;subst gJ;clear hR hF;refine aE ?_;exact⟨m+60,m+12+8+1,⟨⟨by omega,by simp only[cP,eI,gL];omega⟩,fun _=>by omega⟩,aN⟩
   |succ q=>
    obtain⟨i1,i2⟩:=hR (by omega)
    have kW:(F++[bI.mk yn yp ys yh ye yr yc]).length=q+1+1:=by simp[hF]
    have W6:q<=300000:=by omega
    rw[kW];clear hR;refine aE ?_;exact⟨m+60,m+12+8+1,⟨⟨by omega,by omega⟩,fun _=>by omega⟩,aN⟩
  ·subst heq
   have t:=t2 hk;have g1:=f2 k (cA _) hk;have d1:decide (k<k)=false:=by simp
   have d2:decide (k<k+1)=true:=by simp
   rw[t,d1,d2];have g5:=f5 hk;clear t t1 t2 t3 f1 f2 f3 f5 f6 d1 d2;cases fb with
   |true=>
    have g4:=f4 rfl;rw[if_pos rfl];clear f4 g5;generalize P k=F at*;generalize l.getD k b8=y at*;obtain⟨yn,yp,ys,yh,ye,yr,yc⟩:=y;simp only[]at*;subst g4;obtain⟨g3,AO⟩:=gD yn;cases hF:F.length with
    |zero=>
     have gJ:F=[]:=fI hF;subst gJ;clear hR hF;refine aE ?_;exact⟨m+60,m+12+1,⟨⟨by omega,by simp only[cP,eI,gL];omega⟩,fun _=>by omega⟩,aN⟩
    |succ q=>
     obtain⟨i1,i2⟩:=hR (by omega)
     have kW:(F++[bI.mk yn p s h e r c]).length=q+1+1:=by simp[hF]
     have W6:q<=300000:=by omega
     rw[kW];clear hR;refine aE ?_;exact⟨m+60,m+12+1,⟨⟨by omega,by omega⟩,fun _=>by omega⟩,aN⟩
   |false=>
    rw[if_neg (by decide)]
    clear f4;generalize P k=F at*;generalize l.getD k b8=y at*;obtain⟨yn,yp,ys,yh,ye,yr,yc⟩:=y;simp only[]at*;obtain⟨g3,AO⟩:=xS (x:=yn) (y:=n) (fun h=>absurd (g5 h) (by decide))
    clear g5;cases hF:F.length with
    |zero=>
     have gJ:F=[]:=fI hF;subst gJ;clear hR hF;refine aE ?_;exact⟨m+60,m+12+1+8+1+1,⟨⟨by omega,by simp only[cP,eI,gL];omega⟩,fun _=>by omega⟩,aN⟩
    |succ q=>
     obtain⟨i1,i2⟩:=hR (by omega)
     have kW:(F++[bI.mk n p s h e r c]++[bI.mk yn yp ys yh ye yr yc]).length=q+1+1+1:=by simp[hF]
     have hF3:(F++[bI.mk n p s h e r c]).length=q+1+1:=by simp[hF]
     have W6:q<=300000:=by omega
     rw[kW];clear hR;refine aE ?_;exact⟨m+60,m+12+1+8+1+1,⟨⟨by omega,by omega⟩,fun _=>by omega⟩,aN⟩
  ·have t:=t3 k W5 hk
   have g1:=f6 k W5 hk;have d1:decide (i<k)=true:=by simp;omega
   have d2:decide (i<k+1)=true:=by simp;omega
   rw[t,d1,d2];clear t t1 t2 t3 f1 f2 f3 f4 f5 f6 d1 d2;generalize P k=F at*;generalize l.getD k b8=y at*;obtain⟨yn,yp,ys,yh,ye,yr,yc⟩:=y;simp only[]at*;obtain⟨g3,AO⟩:=xS (x:=yn) (y:=n) (by omega)
   cases hF:F.length with
   |zero=>
    have gJ:F=[]:=fI hF;subst gJ;clear hR hF;refine aE ?_;exact⟨m+60,m+12+8+1,⟨⟨by omega,by simp only[cP,eI,gL];omega⟩,fun _=>by omega⟩,aN⟩
   |succ q=>
    obtain⟨i1,i2⟩:=hR (by omega)
    have kW:(F++[bI.mk yn yp ys yh ye yr yc]).length=q+1+1:=by simp[hF]
    have W6:q<=300000:=by omega
    rw[kW];clear hR;refine aE ?_;exact⟨m+60,m+12+8+1,⟨⟨by omega,by omega⟩,fun _=>by omega⟩,aN⟩
 ·obtain⟨⟨hm,s6⟩,hR⟩:=hR
  clear hg t1 t2 t3 f1 f2 f4 f5 f6 t0;rcases lU i l.length with hi|hi
  ·have t:=t4 hi
   have d1:decide (i<l.length)=true:=by simp[hi]
   rw[t]at s6 hR⊢;rw[d1];clear t t4 t5 d1;cases hF:R.length with
   |zero=>
    have gJ:R=[]:=fI hF;subst gJ;clear hR hF;refine aE ?_;exact aB
   |succ q=>
    obtain⟨i1,i2⟩:=hR (by omega)
    have iD:R.take (q+1)=R:=cR (by omega)
    clear hR;refine aE ?_;exact aB
  ·have zA:i=l.length:=by omega
   have t:=t5 zA;have d1:decide (i<l.length)=false:=by simp[zA]
   rw[d1];clear t4 t5 d1 zA hi;generalize P l.length=F at*;subst t;cases hF:F.length with
   |zero=>
    have gJ:F=[]:=fI hF;subst gJ;clear hR hF;have eM:aA cG ([]++[bI.mk n p s h e r c])=[[zV n,zV p,zV s,.snap (aA bW h),.snap (aA cM e),.snap (aA bA r),bV c]]:=rfl;refine aE ?_;exact aB
   |succ q=>
    obtain⟨i1,i2⟩:=hR (by omega)
    have W6:q<=300000:=by omega
    have iD:(F++[bI.mk n p s h e r c]).take (q+1+1)=F++[bI.mk n p s h e r c]:=cR (by simp[hF])
    clear hR;refine aE ?_;exact aB
set_option maxHeartbeats 8000000
theorem av6:Tryz.prog.eqGuardType Tryz.prog.depth 149=false:=by kernel_rfl
theorem Ca(xs ys:List Int)(hx:xs.length=3)(hy:ys.length=3):xF Tryz.prog 149 (.agg (xs.map zV)) (.agg (ys.map zV))=some (decide (xs=ys)):=by
 unfold xF;rw[av6,if_neg (by simp)]
 have hk:v7 Tryz.prog 149=some (.array 3 0):=by kernel_rfl
 unfold v7 at hk;split at hk
 ·rename_i fs hu
  split at hk
  ·cases hk
  ·rename_i hp
   obtain⟨n,hm,he⟩:=IF hk;simp only[TypeDesc.array.injEq,and_true]at he;subst he;have:=W7 (P:=Tryz.prog) (d:=9998) fs.toList 0 3 xs ys hm (by rw[hx]) (by rw[hy])
   simp only[tH]at this
   show pT Tryz.prog (9999+1) 149 (.agg (xs.map zV)) (.agg (ys.map zV))=_
   rw[Cb hu,if_neg hp];have e1:∀l:List Int,l.map zV=(l.map iV).map AV.c:=fun l=>by rw[P9];rfl
   rw[e1,e1];exact this
 ·cases hk
 ·rename_i LZ xK
  exact absurd hk (xK _ _)
theorem av7:Tryz.prog.eqGuardType Tryz.prog.depth 27=false:=by kernel_rfl
theorem av8(xs ys:List Int)(hx:xs.length=2)(hy:ys.length=2):xF Tryz.prog 27 (.agg (xs.map zV)) (.agg (ys.map zV))=some (decide (xs=ys)):=by
 unfold xF;rw[av7,if_neg (by simp)]
 have hk:v7 Tryz.prog 27=some (.array 2 0):=by kernel_rfl
 unfold v7 at hk;split at hk
 ·rename_i fs hu
  split at hk
  ·cases hk
  ·rename_i hp
   obtain⟨n,hm,he⟩:=IF hk;simp only[TypeDesc.array.injEq,and_true]at he;subst he;have:=W7 (P:=Tryz.prog) (d:=9998) fs.toList 0 2 xs ys hm (by rw[hx]) (by rw[hy])
   simp only[tH]at this
   show pT Tryz.prog (9999+1) 27 (.agg (xs.map zV)) (.agg (ys.map zV))=_
   rw[Cb hu,if_neg hp];have e1:∀l:List Int,l.map zV=(l.map iV).map AV.c:=fun l=>by rw[P9];rfl
   rw[e1,e1];exact this
 ·cases hk
 ·rename_i LZ xK
  exact absurd hk (xK _ _)
def lO(h:List (List Int))(k:Nat):List (List AV):=aA bW (h.take k)++List.replicate (h.length-k) [.c (.slice none 0 0)]
theorem Oi(h:List (List Int)):List.replicate h.length [AV.c (.slice none 0 0)]=lO h 0:=rfl
theorem W8(h:List (List Int)):lO h h.length=aA bW h:=by unfold lO;rw[l4,tG];simp
theorem IG{h:List (List Int)}{k:Nat}(hk:k<=h.length):(lO h k).length=h.length:=by
 unfold lO;rw[cP,fZ,eD,BO];omega
theorem M0{h:List (List Int)}{k:Nat}(hk:k<h.length):(lO h k)[k]? =some [.c (.slice none 0 0)]:=by
 unfold lO;rw[lD (by rw[fZ,eD];omega),KU,if_pos (by rw[fZ,eD];omega)]
theorem Cc{h:List (List Int)}{k:Nat}(hk:k<h.length):(lO h k).set k [.snap (aA aH (h.getD k []))]=lO h (k+1):=by
 unfold lO;have hl:(aA bW (h.take k)).length=k:=by rw[fZ,eD];omega
 rw[Xz _ _ (by omega),hl,tG,vZ [] hk,<-FU,show h.length-k=(h.length-(k+1))+1 by omega,KS,YU,kA]
 rfl
attribute [local irreducible] lO
theorem Oj(a:mO)(b:List Int)(hA:I0 a)(hb:∀x∈b,aV x)(hl:b.length<=100000):PC 74 [.agg (eL a),.snap (aA aH b)] (.aR [.agg (eL (kG a b).1),zV (kG a b).2]):=by
 refine uH Tryz.func74 Tryz.ntmps74 (by simp only[go_sem,eL]) ?_
 have c1:=Aq a (by have:=hA.cI;omega) (by have:=hA.seen;omega) (fun y hy=>by have:=(hA.one y hy).1;omega)
 have c2:=An b hb hl;have cK:=FG hb;have h3:=QD (a:=a);have h4:=Ay (a:=a);obtain⟨M,hM⟩:∃M,kG a b=M:=⟨_,rfl⟩;rw[hM];unfold kG at hM;generalize qZ a=ae at*;generalize bM b=R at*;obtain⟨⟨n,i,p,s,l⟩,e⟩:=R;obtain⟨an,ap,az,ah,eS⟩:=a;have eM:=hA.one;have QK:=hA.seen;clear hA hb;unfold eL at*;simp only[]at*;by_cases g1:ae=0
 case neg=>
  rw[if_neg g1]at hM;subst hM;have h3:=h3 g1;subst h3;clear c2 cK h4 eM;unfold lX;refine aE ?_;exact aB
 rw[if_pos g1]at hM;obtain⟨-,-,p1,-,-,-,p2,p3,-⟩:=h4 g1;subst g1;clear h3 h4;by_cases g2:e=0
 case neg=>
  rw[if_neg g2]at hM;subst hM;clear cK eM;unfold lX;refine aE ?_;exact aB
 rw[if_pos g2]at hM;obtain⟨o1,o2,o3,o4,o5,o6,o7,o8,o9,QV,o11⟩:=cK g2;subst g2;clear cK;by_cases g3:n=an
 case neg=>
  rw[if_neg g3]at hM;subst hM;obtain⟨g,gx⟩:=xS g3;clear eM g3;unfold lX;refine aE ?_;exact aB
 rw[if_pos g3]at hM;by_cases g4:p=ap
 case neg=>
  rw[if_neg (fun h=>g4 h.1)]at hM
  subst hM g3;obtain⟨d1,r8⟩:=gD n;have g:xF Tryz.prog 149 (.agg [zV n,zV p,zV s]) (.agg [zV n,zV ap,zV az])=some false:=(Ca [n,p,s] [n,ap,az] rfl rfl).trans (by rw[decide_eq_false (fun h=>g4 (by injection h with _ h;injection h))])
  clear eM g4;unfold lX;refine aE ?_;exact aB
 by_cases g5:s=az
 case neg=>
  rw[if_neg (fun h=>g5 h.2)]at hM
  subst hM g3 g4;obtain⟨d1,r8⟩:=gD n;have g:xF Tryz.prog 149 (.agg [zV n,zV p,zV s]) (.agg [zV n,zV p,zV az])=some false:=(Ca [n,p,s] [n,p,az] rfl rfl).trans (by rw[decide_eq_false (fun h=>g5 (by injection h with _ h;injection h with _ h;injection h))])
  clear eM g5;unfold lX;refine aE ?_;exact aB
 rw[if_pos ⟨g4,g5⟩]at hM;subst g3 g4 g5;obtain⟨d1,r8⟩:=gD n;obtain⟨i,rfl⟩:=sK o3;rw[nC]at hM;subst p2;have QW:i<ah.length:=by omega
 have lN:i<eS.length:=by omega
 have c3:=au1 (ah.getD i []) l (eM _ (dC [] QW)).2 QV;have kJ:=FH ah;have iE:=kJ i QW
 replace kJ:=aU.mk kJ
 have DM:(aA cM eS)[i]? =some [bV (eS.getD i false)]:=AB eS i lN;have w1:∀k:Nat,k<ah.length->PC 151 [.snap (aA aH (ah.getD k []))] (.snap (aA aH (ah.getD k []))):=fun k hk=>yT _ (by have:=(eM _ (dC [] hk)).1;omega)
 clear eM QV
 replace w1:=aU.mk w1
 have d4:xF Tryz.prog 149 (.agg [zV n,zV ah.length,zV s]) (.agg [zV n,zV ah.length,zV s])=some true:=(Ca [n,ah.length,s] [n,ah.length,s] rfl rfl).trans (by simp)
 generalize eS.getD i false=sb at*;have c4:=au7 eS (fun h=>by rw[h]at lN;simp at lN) (by omega)
 have m0:=Oi ah;have IH:(aA cM eS).set i [bV true]=aA cM (eS.set i true):=EY (f:=cM) eS i true;have lE:(aA bW ah).set i [.snap (aA aH l)]=aA bW (ah.set i l):=EY (f:=bW) ah i l;cases sb with
 |true=>
  by_cases g6:ah.getD i []=l
  case neg=>
   rw[if_pos ⟨rfl,g6⟩]at hM;subst hM;rw[decide_eq_false g6]at c3;unfold lX;clear w1;refine aE ?_;exact aB
  rw[if_neg (fun h=>h.2 g6)]at hM
  subst hM;rw[decide_eq_true g6]at c3;clear g6;refine aE ?_;refine dP (α:=Unit) ah.length (fun k _=> [(81,true,zV k),(80,true,zV ah.length),(79,true,.snap (aA bW ah)),(10,true,.ptr 4 0 0),(8,true,.snap (aA aH l)),(7,true,.ptr 2 0 0),(4,true,.ptr 1 0 0)]) (fun k _=> [(1,some (.cells 161 5 [[zV 0,zV 0,zV 0,.c (.slice none 0 0),.c (.slice none 0 0)]] true false)),(2,some (.cells 154 4 [[zV n,zV ah.length,zV s,zV i]] true false)),(4,some (.cells 161 5 [[zV n,zV ah.length,zV s,.own 11 0 ah.length,.own 8 0 eS.length]] true false)),(8,some (.cells 4 1 (aA cM eS) true true)),(11,some (.cells 74 1 (lO ah k) true true))]) (fun k m _=>12<=m) ⟨100,(),by omega,aN⟩ (fun k m _ hk hm=> ?_) (fun m _ hm=> ?_)
  ·have cV:=kJ.out k hk
   have c5:=w1.out k hk;have m1:=M0 hk;have m2:=Cc hk;have m3:=IG (h:=ah) (k:=k) (by omega)
   generalize ah.getD k []=x at*;clear kJ w1 lE IH iE DM m0 c4;refine aE ?_;exact⟨m+40,(),by omega,aN⟩
  ·rw[W8]
   have tP:(aA bW ah).length=ah.length:=fZ ah;have bQ:(aA cM eS).length=eS.length:=fZ eS;have t1:(ah.set i l).take ah.length=ah.set i l:=cR (by simp)
   have t2:(eS.set i true).take eS.length=eS.set i true:=cR (by simp)
   have n1:(∀row,row∈aA bW (ah.set i l)->∀x,x∈row->bJ x)=True:=eq_true (mN _);have n2:(∀row,row∈aA cM (eS.set i true)->∀x,x∈row->bJ x)=True:=eq_true (mN _);have x1:=fun G k=>QT G k (ah.set i l)
   have x2:=fun G k=>LM G k (eS.set i true)
   clear kJ w1 m0 c4;refine aE ?_;exact nE
 |false=>
  rw[if_neg (fun h=>absurd h.1 (by decide))]at hM
  subst hM;clear c3;refine aE ?_;refine dP (α:=Unit) ah.length (fun k _=> [(81,true,zV k),(80,true,zV ah.length),(79,true,.snap (aA bW ah)),(10,true,.ptr 4 0 0),(8,true,.snap (aA aH l)),(7,true,.ptr 2 0 0),(4,true,.ptr 1 0 0)]) (fun k _=> [(1,some (.cells 161 5 [[zV 0,zV 0,zV 0,.c (.slice none 0 0),.c (.slice none 0 0)]] true false)),(2,some (.cells 154 4 [[zV n,zV ah.length,zV s,zV i]] true false)),(4,some (.cells 161 5 [[zV n,zV ah.length,zV s,.own 11 0 ah.length,.own 8 0 eS.length]] true false)),(8,some (.cells 4 1 (aA cM eS) true true)),(11,some (.cells 74 1 (lO ah k) true true))]) (fun k m _=>12<=m) ⟨100,(),by omega,aN⟩ (fun k m _ hk hm=> ?_) (fun m _ hm=> ?_)
  ·have cV:=kJ.out k hk
   have c5:=w1.out k hk;have m1:=M0 hk;have m2:=Cc hk;have m3:=IG (h:=ah) (k:=k) (by omega)
   generalize ah.getD k []=x at*;clear kJ w1 lE IH iE DM m0 c4;refine aE ?_;exact⟨m+40,(),by omega,aN⟩
  ·rw[W8]
   have tP:(aA bW ah).length=ah.length:=fZ ah;have bQ:(aA cM eS).length=eS.length:=fZ eS;have t1:(ah.set i l).take ah.length=ah.set i l:=cR (by simp)
   have t2:(eS.set i true).take eS.length=eS.set i true:=cR (by simp)
   have n1:(∀row,row∈aA bW (ah.set i l)->∀x,x∈row->bJ x)=True:=eq_true (mN _);have n2:(∀row,row∈aA cM (eS.set i true)->∀x,x∈row->bJ x)=True:=eq_true (mN _);have x1:=fun G k=>QT G k (ah.set i l)
   have x2:=fun G k=>LM G k (eS.set i true)
   clear kJ w1 m0 c4;refine aE ?_;exact nE
end Go.Proofs.YtioafciifiggaaaGreatDoor
