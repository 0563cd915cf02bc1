/- Staging. No condition. -/
import Derived.Test.YtioafciifiggaaaGreatDoorL0
import Derived.Test.YtioafciifiggaaaGreatDoorAg
import Derived.Test.YtioafciifiggaaaGreatDoorAf
import Derived.Test.YtioafciifiggaaaGreatDoorLe
import Derived.Shelf.SlIterI.Nil
import Derived.Shelf.SortM.Plain
import Derived.Shelf.SortM.SortNone
import Derived.Ground.GgzProg
import Derived.Ground.SlgmProg
import Derived.Test.YtioafciifiggaaaGreatDoorLc
set_option linter.all false
namespace Go.Proofs.YtioafciifiggaaaGreatDoor
open Go.Proofs Go.AL
set_option maxRecDepth 100000
set_option maxHeartbeats 1000000
attribute [local irreducible] cB AW aX cZ dK hold
theorem ag0{sz:List Int}(h:mM sz=0):mC (zX sz)=sz:=by
 obtain⟨h1,h2,h3⟩:=PM h;unfold mC zX;rw[if_pos h,P9]
 have:∀l:List Int,(∀x∈l,1<=x/\x<=4096)->l.map ((fun v:List aY=>(v.length:Int))∘rQ)=l:=by
  intro l
  induction l with
  |nil=>intro _;rfl
  |cons x l ih=>
   intro h;have hx:=h x (by simp)
   rw[jW,ih fun y hy=>h y (by simp[hy])]
   congr 1;simp only[Function.comp,rQ,BO];omega
 exact this sz h3
theorem ag1{sz:List Int}(h:mM sz=0):(zX sz).length<=1000/\∀v∈zX sz,v.length<=1000000:=by
 obtain⟨h1,h2,h3⟩:=PM h;unfold zX;rw[if_pos h];refine⟨by rw[mJ];omega,fun v hv=> ?_⟩
 simp only[mS]at hv;obtain⟨x,hx,rfl⟩:=hv;have:=h3 x hx;simp only[rQ,BO];omega
def HP(sz:List Int)(l:List iC):Int:=if mM sz=0 then qW sz none l else mM sz
theorem ag2(l:List iC)(sz:List Int)(hl:sz.length<=1000000)(hw:∀w∈l,w.2.2.length<=1000000)(hn:l.length<=1000000):PC 189 [.snap (aA bC l),.snap (aA bA sz)] (zV (HP sz l)):=by
 refine aT Tryz.func189 Tryz.ntmps189 (.c _) ?_;have c1:=Jn sz hl;unfold HP;by_cases g:mM sz=0
 ·obtain⟨n1,n2⟩:=ag1 g
  have e:=ag0 g;have c2:=af9 (zX sz) l n1 n2 hw hn (by rw[e];exact g)
  rw[e]at c2;rw[if_pos g];rw[g]at c1;clear n2 hw e;generalize qW sz none l=F at*;generalize zX sz=im at*;refine aD ?_;exact aB
 ·rw[if_neg g]
  clear hw;generalize zX sz=im at*;refine aD ?_;exact aB
theorem ag3(sz:List Int)(w:iC)(h0:mM sz=0)(hw:w.2.2.length<=1000000):PC 288 [.snap (aA bA sz),.agg (bC w)] (zV (qE sz w)):=by
 refine aT Tryz.func288 Tryz.ntmps288 (.c _) ?_;have hg:=gI sz;obtain⟨z1,z2,z3⟩:=PM h0;obtain⟨v,s,l⟩:=w;unfold bC;simp only[]at*;unfold qE;simp only[];by_cases g1:v<0
 ·rw[if_pos (.inl g1)]
  clear z3;refine aD ?_;exact aB
 by_cases g2:(sz.length:Int)<=v
 ·rw[if_pos (.inr g2)]
  clear z3;refine aD ?_;exact aB
 rw[if_neg (by omega)]
 by_cases g3:l.length=0
 ·rw[if_pos g3]
  have g4:(l.length:Int)=0:=by omega
  clear z3;refine aD ?_;exact aB
 rw[if_neg g3];have g4:¬(l.length:Int)=0:=by omega
 obtain⟨n,rfl⟩:=sK (by omega:0<=v)
 have g5:n<sz.length:=by omega
 rw[nC];have Kr:=Ks h0 g5;have ZT:=hg n g5;obtain⟨nF,eZ⟩:=Kr;clear hg z3;generalize sz.getD n 0=V at*;by_cases g6:s<0
 ·rw[if_pos (.inl g6)]
  refine aD ?_;exact aB
 by_cases g7:V<=s
 ·rw[if_pos (by omega)]
  refine aD ?_;exact aB
 have w1:IntKind.i64.wrap (V-s)=V-s:=IntWalk.i64_in _ (by omega)
 by_cases g8:V-s<(l.length:Int)
 ·rw[if_pos (by omega)]
  refine aD ?_;exact aB
 rw[if_neg (by omega)]
 refine aD ?_;exact aB
theorem ag4(sz:List Int)(l:List iC)(hl:sz.length<=1000000)(hw:∀w∈l,w.2.2.length<=1000000)(hn:l.length<=1000000):PC 261 [.snap (aA bC l),.snap (aA bA sz)] (zV (HP sz l)):=by
 refine aT Tryz.func261 Tryz.ntmps261 (.c _) ?_;have c0:=Jl sz hl;unfold HP;by_cases h0:mM sz=0
 case neg=>
  rw[if_neg h0];clear hw;refine aD ?_;exact aB
 rw[if_pos h0];rw[h0]at c0;generalize hF:qW sz none l=F;have hg:=gW l;refine aD ?_;refine dP (α:=Unit) l.length (fun k _=> [(6,true,zV k),(1,true,.snap (aA bA sz)),(0,true,.snap (aA bC l))]) (fun _ _=> []) (fun k m _=>qW sz (C5 l k) (l.drop k)=F/\(0<k->qE sz (l.getD (k-1) j8)=0)) ⟨9,(),⟨hF,fun h=>by omega⟩,aN⟩ (fun k m _ hk hR=> ?_) (fun m _ hR=> ?_)
 ·obtain⟨r1,r2⟩:=hR
  have c1:=ag3 sz (l.getD k j8) h0 (hw _ (dC j8 hk));have cV:=hg k hk;rw[tL j8 hk]at r1;by_cases g1:qE sz (l.getD k j8)=0
  ·have f1:=UU h0 g1
   rw[g1]at c1;cases k with
   |zero=>
    have r3:aU (qW sz (C5 l (0+1)) (l.drop (0+1))=F/\(0<0+1->qE sz (l.getD (0+1-1) j8)=0)):=⟨by
     simp only[qW,C5]at r1;rw[if_pos g1]at r1
     exact r1,fun _=>g1⟩
    clear r1 r2 hF hg hw f1 g1;generalize l.getD 0 j8=w at*;obtain⟨v,s,d⟩:=w;have F8:(aA bC l)[0]? =some [zV v,zV s,.snap (aA aQ d)]:=cV;clear cV;unfold bC at c1;refine aD ?_;exact⟨m+60,(),r3.out,aN⟩
   |succ j=>
    have f2:=UU h0 (r2 (by omega))
    have C6:=hg j (by omega)
    have e1:j+1-1=j:=by omega
    rw[e1]at f2;have e2:((j+1:Nat):Int)-1=(j:Int):=by omega
    have e3:((j:Int)+1)-1=(j:Int):=by omega
    have hz:¬((j+1:Nat):Int)=0:=by omega
    simp only[qW,C5]at r1;rw[if_pos g1]at r1;by_cases g2:HO (l.getD j j8) (l.getD (j+1) j8)=true
    ·rw[if_pos g2]at r1
     rw[<-r1];clear r1 r2 hF hg hw g1;generalize l.getD j j8=x at*;generalize l.getD (j+1) j8=w at*;obtain⟨v,s,d⟩:=w;obtain⟨v2,s2,d2⟩:=x;have F8:(aA bC l)[j+1]? =some [zV v,zV s,.snap (aA aQ d)]:=cV;have ZU:(aA bC l)[j]? =some [zV v2,zV s2,.snap (aA aQ d2)]:=C6;clear cV C6;unfold bC at c1;unfold HO at g2;simp only[]at*;have w1:IntKind.i64.wrap (s2+(d2.length:Int))=s2+d2.length:=IntWalk.i64_in _ (by omega)
     have w2:IntKind.i64.wrap (s2+(d2.length:Int)+1)=s2+d2.length+1:=IntWalk.i64_in _ (by omega)
     simp only[ES,jX,decide_eq_true_eq]at g2;by_cases g3:v<v2
     ·clear g2
      refine aD ?_;exact aB
     ·have g4:v=v2:=by omega
      have g5:s<s2+d2.length+1:=by omega
      subst g4;clear g2;refine aD ?_;exact aB
    ·rw[if_neg g2]at r1
     have r3:aU (qW sz (C5 l (j+1+1)) (l.drop (j+1+1))=F/\(0<j+1+1->qE sz (l.getD (j+1+1-1) j8)=0)):=⟨r1,fun _=>g1⟩
     clear r1 r2 hF hg hw g1;generalize l.getD j j8=x at*;generalize l.getD (j+1) j8=w at*;obtain⟨v,s,d⟩:=w;obtain⟨v2,s2,d2⟩:=x;have F8:(aA bC l)[j+1]? =some [zV v,zV s,.snap (aA aQ d)]:=cV;have ZU:(aA bC l)[j]? =some [zV v2,zV s2,.snap (aA aQ d2)]:=C6;clear cV C6;unfold bC at c1;unfold HO at g2;simp only[]at*;have w1:IntKind.i64.wrap (s2+(d2.length:Int))=s2+d2.length:=IntWalk.i64_in _ (by omega)
     have w2:IntKind.i64.wrap (s2+(d2.length:Int)+1)=s2+d2.length+1:=IntWalk.i64_in _ (by omega)
     simp only[ES,jX,decide_eq_true_eq]at g2;have g3:¬v<v2:=by omega
     by_cases g4:v=v2
     ·have g5:¬s<s2+d2.length+1:=by omega
      subst g4;clear g2;refine aD ?_;exact⟨m+60,(),r3.out,aN⟩
     ·clear g2
      refine aD ?_;exact⟨m+60,(),r3.out,aN⟩
  ·simp only[qW]at r1
   rw[if_neg g1]at r1;rw[<-r1];clear r1 r2 hF hg hw;generalize qE sz (l.getD k j8)=e at*;generalize l.getD k j8=w at*;obtain⟨v,s,d⟩:=w;have F8:(aA bC l)[k]? =some [zV v,zV s,.snap (aA aQ d)]:=cV;clear cV;unfold bC at c1;refine aD ?_;exact aB
 ·have r1:=hR.1
  rw[wZ]at r1;rw[<-r1];clear r1 hR hF;refine aD ?_;exact aB
structure oO where
 base:Int
 number:Int
 time:Int
 pos:List Int
 writes:List iC
def gT(c:oO):List AV:=[zV c.base,zV c.number,zV c.time,.snap (aA bA c.pos),.snap (aA bC c.writes)]
def xE(c:oO)(sz:List Int):Int:=
 if mM sz=0 then
  if c.base<0\/c.number<=c.base\/1073741824<c.number then 2
  else if c.time<0\/1073741824<c.time then 24
  else if LB c.pos=0 then HP sz c.writes else LB c.pos
 else mM sz
def LC(c:oO):Prop:=c.pos.length<=1000000/\c.writes.length<=1000000/\∀w∈c.writes,w.2.2.length<=1000000
theorem Kt(c:oO)(sz:List Int)(hl:sz.length<=1000000)(hc:LC c):PC 137 [.agg (gT c),.snap (aA bA sz)] (zV (xE c sz)):=by
 refine aT Tryz.func137 Tryz.ntmps137 (.c _) ?_;obtain⟨h1,h2,h3⟩:=hc;have c1:=Jn sz hl;have c2:=ZQ c.time 0 1073741824;have c3:=af0 c.pos h1;have c4:=ag2 c.writes sz hl h3 h2;unfold xE;clear h3;obtain⟨b,n,t,p,w⟩:=c;unfold gT;unfold F7 at c2;simp only[]at*;generalize zX sz=im at*;generalize HP sz w=cw at*;generalize LB p=pe at*;generalize mM sz=se at*;by_cases g1:se=0
 ·rw[if_pos g1]
  subst g1;by_cases g2:b<0
  ·rw[if_pos (.inl g2)]
   refine aD ?_;exact aB
  by_cases g3:n<=b
  ·rw[if_pos (.inr (.inl g3))]
   refine aD ?_;exact aB
  by_cases g4:1073741824<n
  ·rw[if_pos (.inr (.inr g4))]
   refine aD ?_;exact aB
  rw[if_neg (by omega)]
  by_cases g5:t<0
  ·rw[if_pos (.inl g5)]
   rw[yR (by omega)]at c2
   simp only[TW]at c2;refine aD ?_;exact aB
  by_cases g6:1073741824<t
  ·rw[if_pos (.inr g6)]
   rw[rP (by omega),yR (by omega)]at c2
   simp only[It]at c2;refine aD ?_;exact aB
  rw[if_neg (by omega)]
  rw[rP (by omega),rP (by omega)]at c2
  simp only[Iu]at c2;by_cases g7:pe=0
  ·rw[if_pos g7]
   subst g7;refine aD ?_;exact aB
  ·rw[if_neg g7]
   refine aD ?_;exact aB
 ·rw[if_neg g1]
  refine aD ?_;exact aB
theorem ag5(c:oO)(sz:List Int)(hl:sz.length<=1000000)(hc:LC c):PC 223 [.agg (gT c),.snap (aA bA sz)] (zV (xE c sz)):=by
 refine aT Tryz.func223 Tryz.ntmps223 (.c _) ?_;obtain⟨h1,h2,h3⟩:=hc;have c1:=Jl sz hl;have c3:=af1 c.pos h1;have c4:=ag4 sz c.writes hl h3 h2;unfold xE LB;clear h3;obtain⟨b,n,t,p,w⟩:=c;unfold gT;simp only[]at*;generalize HP sz w=cw at*;generalize mM sz=se at*;by_cases g1:se=0
 ·rw[if_pos g1]
  subst g1;by_cases g2:b<0
  ·rw[if_pos (.inl g2)]
   refine aD ?_;exact aB
  by_cases g3:n<=b
  ·rw[if_pos (.inr (.inl g3))]
   refine aD ?_;exact aB
  by_cases g4:1073741824<n
  ·rw[if_pos (.inr (.inr g4))]
   refine aD ?_;exact aB
  rw[if_neg (by omega)]
  by_cases g5:t<0
  ·rw[if_pos (.inl g5)]
   refine aD ?_;exact aB
  by_cases g6:1073741824<t
  ·rw[if_pos (.inr g6)]
   refine aD ?_;exact aB
  rw[if_neg (by omega)]
  by_cases g7:8<p.length
  ·have g8:(8:Int)<p.length:=by omega
   rw[if_pos g7,if_neg (by decide)]
   refine aD ?_;exact aB
  have g8:¬(8:Int)<p.length:=by omega
  rw[if_neg g7];cases h:p.any qD with
  |true=>
   rw[h,if_pos rfl]at c3;rw[if_pos rfl,if_neg (by decide)]
   refine aD ?_;exact aB
  |false=>
   rw[h,if_neg (by decide)]at c3
   rw[if_pos (by decide)]
   refine aD ?_;exact aB
 ·rw[if_neg g1]
  refine aD ?_;exact aB
theorem ag6{a b c d:List (List AV)}(h:xD a b)(k:xD c d):xD (a++c) (b++d):=by
 refine⟨by simp[h.1,k.1],fun i x y hx hy=> ?_⟩
 by_cases hi:i<a.length
 ·rw[lT hi]at hx
  rw[lT (by rw[<-h.1];exact hi)]at hy
  exact h.2 i x y hx hy
 ·rw[lD (by omega)]at hx
  rw[lD (by rw[<-h.1];omega),<-h.1]at hy
  exact k.2 _ x y hx hy
theorem ZV(L:List (Int×Int×List aY)):xD (aA bC L++[[zV 1,zV 0,.c (.slice none 0 0)]]) (aA bC (L++[(1,0,[])])):=by
 rw[show aA bC (L++[(1,0,[])])=aA bC L++[[zV 1,zV 0,.snap []]]from(nR L (1,0,[])).symm]
 exact ag6 (PT _) (vV (iO (.refl _) (iO (.refl _) (iO .nil sP))) yS)
def UW(d:fJ):Prop:=(∀s∈d.st,eR s)/\∀c∈d.ca,eR c.2
theorem Ku:∀(ca:List (Int×aY)) (st:List aY),(∀s∈st,eR s)->(∀c∈ca,eR c.2)->∀s∈iK st ca,eR s
 |[],st,h,_,s,hs=>h s hs
 |c::ca,st,h,h2,s,hs=>Ku ca (st.set c.1.toNat c.2) (fun x hx=>by
   rcases TX hx with hx|rfl
   ·exact h x hx
   ·exact h2 c (by simp)) (fun x hx=>h2 x (by simp[hx])) s hs
theorem UW.new{d:fJ}(h:UW d):∀s∈iK d.st d.ca,eR s:=Ku _ _ h.1 h.2
theorem ag7(n:Nat):∀x∈vg n,aV x:=by
 induction n using Nat.strongRecOn with
 |ind n ih=>
  intro x hx;by_cases h:n<128
  ·rw[L5 h]at hx
   simp only[fB,mR,or_false]at hx;subst hx;exact⟨by omega,by omega⟩
  ·rw[PN h]at hx
   simp only[fB]at hx;rcases hx with rfl|hx
   ·exact⟨by omega,by omega⟩
   ·exact ih _ (by omega) x hx
end Go.Proofs.YtioafciifiggaaaGreatDoor
namespace Go.Proofs.YtioafciifiggaaaGreatDoor
open Go.Proofs Go.AL Go.RowKit Go.Maps Go.Sort Go.Shelf
shelf_lay_g SlLaysZI.n7 Ggz 7 at Tryz 134 as Tryz.bE8
shelf_lay_g SlLaysZI.n6 Ggz 6 at Tryz 133 as Tryz.bE9
shelf_lay_g SlLaysM.n5 Slgm 5 at Tryz 184 as Tryz.bF0
end Go.Proofs.YtioafciifiggaaaGreatDoor
namespace Go.Proofs.YtioafciifiggaaaGreatDoor
open Go.Proofs Go.AL
set_option maxRecDepth 100000
set_option maxHeartbeats 1000000
attribute [local irreducible] cB AW aX cZ dK hold
theorem qX{σ:AS}{env:List (Nat×Bool×AV)}{N:Nat}{G:Nat->Option aI}{T:List (Nat×Option aI)}(w:Holds σ env ⟨N,iU G T⟩:=by
  ((repeat (refine rV (by first|rfl|(simp(disch:=omega) only[go_sem, *];done)|(simp(disch:=omega) only[go_sem, *];rfl)) ?_));(refine holds_nil (by simp only[];omega) ?_);(refine PZ (by assumption) ?_ ?_);(next=>((repeat (first|refine UX (by first|rfl|(simp(disch:=omega) only[go_sem, *];done)|(simp(disch:=omega) only[go_sem, *];rfl)) ?_|refine Q1 ?_));exact HQ));(next=>(simp only[uJ,DC,or_false,false_or,or_true,true_or,and_true,true_and,cA]<;>omega)))):Holds σ env ⟨N,iU G T⟩:=w
abbrev UY:AV:= .c (.slice none 0 0)
abbrev uK(e:Int):Value:= .iface 362 (.agg #[.int .i64 e])
abbrev XC(n:FuncId)(args:List AV)(x:Value):Prop:=F9 Tryz.prog n args x
theorem ZW(e:Int):PC 205 [bV true,zV e] (.aR []):=by
 refine aT Tryz.func205 Tryz.ntmps205 (.aR _ (by simp)) ?_
 refine aD ?_;exact aB
theorem ZX(e:Int):XC 205 [bV false,zV e] (uK e):=by
 refine ZY Tryz.func205 Tryz.ntmps205 ?_;have s1:oP 1 3 (uK e):=⟨⟩;refine pS ?_;rfl
theorem ag8:PC 206 [zV 0] (.aR []):=by
 refine aT Tryz.func206 Tryz.ntmps206 (.aR _ (by simp)) ?_
 have c1:=ZW 0;refine aD ?_;exact aB
theorem LD(e:Int)(he:¬e=0):XC 206 [zV e] (uK e):=by
 refine ZY Tryz.func206 Tryz.ntmps206 ?_;have g:(e==0)=false:=by simp[he]
 have c1:=ZX e;have s1:oP 0 3 (uK e):=⟨⟩;clear he;refine pS ?_;rfl
theorem ag9(e:Int):PC 204 [.c (uK e)] (zV e):=by
 refine aT Tryz.func204 Tryz.ntmps204 (.c _) ?_;refine aD ?_;exact aB
theorem ah0(i j N:Nat)(G:Nat->Option aI):o0 Tryz.prog 203 [.ptr i 0 0,.ptr j 0 0] ⟨N,G⟩ none (fun H'=>H'=⟨N,G⟩):=by
 refine UZ Tryz.func203 Tryz.ntmps203 ?_;refine aD ?_;exact⟨.inl rfl,⟨_,rfl⟩,rfl⟩
theorem ah1(e:Int)(N:Nat)(G:Nat->Option aI)(x0 x1 x2 x3 x4 a:AV):
  o0 Tryz.prog 203 [.ptr 0 0 0,.ptr 1 0 0] ⟨N,iU G [(0,some (.cells 79 5 [[x0,x1,x2,x3,x4]] true false)),(1,some (.cells 38 1 [[a]] true false))]⟩ (some (uK e))
   (fun H'=>H'=⟨N+1+1,iU G [(0,some (.cells 79 5 [[zV 0,zV 0,zV 0,.c (.slice none 0 0),.c (.slice none 0 0)]] true false)),(1,some (.cells 38 1 [[zV e]] true false))]⟩):=by
 refine UZ Tryz.func203 Tryz.ntmps203 ?_;have c1:=ag9 e;refine aD ?_;exact⟨.inl rfl,⟨_,rfl⟩,rfl⟩
def sQ(n:Int):Int:=if n<0\/4096<n then 0 else(n+10)/4
theorem Kv(n:Int):PC 119 [zV n] (zV (sQ n)):=by
 refine aT Tryz.func119 Tryz.ntmps119 (.c _) ?_;unfold sQ;by_cases g1:n<0
 ·rw[if_pos (.inl g1)]
  refine aD ?_;exact aB
 ·by_cases g2:4096<n
  ·rw[if_pos (.inr g2)]
   refine aD ?_;exact aB
  ·rw[if_neg (by omega)]
   have h1:(7+n+3).tdiv 4=(n+10)/4:=by rw[bv5 (by omega)];congr 1;omega
   refine aD ?_;exact aB
theorem Q3(n:Int):PC 112 [zV n] (zV (sQ n)):=by
 refine aT Tryz.func112 Tryz.ntmps112 (.c _) ?_;unfold sQ;by_cases g1:n<0
 ·rw[if_pos (.inl g1)]
  refine aD ?_;exact aB
 ·by_cases g2:4096<n
  ·rw[if_pos (.inr g2)]
   refine aD ?_;exact aB
  ·rw[if_neg (by omega)]
   have h1:(3+n+4+4-1).tdiv 4=(n+10)/4:=by rw[bv5 (by omega)];congr 1;omega
   refine aD ?_;exact aB
def lV(a b:Int):Bool:=decide (0<=a)&&decide (20<=b)&&decide (a<=4096)&&decide (b<=4096-a)
theorem Kw(a b:Int):PC 105 [.agg [zV a,zV b]] (bV (lV a b)):=by
 refine aT Tryz.func105 Tryz.ntmps105 (.c _) ?_;unfold lV;by_cases g1:0<=a
 ·by_cases g2:20<=b
  ·by_cases g3:b<=4096
   ·have h1:decide (a<=4096)=true\/decide (b<=4096-a)=false:=by
     by_cases h:a<=4096
     ·exact .inl (by simp[h])
     ·exact .inr (by simp;omega)
    by_cases g4:a<=4096-b
    ·have h2:a<=4096:=by omega
     have h3:b<=4096-a:=by omega
     refine aD ?_;exact aB
    ·have h3:¬b<=4096-a:=by omega
     have h4:(decide (0<=a)&&decide (20<=b)&&decide (a<=4096)&&decide (b<=4096-a))=false:=by simp[h3]
     rw[h4];clear h1 h3 h4;refine aD ?_;exact aB
   ·have h3:(decide (0<=a)&&decide (20<=b)&&decide (a<=4096)&&decide (b<=4096-a))=false:=by simp;omega
    rw[h3];clear h3;refine aD ?_;exact aB
  ·refine aD ?_
   exact aB
 ·refine aD ?_
  exact aB
theorem ZZ(a b:Int):PC 102 [.agg [zV a,zV b]] (bV (lV a b)):=by
 refine aT Tryz.func102 Tryz.ntmps102 (.c _) ?_;unfold lV;by_cases g1:0<=a
 ·by_cases g2:20<=b
  ·by_cases g3:a<=4096
   ·by_cases g4:b<=4096-a
    ·refine aD ?_
     exact aB
    ·refine aD ?_
     exact aB
   ·refine aD ?_
    exact aB
  ·refine aD ?_
   exact aB
 ·refine aD ?_
  exact aB
theorem ah2(a b:Int)(h1:20<=b)(h2:b<=4096):PC 87 [.agg [zV a,zV b]] (zV (b-16)):=by
 refine aT Tryz.func87 Tryz.ntmps87 (.c _) ?_;refine aD ?_;exact aB
theorem ah3(l:List Int)(hl:l.length<=1000000):PC 97 [.snap (aA bA l)] (zV (HK l)):=by
 refine aT Tryz.func97 Tryz.ntmps97 (.c _) ?_;refine aD ?_;have hg:=gI l;refine tM l.length 0 [] (fun k=> [(4,true,zV k),(0,true,.snap (aA bA l)),(3,true,zV (HK (l.take k)))]) aN (fun k m hk hm=> ?_) (fun m hm=> ?_)
 ·have h1:=Zp hk
  refine aD ?_;exact⟨m,hm,aN⟩
 ·refine aD ?_
  exact aB
theorem Kx:∀(l:List Int) (s:Int),0<=s->(∀x∈l,0<=x/\x<=5000)->s+5000*l.length<=9223372036854775807->l.foldl (fun s x=>IntKind.i64.wrap (s+x)) s=s+l.sum
 |[],s,_,_,_=>by simp
 |x::l,s,h0,hx,hs=>by
  have h1:=hx x (by simp)
  have h2:IntKind.i64.wrap (s+x)=s+x:=Go.IntWalk.i64_in _ ⟨by omega,by simp only[eI]at hs;push_cast at hs;omega⟩
  rw[HC,h2,Kx l (s+x) (by omega) (fun y hy=>hx y (by simp[hy])) (by simp only[eI]at hs;push_cast at hs;omega),u9]
  omega
end Go.Proofs.YtioafciifiggaaaGreatDoor
