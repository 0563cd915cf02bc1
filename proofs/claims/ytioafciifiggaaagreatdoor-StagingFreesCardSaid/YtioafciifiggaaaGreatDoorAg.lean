/- Staging. No condition. -/
import Derived.Test.YtioafciifiggaaaGreatDoorL0
import Derived.Test.YtioafciifiggaaaGreatDoorAf
import Derived.Test.YtioafciifiggaaaGreatDoorAd
import Derived.Test.YtioafciifiggaaaGreatDoorLe
import Derived.Shelf.SlIterI.Nil
import Derived.Shelf.SortM.Plain
import Derived.Shelf.SortM.SortNone
import Derived.Ground.GgzProg
import Derived.Ground.SlgmProg
set_option linter.all false
namespace Go.Proofs.YtioafciifiggaaaGreatDoor
open Go.Proofs Go.AL
set_option maxRecDepth 100000
set_option maxHeartbeats 1000000
attribute [local irreducible] cH AW b9 dR eH hold
abbrev eW:=Int×Int×List aH
def qT:eW:=(0,0,[])
theorem gW(l:List eW)(k:Nat)(h:k<l.length):(aA bJ l)[k]? =some (bJ (l.getD k qT)):=pD qT h
theorem aR3{sz:List Int}(h:pX sz=0){v:Nat}(hv:v<sz.length):1<=sz.getD v 0/\sz.getD v 0<=4096:=by
 obtain⟨h1,h2,h3⟩:=ZD h;exact h3 _ (cQ 0 hv)
theorem Hl{sz:List Int}{w:eW}(h:pX sz=0)(hf:xK sz w=0):0<=w.1/\w.1.toNat<sz.length/\1<=w.2.2.length/\0<=w.2.1/\w.2.1+w.2.2.length<=sz.getD w.1.toNat 0/\w.2.1+w.2.2.length<=4096:=by
 unfold xK at hf;by_cases g1:w.1<0\/(sz.length:Int)<=w.1
 ·rw[if_pos g1]at hf;exact absurd hf (by decide)
 rw[if_neg g1]at hf;by_cases g2:w.2.2.length=0
 ·rw[if_pos g2]at hf;exact absurd hf (by decide)
 rw[if_neg g2]at hf;by_cases g3:w.2.1<0\/sz.getD w.1.toNat 0-w.2.2.length<w.2.1
 ·rw[if_pos g3]at hf;exact absurd hf (by decide)
 have g4:w.1.toNat<sz.length:=by omega
 have:=aR3 h g4;exact⟨by omega,g4,by omega,by omega,by omega,by omega⟩
def ZM(x w:eW):Bool:=decide (w.1<x.1)||(decide (w.1=x.1)&&decide (w.2.1<=x.2.1+x.2.2.length))
def wK(sz:List Int):Option eW->List eW->Int
 |_,[]=>0
 |p,w::r=>if xK sz w=0 then(match p with|none=>wK sz (some w) r|some x=>if ZM x w=true then 3 else wK sz (some w) r)else xK sz w
def UH(l:List eW):Nat->Option eW
 |0=>none
 |k+1=>some (l.getD k qT)
theorem aR4(im:List (List aH))(w:eW)(hl:im.length<=1000)(hv:∀v∈im,v.length<=1000000)(hw:w.2.2.length<=1000000)(h0:pX (oG im)=0):PC 234 [.agg (bJ w),.dD [[.snap (aA tM im)]] 0 0] (zV (xK (oG im) w)):=by
 refine bI Tryz.func234 Tryz.ntmps234 (.c _) ?_;have c1:=aR2 im w hl hv hw;rw[if_pos h0]at c1;unfold bJ at*;refine aG ?_;exact aC
theorem aR5(im:List (List aH))(l:List eW)(hl:im.length<=1000)(hv:∀v∈im,v.length<=1000000)(hw:∀w∈l,w.2.2.length<=1000000)(hn:l.length<=1000000)(h0:pX (oG im)=0):PC 233 [.snap (aA bJ l),.fn (.func 234) [] [.dD [[.snap (aA tM im)]] 0 0]] (zV (wK (oG im) none l)):=by
 refine bI Tryz.func233 Tryz.ntmps233 (.c _) ?_;generalize hF:wK (oG im) none l=F;have hg:=gW l;refine aG ?_;refine fK (α:=Unit) l.length (fun k _=> [(11,true,zV k),(10,true,zV l.length),(9,true,.snap (aA bJ l)),(1,true,.fn (.func 234) [] [.dD [[.snap (aA tM im)]] 0 0]),(0,true,.snap (aA bJ l))]) (fun _ _=> []) (fun k m _=>wK (oG im) (UH l k) (l.drop k)=F/\(0<k->xK (oG im) (l.getD (k-1) qT)=0)) ⟨9,(),⟨hF,fun h=>by omega⟩,aT⟩ (fun k m _ hk hR=> ?_) (fun m _ hR=> ?_)
 ·obtain⟨r1,r2⟩:=hR
  have c1:=aR4 im (l.getD k qT) hl hv (hw _ (cQ qT hk)) h0;have fD:=hg k hk;rw[uL qT hk]at r1;by_cases g1:xK (oG im) (l.getD k qT)=0
  ·have f1:=Hl h0 g1
   rw[g1]at c1;cases k with
   |zero=>
    have r3:bB (wK (oG im) (UH l (0+1)) (l.drop (0+1))=F/\(0<0+1->xK (oG im) (l.getD (0+1-1) qT)=0)):=⟨by
     simp only[wK,UH]at r1;rw[if_pos g1]at r1
     exact r1,fun _=>g1⟩
    clear r1 r2 hF hg hw f1 g1;generalize l.getD 0 qT=w at*;obtain⟨v,s,d⟩:=w;have ZK:(aA bJ l)[0]? =some [zV v,zV s,.snap (aA aS d)]:=fD;clear fD;unfold bJ at c1;refine aG ?_;exact⟨m+30,(),r3.out,aT⟩
   |succ j=>
    have f2:=Hl h0 (r2 (by omega))
    have UI:=hg j (by omega)
    have e1:j+1-1=j:=by omega
    rw[e1]at f2;have e2:((j+1:Nat):Int)-1=(j:Int):=by omega
    have e3:((j:Int)+1)-1=(j:Int):=by omega
    have hz:¬((j+1:Nat):Int)=0:=by omega
    simp only[wK,UH]at r1;rw[if_pos g1]at r1;by_cases g2:ZM (l.getD j qT) (l.getD (j+1) qT)=true
    ·rw[if_pos g2]at r1
     rw[<-r1];clear r1 r2 hF hg hw g1;generalize l.getD j qT=x at*;generalize l.getD (j+1) qT=w at*;obtain⟨v,s,d⟩:=w;obtain⟨v2,s2,d2⟩:=x;have ZK:(aA bJ l)[j+1]? =some [zV v,zV s,.snap (aA aS d)]:=fD;have aR6:(aA bJ l)[j]? =some [zV v2,zV s2,.snap (aA aS d2)]:=UI;clear fD UI;unfold bJ at c1;unfold ZM at g2;simp only[]at*;have w1:IntKind.i64.wrap (s2+(d2.length:Int))=s2+d2.length:=IntWalk.i64_in _ (by omega)
     simp only[KA,k6,decide_eq_true_eq]at g2;by_cases g3:v<v2
     ·clear g2
      refine aG ?_;exact aC
     ·have g4:v=v2:=by omega
      have g5:s<=s2+d2.length:=by omega
      subst g4;clear g2;refine aG ?_;exact aC
    ·rw[if_neg g2]at r1
     have r3:bB (wK (oG im) (UH l (j+1+1)) (l.drop (j+1+1))=F/\(0<j+1+1->xK (oG im) (l.getD (j+1+1-1) qT)=0)):=⟨r1,fun _=>g1⟩
     clear r1 r2 hF hg hw g1;generalize l.getD j qT=x at*;generalize l.getD (j+1) qT=w at*;obtain⟨v,s,d⟩:=w;obtain⟨v2,s2,d2⟩:=x;have ZK:(aA bJ l)[j+1]? =some [zV v,zV s,.snap (aA aS d)]:=fD;have aR6:(aA bJ l)[j]? =some [zV v2,zV s2,.snap (aA aS d2)]:=UI;clear fD UI;unfold bJ at c1;unfold ZM at g2;simp only[]at*;have w1:IntKind.i64.wrap (s2+(d2.length:Int))=s2+d2.length:=IntWalk.i64_in _ (by omega)
     simp only[KA,k6,decide_eq_true_eq]at g2;have g3:¬v<v2:=by omega
     by_cases g4:v=v2
     ·have g5:¬s<=s2+d2.length:=by omega
      subst g4;clear g2;refine aG ?_;exact⟨m+30,(),r3.out,aT⟩
     ·clear g2
      refine aG ?_;exact⟨m+30,(),r3.out,aT⟩
  ·simp only[wK]at r1
   rw[if_neg g1]at r1;rw[<-r1];clear r1 r2 hF hg hw;generalize xK (oG im) (l.getD k qT)=e at*;generalize l.getD k qT=w at*;obtain⟨v,s,d⟩:=w;have ZK:(aA bJ l)[k]? =some [zV v,zV s,.snap (aA aS d)]:=fD;clear fD;unfold bJ at c1;refine aG ?_;exact aC
 ·have r1:=hR.1
  rw[BB]at r1;rw[<-r1];clear r1 hR hF;refine aG ?_;exact aC
theorem aR7{sz:List Int}(h:pX sz=0):oG (CU sz)=sz:=by
 obtain⟨h1,h2,h3⟩:=ZD h;unfold oG CU;rw[if_pos h,I1]
 have:∀l:List Int,(∀x∈l,1<=x/\x<=4096)->l.map ((fun v:List aH=>(v.length:Int))∘qR)=l:=by
  intro l
  induction l with
  |nil=>intro _;rfl
  |cons x l ih=>
   intro h;have hx:=h x (by simp)
   rw[gJ,ih fun y hy=>h y (by simp[hy])]
   congr 1;simp only[Function.comp,qR,s6];omega
 exact this sz h3
theorem aR8{sz:List Int}(h:pX sz=0):(CU sz).length<=1000/\∀v∈CU sz,v.length<=1000000:=by
 obtain⟨h1,h2,h3⟩:=ZD h;unfold CU;rw[if_pos h];refine⟨by rw[l4];omega,fun v hv=> ?_⟩
 simp only[kV]at hv;obtain⟨x,hx,rfl⟩:=hv;have:=h3 x hx;simp only[qR,s6];omega
def UJ(sz:List Int)(l:List eW):Int:=if pX sz=0 then wK sz none l else pX sz
theorem aR9(l:List eW)(sz:List Int)(hl:sz.length<=1000000)(hw:∀w∈l,w.2.2.length<=1000000)(hn:l.length<=1000000):PC 189 [.snap (aA bJ l),.snap (aA bD sz)] (zV (UJ sz l)):=by
 refine bI Tryz.func189 Tryz.ntmps189 (.c _) ?_;have c1:=Ui sz hl;unfold UJ;by_cases g:pX sz=0
 ·obtain⟨n1,n2⟩:=aR8 g
  have e:=aR7 g;have c2:=aR5 (CU sz) l n1 n2 hw hn (by rw[e];exact g)
  rw[e]at c2;rw[if_pos g];rw[g]at c1;clear n2 hw e;generalize wK sz none l=F at*;generalize CU sz=im at*;refine aG ?_;exact aC
 ·rw[if_neg g]
  clear hw;generalize CU sz=im at*;refine aG ?_;exact aC
structure jJ where
 base:Int
 number:Int
 time:Int
 pos:List Int
 writes:List eW
def mI(c:jJ):List AV:=[zV c.base,zV c.number,zV c.time,.snap (aA bD c.pos),.snap (aA bJ c.writes)]
def zX(c:jJ)(sz:List Int):Int:=
 if pX sz=0 then
  if c.base<0\/c.number<=c.base\/1073741824<c.number then 2
  else if c.time<0\/1073741824<c.time then 24
  else if OQ c.pos=0 then UJ sz c.writes else OQ c.pos
 else pX sz
def OR(c:jJ):Prop:=c.pos.length<=1000000/\c.writes.length<=1000000/\∀w∈c.writes,w.2.2.length<=1000000
theorem Vl(c:jJ)(sz:List Int)(hl:sz.length<=1000000)(hc:OR c):PC 137 [.agg (mI c),.snap (aA bD sz)] (zV (zX c sz)):=by
 refine bI Tryz.func137 Tryz.ntmps137 (.c _) ?_;obtain⟨h1,h2,h3⟩:=hc;have c1:=Ui sz hl;have c2:=Hh c.time 0 1073741824;have c3:=aQ5 c.pos h1;have c4:=aR9 c.writes sz hl h3 h2;unfold zX;clear h3;obtain⟨b,n,t,p,w⟩:=c;unfold mI;unfold OP at c2;simp only[]at*;generalize CU sz=im at*;generalize UJ sz w=cw at*;generalize OQ p=pe at*;generalize pX sz=se at*;by_cases g1:se=0
 ·rw[if_pos g1]
  subst g1;by_cases g2:b<0
  ·rw[if_pos (.inl g2)]
   refine aG ?_;exact aC
  by_cases g3:n<=b
  ·rw[if_pos (.inr (.inl g3))]
   refine aG ?_;exact aC
  by_cases g4:1073741824<n
  ·rw[if_pos (.inr (.inr g4))]
   refine aG ?_;exact aC
  rw[if_neg (by omega)]
  by_cases g5:t<0
  ·rw[if_pos (.inl g5)]
   rw[CT (by omega)]at c2
   simp only[O3]at c2;refine aG ?_;exact aC
  by_cases g6:1073741824<t
  ·rw[if_pos (.inr g6)]
   rw[xG (by omega),CT (by omega)]at c2
   simp only[Ti]at c2;refine aG ?_;exact aC
  rw[if_neg (by omega)]
  rw[xG (by omega),xG (by omega)]at c2
  simp only[Tj]at c2;by_cases g7:pe=0
  ·rw[if_pos g7]
   subst g7;refine aG ?_;exact aC
  ·rw[if_neg g7]
   refine aG ?_;exact aC
 ·rw[if_neg g1]
  refine aG ?_;exact aC
theorem aS5{a b c d:List (List AV)}(h:xJ a b)(k:xJ c d):xJ (a++c) (b++d):=by
 refine⟨by simp[h.1,k.1],fun i x y hx hy=> ?_⟩
 by_cases hi:i<a.length
 ·rw[kG hi]at hx
  rw[kG (by rw[<-h.1];exact hi)]at hy
  exact h.2 i x y hx hy
 ·rw[k7 (by omega)]at hx
  rw[k7 (by rw[<-h.1];omega),<-h.1]at hy
  exact k.2 _ x y hx hy
theorem Vm(L:List (Int×Int×List aH)):xJ (aA bJ L++[[zV 1,zV 0,.c (.slice none 0 0)]]) (aA bJ (L++[(1,0,[])])):=by
 rw[show aA bJ (L++[(1,0,[])])=aA bJ L++[[zV 1,zV 0,.snap []]]from(sP L (1,0,[])).symm]
 exact aS5 (TY _) (yN (jH (.refl _) (jH (.refl _) (jH .nil sD))) CY)
def BM(d:bL):Prop:=(∀s∈d.st,dC s)/\∀c∈d.ca,dC c.2
def BN(l:List nH):Prop:=∀o∈l,∀s∈o.2.2,dC s
theorem Vn:∀(ca:List (Int×aH)) (st:List aH),(∀s∈st,dC s)->(∀c∈ca,dC c.2)->∀s∈fA st ca,dC s
 |[],st,h,_,s,hs=>h s hs
 |c::ca,st,h,h2,s,hs=>Vn ca (st.set c.1.toNat c.2) (fun x hx=>by
   rcases O4 hx with hx|rfl
   ·exact h x hx
   ·exact h2 c (by simp)) (fun x hx=>h2 x (by simp[hx])) s hs
theorem BM.new{d:bL}(h:BM d):∀s∈fA d.st d.ca,dC s:=Vn _ _ h.1 h.2
theorem Vo:dC aE:=by
 refine⟨⟨⟨by decide,by decide⟩,⟨by decide,by decide⟩,⟨by decide,by decide⟩,⟨by decide,by decide⟩⟩,fun x hx=> ?_⟩
 simp only[d4,aE,cG,jF,or_false]at hx;rcases hx with rfl|rfl|rfl|rfl<;>exact⟨by decide,by decide⟩
theorem Vp:∀(a:Int) (l:List aH),(∀s∈l,dC s)->∀c∈fE a l,dC c.2
 |_,[],_,c,hc=>by simp[fE]at hc
 |a,s::l,h,c,hc=>by
  simp only[fE,cG]at hc;rcases hc with rfl|hc
  ·exact h s (by simp)
  ·exact Vp (a+1) l (fun x hx=>h x (by simp[hx])) c hc
theorem Hm:∀(ops:List nH) (d:bL) (i:Nat),BM d->BN ops->BM (oF ops d i).1/\(oF ops d i).1.st.length<=d.st.length/\(dM d=0->(oF ops d i).1.ca.length<=d.ca.length+ops.length*4096)
 |[],d,i,h,_=>⟨h,cE _,fun _=>by simp[oF]⟩
 |o::r,d,i,h,ho=>by
  have h0:BM nG:=⟨fun s hs=>by simp[nG]at hs,fun s hs=>by simp[nG]at hs⟩
  have hr:BN r:=fun x hx=>ho x (by simp[hx])
  have e0:nG.st.length<=d.st.length:=iG _;have e1:dM d=0->nG.ca.length<=d.ca.length+(o::r).length*4096:=fun _=>iG _
  simp only[oF];split
  ·split
   ·rename_i h1 h2
    by_cases h3:dM d=0
    ·unfold GD at h2⊢
     rw[if_pos h3]at h2⊢;cases h4:l5 d o.2.1 o.2.2.length with
     |false=>rw[h4,if_neg (by decide)]at h2;exact absurd h2 (by decide)
     |true=>
      rw[if_pos rfl];obtain⟨q1,q2⟩:=EI h3;obtain⟨q3,q4⟩:=UB h4;have h5:=ZJ h3 h4
      have ih:=Hm r ⟨d.st,d.ca++fE o.2.1 o.2.2⟩ (i+1) ⟨h.1,fun c hc=>by
       rcases lS.1 hc with hc|hc
       ·exact h.2 c hc
       ·exact Vp _ _ (ho o (by simp)) c hc⟩ hr
      refine⟨ih.1,ih.2.1,fun _=> ?_⟩
      have:=ih.2.2 h5;simp only[bP,GC,dK]at this⊢;omega
    ·unfold GD at h2
     rw[if_neg h3]at h2;exact absurd h2 h3
   ·exact⟨h0,e0,e1⟩
  ·split
   ·have ih:=Hm r ⟨fA d.st d.ca,[]⟩ (i+1) ⟨h.new,fun c hc=>by simp at hc⟩ hr
    refine⟨ih.1,by have:=ih.2.1;rw[wJ]at this;exact this,fun h3=> ?_⟩
    have:=ih.2.2 (IE (EI h3).1 (wJ _ _));simp only[fJ,dK]at this⊢;omega
   ·exact⟨h0,e0,e1⟩
theorem Vq{d:bL}{ops:List nH}(h:BM d)(ho:BN ops):BM (oN d ops).1/\(oN d ops).1.st.length<=d.st.length/\(oN d ops).1.ca.length<=d.ca.length+ops.length*4096:=by
 unfold oN;split
 ·rename_i h1
  have:=Hm ops d 0 h ho;exact⟨this.1,this.2.1,this.2.2 h1⟩
 ·exact⟨⟨fun s hs=>by simp[nG]at hs,fun s hs=>by simp[nG]at hs⟩,iG _,iG _⟩
theorem aS6(n:Nat):∀x∈vg n,aV x:=by
 induction n using Nat.strongRecOn with
 |ind n ih=>
  intro x hx;by_cases h:n<128
  ·rw[OF h]at hx
   simp only[cG,jF,or_false]at hx;subst hx;exact⟨by omega,by omega⟩
  ·rw[TS h]at hx
   simp only[cG]at hx;rcases hx with rfl|hx
   ·exact⟨by omega,by omega⟩
   ·exact ih _ (by omega) x hx
theorem ZN(n:Int)(i:Nat):aV (gb n i):=by
 unfold gb;rw[IntKind.wrap_u8];exact⟨by omega,by omega⟩
theorem aS7{p:List Int}(hp:∀x∈p,aV x)(hl:p.length<=31):∀x∈tN p,aV x:=by
 intro x hx;unfold tN at hx;simp only[cG,lS,I2]at hx;rcases hx with rfl|hx|⟨_,rfl⟩
 ·exact⟨by omega,by omega⟩
 ·exact hp x hx
 ·exact⟨by decide,by decide⟩
theorem aS8{l:List Int}(h:∀x∈l,aV x)(i:Nat):aV (l.getD i 0):=by
 by_cases hi:i<l.length
 ·exact h _ (cQ 0 hi)
 ·rw[eP,zL (by omega)]
  exact⟨by decide,by decide⟩
theorem aS9(n:Int){D:List Int}(h:∀x∈D,aV x)(k:Nat):dC (zR n D k):=by
 refine⟨⟨ZN n 0,ZN n 1,ZN n 2,ZN n 3⟩,fun x hx=> ?_⟩
 simp only[d4,zR,cG,jF,or_false]at hx;rcases hx with rfl|rfl|rfl|rfl<;>exact aS8 h _
theorem Hn(n:Int){p:List Int}(hp:∀x∈p,aV x)(hl:p.length<=31):∀s∈lK n p,dC s:=by
 intro s hs;have hd:=aS7 hp hl;simp only[lK,cG,jF,or_false]at hs;rcases hs with rfl|rfl|rfl|rfl|rfl|rfl|rfl|rfl<;>exact aS9 n hd _
theorem aT0(d:bL)(a:Int){p:List Int}(hp:∀x∈p,aV x)(hl:p.length<=31):BN (lU d a p).1:=by
 unfold lU;split
 ·split
  ·intro o ho;simp at ho
  ·split
   ·intro o ho;simp at ho
   ·intro o ho s hs
    simp only[cG,jF,or_false]at ho;rcases ho with rfl|rfl
    ·exact Hn _ hp hl s hs
    ·simp at hs
 ·intro o ho;simp at ho
theorem nA:BN []:=fun o ho=>by simp at ho
theorem aT1{x n:Int}(hn:0<n):(x.tmod n+n).tmod n=x % n:=by
 have h0:=BC x (show n≠0 by omega)
 have h1:=zM x hn;by_cases h:0<=x
 ·rw[EF h,EF (by omega),Int.add_emod_right,Int.emod_emod_of_dvd _ (Int.dvd_refl n)]
 ·have h2:=EF (a:= -x) (b:=n) (by omega)
  have h3:x.tmod n= -((-x) % n):=by rw[<-h2,Int.neg_tmod];omega
  have h4:=BC (-x) (show n≠0 by omega)
  have h5:=zM (-x) hn;rw[EF (by omega),Int.add_emod_right,h3]
  have: -((-x) % n) % n=x % n:=by
   rw[Int.emod_def (-x) n,show-(-x-n*(-x/n))=x+n*(-x/n)by omega,Int.add_mul_emod_self_left]
  exact this
theorem aT2{x n:Int}(hn:0<n): -n<x.tmod n/\x.tmod n<n:=by
 have h:=Int.lt_tmod_of_pos x hn;have h2:=Int.tmod_lt_of_pos x hn;exact⟨h,h2⟩
def xL(c:List Int)(n:Int):Int×List Int:=if c.length=0 then(0,[])else(c.getD 0 0 % n,c.drop 1)
def iY(ca:List (Int×aH))(i:Int):List aH:=(ca.filter fun c=>c.1==i).map (·.2)
def D4(ca:List (Int×aH))(s:List aH×List Int)(i:Nat):List aH×List Int:=
 if(iY ca i).length=0 then s else
  (if 0<(xL s.2 ((iY ca i).length+1)).1 then s.1.set i ((iY ca i).getD ((xL s.2 ((iY ca i).length+1)).1-1).toNat aE)else s.1,(xL s.2 ((iY ca i).length+1)).2)
def vI(ca:List (Int×aH))(st:List aH)(c:List Int)(k:Nat):List aH×List Int:=(List.range k).foldl (D4 ca) (st,c)
def oO(d:bL)(c:List Int):bL×List Int:=if dM d=0 then(⟨(vI d.ca d.st c d.st.length).1,[]⟩,(vI d.ca d.st c d.st.length).2)else(d,c)
theorem Vr(ca:List (Int×aH))(st:List aH)(c:List Int)(k:Nat):vI ca st c (k+1)=D4 ca (vI ca st c k) k:=by
 simp[vI,yK]
theorem Vs(ca:List (Int×aH))(s:List aH×List Int)(i:Nat):(D4 ca s i).1.length=s.1.length:=by
 unfold D4;split
 ·rfl
 ·dsimp only
  split
  ·rw[BD]
  ·rfl
theorem Vt(ca:List (Int×aH))(st:List aH)(c:List Int):∀k,(vI ca st c k).1.length=st.length
 |0=>rfl
 |k+1=>by rw[Vr,Vs,Vt ca st c k]
theorem Vu(c:List Int)(n:Int):(xL c n).2.length<=c.length:=by
 unfold xL;split
 ·simp
 ·simp
theorem Vv(c:List Int){n:Int}(hn:0<n):0<=(xL c n).1/\(xL c n).1<n:=by
 unfold xL;split
 ·exact⟨Int.le_refl _,hn⟩
 ·exact⟨BC _ (by omega),zM _ hn⟩
theorem aT3(ca:List (Int×aH))(s:List aH×List Int)(i:Nat):(D4 ca s i).2.length<=s.2.length:=by
 unfold D4;split
 ·exact cE _
 ·exact Vu _ _
theorem Vw(ca:List (Int×aH))(i:Int):(iY ca i).length<=ca.length:=by
 unfold iY;rw[l4];exact KB _ _
theorem aT4(c:List Int)(n:Int)(hn:0<n)(oP:n<=1000000)(hL:c.length<=1000000):PC 135 [.snap (aA bD c),zV n] (.aU [zV (xL c n).1,.snap (aA bD (xL c n).2)]):=by
 refine bI Tryz.func135 Tryz.ntmps135 (by simp only[go_sem]) ?_
 unfold xL;by_cases h0:c.length=0
 ·rw[if_pos h0]
  have h1:(c.length:Int)=0:=by omega
  refine aD ?_;exact aC
 ·rw[if_neg h0]
  have h1:¬(c.length:Int)=0:=by omega
  have hg:=gI c 0 (by omega)
  have hb:=aT2 (x:=c.getD 0 0) hn;have h2:=aT1 (x:=c.getD 0 0) hn;have iI:(c.drop 1).take (c.length-1)=c.drop 1:=eD (by simp)
  generalize c.getD 0 0=x at*;obtain⟨OS,sE⟩:=hb;have UK:¬n=0:=by omega
  have w1:IntKind.i64.wrap (x.tmod n)=x.tmod n:=IntWalk.i64_in _ (by omega)
  have w2:IntKind.i64.wrap (x.tmod n+n)=x.tmod n+n:=IntWalk.i64_in _ (by omega)
  have w3:IntKind.i64.wrap (x % n)=x % n:=by
   have:=BC x (show n≠0 by omega)
   have:=zM x hn;exact IntWalk.i64_in _ (by omega)
  refine aD ?_;exact aC
end Go.Proofs.YtioafciifiggaaaGreatDoor
namespace Go.Proofs.YtioafciifiggaaaGreatDoor
open Go.Proofs Go.AL Go.RowKit Go.Maps Go.Sort Go.Shelf
shelf_lay_g SlLaysZI.n7 Ggz 7 at Tryz 134 as Tryz.keysA
shelf_lay_g SlLaysZI.n6 Ggz 6 at Tryz 133 as Tryz.sortedA
shelf_lay_g SlLaysM.n5 Slgm 5 at Tryz 184 as Tryz.sortA
theorem aT7(m:Nat):AnyZI.SortsIn Tryz.prog Tryz.sortedA_ren Fence.wide m:=
 ⟨fun GH off cap ss W hH aT8 dP=>callsIn_wide.2 (AnyM.slices_Sort_int Tryz.sortA GH off cap ss W hH aT8 dP),
  fun p cap W=>callsIn_wide.2 (AnyM.slices_Sort_int_none Tryz.sortA p cap W)⟩
set_option maxHeartbeats 1000000 in
theorem aT9{H:Type}(Bm b nn:Nat)(D0:DataW H)(R:Value->Option (DataW H×List MemPlace))(w:World)(hBm:Bm<w.heap.size)(hm:w.cell? ⟨Bm,0,none⟩=some (.map (some b)))(nO:w.ownsMap Tryz.prog 3 R b nn D0)(ZO:Maps.size D0<=maxLen)(aU1:Maps.size D0*8<=140737488355328):
  Calls Tryz.prog 133 #[.func (.func 185) #[] #[.pointer (some ⟨Bm,0,none⟩)]] w fun e w'=>∃(v:Value) (ss:List Int),e= .returned v/\ss.Perm (intKeys D0)/\
   w'.ownsRow w.heap.size 3 1 v ss.length ((ss.mergeSort (fun x y=>decide (x<=y))).map encZ)/\(v= .slice none 0 0↔ss=[])/\Below w.heap.size w w':=by
 refine(callsIn_wide (n:=5)).1 ?_
 have aU2:SeqGives Fence.wide 2 Tryz.prog 185 #[.pointer (some ⟨Bm,0,none⟩)] encZ (fun ss=>ss.Perm (intKeys D0)) (Maps.size D0) w:=
  AnyZI.keys_gives (ρ:=Tryz.keysA_ren) {Tryz.keysA with} Fence.wide _ trivial rfl (by omega) Bm b nn D0 _ hBm hm nO
 exact AnyZI.sorted_in Tryz.sortedA Fence.wide 5 trivial trivial trivial trivial rfl (by omega) (aT7 _) (enters_of Tryz.func184 (by kernel_rfl) rfl) 185 #[.pointer (some ⟨Bm,0,none⟩)] trivial (enters_of Tryz.func185 (by kernel_rfl) rfl) _ _ ZO aU1 _ aU2
end Go.Proofs.YtioafciifiggaaaGreatDoor
