/- Staging. No condition. -/
import Derived.Test.YtioafciifiggaaaGreatDoorL0
import Derived.Test.YtioafciifiggaaaGreatDoorAzi
import Derived.Test.YtioafciifiggaaaGreatDoorAzf
import Derived.Test.YtioafciifiggaaaGreatDoorAx
import Derived.Test.YtioafciifiggaaaGreatDoorLg
import Derived.Test.YtioafciifiggaaaGreatDoorAzb
set_option linter.all false
namespace Go.Proofs.YtioafciifiggaaaGreatDoor
open Go.Proofs Go.AL
set_option maxRecDepth 100000
set_option maxHeartbeats 8000000
attribute [local irreducible] cH AW b9 dR eH hold
theorem Da{dd k:Nat}{rows:List (List AV)}{O:List eW}{at_:Int}{D:List aH}(hr:rows=aA aS D)(hk:k=D.length):LI dd rows (aA bJ O++[[zV 0,zV at_,.own dd 0 k]]) (aA bJ (O++[(0,at_,D)])):=by
 subst hr hk;rw[show aA bJ (O++[(0,at_,D)])=aA bJ O++[[zV 0,zV at_,.snap (aA aS D)]]from(sP O ((0:Int),at_,D)).symm]
 refine⟨by simp,fun i r r' h1 h2=> ?_⟩
 by_cases hi:i<(aA bJ O).length
 ·rw[kG hi]at h1 h2
  rw[h1]at h2;injection h2 with h2
  subst h2;exact⟨rfl,fun k x y hx hy=> .inl (by rw[hx]at hy;injection hy)⟩
 ·rw[k7 (by omega)]at h1 h2
  cases hj:i-(aA bJ O).length with
  |zero=>
   rw[hj]at h1 h2;simp only[nE,bC]at h1 h2;subst h1 h2;refine⟨rfl,fun k x y hx hy=> ?_⟩
   match k with
   |0=>simp only[nE,bC]at hx hy;subst hx hy;exact .inl rfl
   |1=>simp only[nE,vE,bC]at hx hy;subst hx hy;exact .inl rfl
   |2=>simp only[nE,vE,bC]at hx hy;subst hx hy;exact .inr ⟨0,D.length,rfl,by rw[mH];omega,by rw[CO,eD (by rw[mH];exact cE _)]⟩
   |k+3=>simp at hx
  |succ q=>rw[hj]at h1;simp at h1
theorem bC1(j:Jr)(u:Int)(C:List aH)(n free:Nat)(hC:C.length=n)(hn:j.count=(n:Int)+16)(h4:4<=n)(oP:n<=4080)(eG:0<=j.start/\j.start<=4096)(ht:0<=j.tail/\j.tail<(n:Int))(hu:0<=u)(hf:(free:Int)=(n:Int)-u)(hf1:1<=j.first)(sR:j.first+(j.b8.length:Int)<=1073741824)(hl:j.b8.length<=100000)(hs:∀s∈C,dC s):
  PC 113 [.agg (encS j u),.snap (aA aS C)] (.snap (aA bJ (J3 j.start (wZ C n j.tail (j.first+(j.b8.length:Int)) free)))):=by
 refine bI Tryz.func113 Tryz.ntmps113 (kL _) ?_;have c1:=IX j.start j.count;have c2:=Kk j u (by omega) (by omega) (by omega) (by omega)
 have c3:=Kj j u hf1 (by omega) hl
 have c4:=fun p=>Bi j.start j.count p
 have w1:IntKind.i64.wrap (j.count-16)=(n:Int):=by rw[IntWalk.i64_in _ (by omega)];omega
 have w2:j.count-16-u=(free:Int):=by omega
 rw[w1]at c1;rw[w2]at c2
 replace hf:=bB.mk hf
 have Db:free<=n:=by have:=hf.out;omega
 have wT:=fun p (hp:p<C.length)=>by3 _ (hs _ (cQ aE hp)).1
 have xQ:=gS C;have mS:=bB6 (C:=C) (n:=(n:Int)) (t:=j.tail) (next:=j.first+(j.b8.length:Int)) (by omega)
 have WS:=fun i (hi:i<free) q hq=>bB7 (C:=C) (n:=(n:Int)) (t:=j.tail) (next:=j.first+(j.b8.length:Int)) (i:=i) (by omega) ht.1 ht.2 (by omega) (q:=q) hq
 have pO:=bB5 C (n:Int) j.tail (j.first+(j.b8.length:Int))
 obtain⟨js,jc,jh,jt,jf,jz⟩:=j;unfold encS at*;simp only[]at*;subst hn;generalize jf+(jz.length:Int)=nx at*;clear w1 w2
 replace c4:=bB.mk c4
 replace wT:=bB.mk wT
 replace xQ:=bB.mk xQ
 replace WS:=bB.mk WS
 replace pO:=bB.mk pO
 clear hs;refine aD ?_;refine GG 7 ?_;refine aD ?_;refine kA Tryz.func110 Tryz.ntmps110 ?_;refine aD ?_;refine OI Tryz.func173 Tryz.ntmps173 (fun R A B m6 hA hB=> ?_)
 refine aD ?_
 refine fK (α:=Unit) free (fun i _=> [(7,true,zV i),(6,true,zV free),(0,true,.kH 16),(1,true,.ptr 15 0 0),(2,true,.ptr 14 0 0),(3,true,.ptr 13 0 0)])
  (fun i _=> [(0,some (.cells 134 9 [[zV js,zV (↑n+16),zV js,zV (↑n+16),zV jh,zV jt,zV jf,.snap (aA bD jz),zV u]] true false)),(1,some (.cells 22 1 [[.snap (aA aS C)]] true false)),(2,some (.cells 4 1 (aA eJ (wZ C n jt nx i)) true true)),(3,some (.cells 62 1 [[.own 2 0 n]] true false)),(13,some (.cells 132 2 [[zV js,zV (↑n+16)]] true false)),(14,some (.cells 3 1 [[zV jt]] true false)),(15,some (.cells 3 1 [[zV free]] true false)),(16,some (.cO R 79 [22] A B .ready none))])
  (fun i m _=>17<=m) ⟨100,(),by omega,?_⟩ (fun i m _ hi hm=> ?_) (fun m _ hm=> ?_)
 ·rw[mS,hC]
  exact aT
 ·obtain⟨q,hq⟩:∃q:Nat,(jt+(i:Int)) % (n:Int)=q:=⟨((jt+(i:Int)) % (n:Int)).toNat,by have:=BC (jt+(i:Int)) (show(n:Int)≠0 by omega);omega⟩
  have II:q<n:=by have:=zM (jt+(i:Int)) (show(0:Int)<n by omega);omega
  have hL:=WS.out i hi q hq;have yU:=pO.out i;have ck:=wT.out q (by omega)
  have hg:=xQ.out q (by omega)
  have w1:IntKind.i64.wrap (jt+(i:Int))=jt+(i:Int):=IntWalk.i64_in _ (by omega)
  have w2:(jt+(i:Int)).tmod (n:Int)=(q:Int):=by rw[EF (by omega)];exact hq
  have w3:IntKind.i64.wrap (q:Int)=(q:Int):=IntWalk.i64_in _ (by omega)
  have w4:¬(n:Int)=0:=by omega
  rw[hL];generalize C.getD q aE=S at*;generalize wZ C (↑n) jt nx i=L at*;rw[hC]at yU;have yZ:(aA eJ L)[q]? =some [bV (L.getD q false)]:=pD false (by omega)
  obtain⟨⟨x0,x1,x2,x3⟩,x4,x5,x6,x7⟩:=S;have bH:aS ((x0,x1,x2,x3),x4,x5,x6,x7)=[uV x0,uV x1,uV x2,uV x3,uV x4,uV x5,uV x6,uV x7]:=rfl;rw[bH]at ck hg;generalize bN ((x0,x1,x2,x3),x4,x5,x6,x7)=gs at*;clear hL WS pO wT xQ mS hq bH c4;refine aD ?_;refine GG 7 ?_;refine aD ?_;clear m6 hA hB;exact⟨m+100,(),by omega,aT⟩
 ·have hlL:=pO.out free
  rw[hC]at hlL;have WT:bB (∀i,i<n->(aA eJ (wZ C (↑n) jt nx free))[i]? =some [bV ((wZ C (↑n) jt nx free).getD i false)]):=⟨fun i hi=>pD false (by omega)⟩
  rw[am0];generalize wZ C (↑n) jt nx free=L at*;clear WS pO wT xQ mS c2 hf;refine aD ?_;clear m6 hA hB
  refine KK (α:=Nat×List eW×Nat) (fun a=> [(8,true,zV (a.1:Int)),(7,true,uO a.2.1.length a.2.2),(5,true,.ptr 3 0 0),(2,true,.ptr 0 0 0)]) (fun a=>(0,some (.cells 134 9 [[zV js,zV (↑n+16),zV js,zV (↑n+16),zV jh,zV jt,zV jf,.snap (aA bD jz),zV u]] true false))::(2,some (.cells 4 1 (aA eJ L) true true))::(3,some (.cells 62 1 [[.own 2 0 n]] true false))::wM 100 3 (aA bJ a.2.1) a.2.1.length a.2.2)
   (fun m a=>(17<=m/\a.1<=n+1/\a.2.1.length<=a.1)/\(a.2.1++(kQ (L.drop a.1) a.1).map (rV js)=(kQ L 0).map (rV js))/\(0<a.2.1.length->17<=a.2.2/\a.2.2<m)) (fun a=>n+1-a.1) (0,[],0) ⟨m+100,⟨⟨by omega,by simp only[];omega,by simp⟩,by simp,fun h=>absurd h (by simp)⟩,by simp only[];exact aT⟩ (fun m a hR=> ?_)
  obtain⟨p,O,id⟩:=a;simp only[]at hR⊢;obtain⟨⟨wI,hp,hOp⟩,e1,aB⟩:=hR;by_cases g1:p<n
  case neg=>
   rw[bC0 (by omega),tK,mD]at e1
   have JD:¬(p:Int)<(n:Int):=by omega
   rw[<-e1];clear c4 c1 c3 WT;cases hF:O.length with
   |zero=>
    have m5:O=[]:=jQ hF;subst m5;have wV:kQ L 0=[]:=List.map_eq_nil_iff.1 e1.symm;rw[if_pos wV,mD];clear e1 wV;refine aD ?_;exact aC
   |succ f=>
    obtain⟨i1,i2⟩:=aB (by omega)
    have wV:kQ L 0≠[]:=fun e=>by rw[e,tK]at e1;rw[e1]at hF;cases hF
    rw[if_neg wV];have A6:=Vm O;have Ks:(∀row,row∈aA bJ O++[[zV 1,zV 0,.c (.slice none 0 0)]]->∀x,x∈row->bK x)=True:=eq_true (ac8 O);have iI:(aA bJ O++[[zV 1,zV 0,.c (.slice none 0 0)]]).take (f+1+1)=aA bJ O++[[zV 1,zV 0,.c (.slice none 0 0)]]:=eD (by rw[bP,mH,hF];exact cE _)
    clear e1 wV;refine aD ?_;refine⟨?_,?_⟩
    ·(simp(maxSteps:=2000000) (disch:=omega) only[go_sem,fQ,eV,fN,fC,false_implies,implies_true, *])
    ·(simp(maxSteps:=2000000) (disch:=omega) only[go_sem,fQ,eV,fN,fC,false_implies,implies_true, *];exact IC A6)
  have JD:(p:Int)<(n:Int):=by omega
  refine aD ?_
  refine KK (α:=Nat) (fun c=> [(9,true,zV (c:Int)),(8,true,zV (p:Int)),(7,true,uO O.length id),(5,true,.ptr 3 0 0),(2,true,.ptr 0 0 0)]) (fun c=>(0,some (.cells 134 9 [[zV js,zV (↑n+16),zV js,zV (↑n+16),zV jh,zV jt,zV jf,.snap (aA bD jz),zV u]] true false))::(2,some (.cells 4 1 (aA eJ L) true true))::(3,some (.cells 62 1 [[.own 2 0 n]] true false))::wM 100 3 (aA bJ O) O.length id)
   (fun m' c=>m<=m'/\p+c<=n/\∀i,i<c->L.getD (p+i) false=true) (fun c=>n-c) 0 ⟨m+40,⟨by omega,by omega,fun i hi=>by omega⟩,?_⟩ (fun m' c cP=> ?_)
  ·cases hF:O.length with
   |zero=>
    have m5:O=[]:=jQ hF;subst m5;exact aT
   |succ f=>
    exact aT
  ·obtain⟨TX,hpc,eR⟩:=cP
   have w5:IntKind.i64.wrap ((p:Int)+(c:Int))=((p+c:Nat):Int):=by rw[IntWalk.i64_in _ (by omega)];omega
   by_cases g2:p+c<n
   ·have WI:((p+c:Nat):Int)<(n:Int):=by omega
    have hb:=WT.out (p+c) g2;cases z8:L.getD (p+c) false with
    |true=>
     rw[z8]at hb
     have WM:bB (∀i,i<c+1->L.getD (p+i) false=true):=⟨fun i hi=>by
      by_cases hic:i=c
      ·rw[hic];exact z8
      ·exact eR i (by omega)⟩
     have w9:IntKind.i64.wrap ((c:Int)+1)=((c+1:Nat):Int):=by rw[IntWalk.i64_in _ (by omega)];omega
     clear eR c4 c1 c3 WT e1 aB;cases hF:O.length with
     |zero=>
      have m5:O=[]:=jQ hF;subst m5;refine aD ?_;exact⟨m'+30,c+1,by omega,⟨by omega,by omega,WM.out⟩,aT⟩
     |succ f=>
      refine aD ?_;exact⟨m'+30,c+1,by omega,⟨by omega,by omega,WM.out⟩,aT⟩
    |false=>
     rw[z8]at hb;have rN:p+c=n\/L.getD (p+c) false=false:= .inr z8
     replace rN:=bB.mk rN
     clear WT z8;cases c with
     |zero=>
      have tP:(aA eJ L)[p]? =some [bV false]:=by simpa using hb
      have gf:L.getD p false=false:=by
       have h9:=rN.out;rw[zN]at h9;exact h9.resolve_left (by omega)
      have hrf:=bB9 (L:=L) (p:=p) (by omega) gf
      rw[hrf]at e1;have w8:IntKind.i64.wrap ((p:Int)+1)=((p+1:Nat):Int):=by rw[IntWalk.i64_in _ (by omega)];omega
      clear c4 c1 c3 eR hrf
      replace e1:=bB.mk e1
      cases hF:O.length with
      |zero=>
       have m5:O=[]:=jQ hF;subst m5;refine aD ?_;refine⟨m'+60,(p+1,[],id),by simp only[];omega,⟨⟨by omega,by simp only[];omega,by simp⟩,e1.out,fun h=>absurd h (by simp)⟩,?_⟩
       simp only[];exact aT
      |succ f=>
       obtain⟨i1,i2⟩:=aB (by omega)
       refine aD ?_;refine⟨m'+60,(p+1,O,id),by simp only[];omega,⟨⟨by omega,by simp only[];omega,by simp only[];omega⟩,e1.out,fun _=>by simp only[];omega⟩,?_⟩
       simp only[];rw[hF];exact aT
     |succ c=>
      have WU:=al9 (L:=L) (p:=p) (n:=c) (by omega) eR (by
       rcases rN.out with h|h
       ·exact .inl (by omega)
       ·exact .inr h)
      rw[WU,gJ]at e1
      have e2:(O++[rV js (p,c+1)])++(kQ (L.drop (p+(c+1)+1)) (p+(c+1)+1)).map (rV js)=(kQ L 0).map (rV js):=by
       rw[fF];exact e1
      clear e1 WU eR;have c5:=c4.out (p:Int);have w6:IntKind.i64.wrap (IntKind.i64.wrap (js+16)+(p:Int))=js+16+(p:Int):=by rw[IntWalk.i64_in (js+16) (by omega),IntWalk.i64_in _ (by omega)]
      rw[w6]at c5;have w7:IntKind.i64.wrap ((p:Int)+((c+1:Nat):Int))=((p+(c+1):Nat):Int):=by rw[IntWalk.i64_in _ (by omega)];omega
      have w8:IntKind.i64.wrap (((p+(c+1):Nat):Int)+1)=((p+(c+1)+1:Nat):Int):=by rw[IntWalk.i64_in _ (by omega)];omega
      have hg5:(0:Int)<((c+1:Nat):Int):=by omega
      clear c4 w6
      replace e2:=bB.mk e2
      replace c5:=bB.mk c5
      cases hF:O.length with
      |zero=>
       have m5:O=[]:=jQ hF;subst m5;refine aD ?_;have c6:=c5.out;refine FD ?_;refine gT ?_;have pG:([]++[rV js (p,c+1)]).length=1:=rfl;refine C4 (m'+6) (m'+9) (aA bJ ([]++[rV js (p,c+1)])) (rws:=aA bJ []++[[zV 0,zV (js+16+(p:Int)),.own (m'+6) 0 (c+1)]]) (by simp(maxSteps:=2000000) (disch:=omega) only[go_sem, *]<;>exact rfl) (by simp(maxSteps:=2000000) (disch:=omega) only[go_sem, *]<;>exact rfl) (by omega) (Da rfl (by simp)) ?_
       refine aD ?_;refine⟨m'+80,(p+(c+1)+1,[]++[rV js (p,c+1)],m'+9),by simp only[];omega,⟨⟨by omega,by simp only[];omega,by simp only[];rw[pG];omega⟩,e2.out,fun _=>by simp only[];omega⟩,?_⟩
       simp only[];rw[pG];exact aT
      |succ f=>
       obtain⟨i1,i2⟩:=aB (by omega)
       refine aD ?_;have c6:=c5.out;refine FD ?_;refine gT ?_;have pG:(O++[rV js (p,c+1)]).length=f+1+1:=by rw[bP,hF];rfl
       refine C4 (m'+6) (m'+9) (aA bJ (O++[rV js (p,c+1)])) (rws:=aA bJ O++[[zV 0,zV (js+16+(p:Int)),.own (m'+6) 0 (c+1)]]) (by simp(maxSteps:=2000000) (disch:=omega) only[go_sem, *]<;>exact rfl) (by simp(maxSteps:=2000000) (disch:=omega) only[go_sem, *]<;>exact rfl) (by omega) (Da rfl (by simp)) ?_
       refine aD ?_;refine⟨m'+80,(p+(c+1)+1,O++[rV js (p,c+1)],m'+9),by simp only[];omega,⟨⟨by omega,by simp only[];omega,by simp only[];rw[pG];omega⟩,e2.out,fun _=>by simp only[];omega⟩,?_⟩
       simp only[];rw[pG];exact aT
   ·have WI:¬((p+c:Nat):Int)<(n:Int):=by omega
    have rN:p+c=n\/L.getD (p+c) false=false:= .inl (by omega)
    replace rN:=bB.mk rN
    clear WT;cases c with
    |zero=>
     exact absurd g1 (by omega)
    |succ c=>
     have WU:=al9 (L:=L) (p:=p) (n:=c) (by omega) eR (by
      rcases rN.out with h|h
      ·exact .inl (by omega)
      ·exact .inr h)
     rw[WU,gJ]at e1
     have e2:(O++[rV js (p,c+1)])++(kQ (L.drop (p+(c+1)+1)) (p+(c+1)+1)).map (rV js)=(kQ L 0).map (rV js):=by
      rw[fF];exact e1
     clear e1 WU eR;have c5:=c4.out (p:Int);have w6:IntKind.i64.wrap (IntKind.i64.wrap (js+16)+(p:Int))=js+16+(p:Int):=by rw[IntWalk.i64_in (js+16) (by omega),IntWalk.i64_in _ (by omega)]
     rw[w6]at c5;have w7:IntKind.i64.wrap ((p:Int)+((c+1:Nat):Int))=((p+(c+1):Nat):Int):=by rw[IntWalk.i64_in _ (by omega)];omega
     have w8:IntKind.i64.wrap (((p+(c+1):Nat):Int)+1)=((p+(c+1)+1:Nat):Int):=by rw[IntWalk.i64_in _ (by omega)];omega
     have hg5:(0:Int)<((c+1:Nat):Int):=by omega
     clear c4 w6
     replace e2:=bB.mk e2
     replace c5:=bB.mk c5
     cases hF:O.length with
     |zero=>
      have m5:O=[]:=jQ hF;subst m5;refine aD ?_;have c6:=c5.out;refine FD ?_;refine gT ?_;have pG:([]++[rV js (p,c+1)]).length=1:=rfl;refine C4 (m'+6) (m'+9) (aA bJ ([]++[rV js (p,c+1)])) (rws:=aA bJ []++[[zV 0,zV (js+16+(p:Int)),.own (m'+6) 0 (c+1)]]) (by simp(maxSteps:=2000000) (disch:=omega) only[go_sem, *]<;>exact rfl) (by simp(maxSteps:=2000000) (disch:=omega) only[go_sem, *]<;>exact rfl) (by omega) (Da rfl (by simp)) ?_
      refine aD ?_;refine⟨m'+80,(p+(c+1)+1,[]++[rV js (p,c+1)],m'+9),by simp only[];omega,⟨⟨by omega,by simp only[];omega,by simp only[];rw[pG];omega⟩,e2.out,fun _=>by simp only[];omega⟩,?_⟩
      simp only[];rw[pG];exact aT
     |succ f=>
      obtain⟨i1,i2⟩:=aB (by omega)
      refine aD ?_;have c6:=c5.out;refine FD ?_;refine gT ?_;have pG:(O++[rV js (p,c+1)]).length=f+1+1:=by rw[bP,hF];rfl
      refine C4 (m'+6) (m'+9) (aA bJ (O++[rV js (p,c+1)])) (rws:=aA bJ O++[[zV 0,zV (js+16+(p:Int)),.own (m'+6) 0 (c+1)]]) (by simp(maxSteps:=2000000) (disch:=omega) only[go_sem, *]<;>exact rfl) (by simp(maxSteps:=2000000) (disch:=omega) only[go_sem, *]<;>exact rfl) (by omega) (Da rfl (by simp)) ?_
      refine aD ?_;refine⟨m'+80,(p+(c+1)+1,O++[rV js (p,c+1)],m'+9),by simp only[];omega,⟨⟨by omega,by simp only[];omega,by simp only[];rw[pG];omega⟩,e2.out,fun _=>by simp only[];omega⟩,?_⟩
      simp only[];rw[pG];exact aT
end Go.Proofs.YtioafciifiggaaaGreatDoor
namespace Go.Proofs.YtioafciifiggaaaGreatDoor
open Go.Proofs Go.AL
set_option maxRecDepth 100000
set_option maxHeartbeats 2000000
attribute [local irreducible] cH AW b9 dR eH hold
attribute [local irreducible] jI
structure JF(R:List Rec)(q:Int)(n:Nat):Prop where
 sum:(fL R).sum<=(n:Int)
 one:∀r∈R,2<=(r.cT.length+10)/4/\r.cT.length<=4096/\(∀x∈r.cT,aV x)
 len:2*R.length<=n
 cT:(R.map fun r=>r.cT.length).sum<=4*n
theorem am2:∀(f:Nat) (l:List aH) (q:Int),(∀s∈l,dC s)->JF (y5 f l q).1 q l.length
 |0,l,q,_=>⟨by simp[y5,fL],fun r hr=>by simp[y5]at hr,by simp[y5],by simp[y5]⟩
 |f+1,l,q,hl=>by
  have h0:JF [] q l.length:=⟨by simp[fL],fun r hr=>by simp at hr,by simp,by simp⟩
  unfold y5;split
  ·rename_i g
   rcases PZ l hl with h|⟨h1,h2,h3,h4,h5,h6,h7,h8,h9⟩
   ·exact absurd g.2.1 h
   ·have ih:=am2 f (l.drop (gM l).2.1.toNat) (q+1) fun s hs=>hl s (lJ hs)
    rw[eF]at ih;generalize hS:(y5 f (l.drop (gM l).2.1.toNat) (q+1)).1=S at*;simp only[];have oH:2<=((gM l).1.cT.length+10)/4:=by omega
    refine⟨?_,fun r hr=> ?_,?_,?_⟩
    ·have:=ih.sum
     unfold fL at this⊢;rw[gJ,qP];omega
    ·rcases cG.1 hr with e|e
     ·subst e
      exact⟨oH,h4,h7⟩
     ·exact ih.one r e
    ·have:=ih.len
     rw[dK];omega
    ·have:=ih.cT
     rw[gJ,qP];omega
  ·exact h0
theorem am3(l:List aH)(q:Int)(hl:∀s∈l,dC s):JF (mU l q).1 q l.length:=am2 _ l q hl
theorem Dc:∀(l:List Int) (k:Nat),(∀x∈l,0<=x)->(l.take k).sum<=l.sum
 |[],k,_=>by simp
 |a::l,0,h=>by
  have:0<=l.sum:=by
   have:=Dc l 0 (fun x hx=>h x (by simp[hx]))
   simpa using this
  have:=h a (by simp)
  simp only[xE,OD,qP];omega
 |a::l,k+1,h=>by
  have:=Dc l k (fun x hx=>h x (by simp[hx]))
  simp only[G4,qP];omega
theorem My:∀(l:List Nat) (k:Nat),(l.take k).sum<=l.sum
 |[],k=>by simp
 |a::l,0=>by simp
 |a::l,k+1=>by
  have:=My l k;simp only[G4,qP];omega
theorem JF.take{R:List Rec}{q:Int}{n:Nat}(h:JF R q n)(k:Nat):JF (R.take k) q n:=by
 refine⟨?_,fun r hr=>h.one r (oS hr),by have:=h.len;rw[cU];omega,?_⟩
 ·have h1:=h.sum
  have h2:=Dc (fL R) k (fun x hx=>by
   unfold fL at hx;obtain⟨r,-,rfl⟩:=kV.1 hx
   omega)
  have h3:fL (R.take k)=(fL R).take k:=by unfold fL;rw[TH]
  rw[h3];omega
 ·have h1:=h.cT
  have h2:=My (R.map fun r=>r.cT.length) k
  rw[TH];omega
theorem bC6{C:List aH}{h n:Nat}(hn:C.length=n)(hh:h<=n):(List.range n).map (fun i=>C.getD ((h+i) % n) aE)=jV C h:=by
 subst hn;apply BE;intro i;by_cases hi:i<C.length
 ·rw[gE,wD hi,oU]
  have h1:=DR hh hi;have h2:=yW hh;rw[<-h1,eP,eQ (by omega)]
  rfl
 ·rw[zL (by simp;omega),zL (by rw[yW hh];omega)]
theorem Mz{C:List aH}(hC:∀s∈C,dC s)(h:Nat):∀s∈jV C h,dC s:=fun s hs=>by
 unfold jV at hs;rcases lS.1 hs with e|e
 ·exact hC s (lJ e)
 ·exact hC s (oS e)
theorem bC7{a c h f:Int}{R:List Rec}{n:Nat}(hv:qY a c=true)(hc:c-16=(n:Int))(h0:0<=h)(h1:h<(n:Int))(f1:1<=f)(f2:f+(R.length:Int)<=1073741824)(hR:JF R f n):jE (pP a c h f R)=0:=by
 unfold pP jE;simp only[];have hl:(fL R).length=R.length:=by unfold fL;rw[l4]
 have hs:=hR.sum;have h2:=hR.len;rw[hv,hl];rw[if_neg (by rintro(e|e|e|e|e|e)<;>first|exact absurd e (by decide)|omega)]
 have hb:(fL R).any vK=false:=by
  rw[TF];intro x hx;unfold fL at hx;obtain⟨r,hr,rfl⟩:=kV.1 hx;obtain⟨h3,h4,-⟩:=hR.one r hr;unfold vK;simp only[KA,decide_eq_true_eq,not_or];omega
 rw[hb,if_neg (by decide),if_neg (by omega)]
theorem bC8(j:Jr)(u:Int)(hl:j.b8.length<=100000):PC 86 [.agg (encS j u)] (.agg (eZ j)):=by
 refine bI Tryz.func86 Tryz.ntmps86 (by simp only[go_sem,eZ]) ?_
 obtain⟨js,jc,jh,jt,jf,jz⟩:=j;unfold encS eZ;simp only[]at*;by_cases DN:jz=[]
 ·subst DN
  refine aD ?_;exact oD
 ·have aJ:=wG DN
  have Kt:jz.take jz.length=jz:=lI;refine aD ?_;exact oD
end Go.Proofs.YtioafciifiggaaaGreatDoor
