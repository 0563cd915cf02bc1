/- Staging. No condition. -/
import Derived.Test.YtioafciifiggaaaGreatDoorL0
import Derived.Test.YtioafciifiggaaaGreatDoorAzk
import Derived.Test.YtioafciifiggaaaGreatDoorAzf
import Derived.Test.YtioafciifiggaaaGreatDoorAza
import Derived.Test.YtioafciifiggaaaGreatDoorLg
import Derived.Test.YtioafciifiggaaaGreatDoorAzj
import Derived.Test.YtioafciifiggaaaGreatDoorAze
set_option linter.all false
namespace Go.Proofs.YtioafciifiggaaaGreatDoor
open Go.Proofs Go.AL
set_option maxRecDepth 100000
set_option maxHeartbeats 8000000
attribute [local irreducible] cB AW aX cZ dK hold
theorem MG{dd k:Nat}{rows:List (List AV)}{O:List iC}{at_:Int}{D:List aY}(hr:rows=aA aQ D)(hk:k=D.length):IJ dd rows (aA bC O++[[zV 0,zV at_,.own dd 0 k]]) (aA bC (O++[(0,at_,D)])):=by
 subst hr hk;rw[show aA bC (O++[(0,at_,D)])=aA bC O++[[zV 0,zV at_,.snap (aA aQ D)]]from(nR O ((0:Int),at_,D)).symm]
 refine⟨by simp,fun i r r' h1 h2=> ?_⟩
 by_cases hi:i<(aA bC O).length
 ·rw[lT hi]at h1 h2
  rw[h1]at h2;injection h2 with h2
  subst h2;exact⟨rfl,fun k x y hx hy=> .inl (by rw[hx]at hy;injection hy)⟩
 ·rw[lD (by omega)]at h1 h2
  cases hj:i-(aA bC O).length with
  |zero=>
   rw[hj]at h1 h2;simp only[mK,bB]at h1 h2;subst h1 h2;refine⟨rfl,fun k x y hx hy=> ?_⟩
   match k with
   |0=>simp only[mK,bB]at hx hy;subst hx hy;exact .inl rfl
   |1=>simp only[mK,qS,bB]at hx hy;subst hx hy;exact .inl rfl
   |2=>simp only[mK,qS,bB]at hx hy;subst hx hy;exact .inr ⟨0,D.length,rfl,by rw[fZ];omega,by rw[tH,cR (by rw[fZ];exact cA _)]⟩
   |k+3=>simp at hx
  |succ q=>rw[hj]at h1;simp at h1
theorem aH0(j:Jr)(u:Int)(C:List aY)(n free:Nat)(hC:C.length=n)(hn:j.count=(n:Int)+16)(h4:4<=n)(lG:n<=4080)(eW:0<=j.start/\j.start<=4096)(ht:0<=j.tail/\j.tail<(n:Int))(hu:0<=u)(hf:(free:Int)=(n:Int)-u)(hf1:1<=j.first)(jP:j.first+(j.cD.length:Int)<=1073741824)(hl:j.cD.length<=100000)(hs:∀s∈C,eR s):
  PC 113 [.agg (encS j u),.snap (aA aQ C)] (.snap (aA bC (MB j.start (tV C n j.tail (j.first+(j.cD.length:Int)) free)))):=by
 refine aT Tryz.func113 Tryz.ntmps113 (iJ _) ?_;have c1:=II j.start j.count;have c2:=Om j u (by omega) (by omega) (by omega) (by omega)
 have c3:=Ol j u hf1 (by omega) hl
 have c4:=fun p=>W9 j.start j.count p
 have w1:IntKind.i64.wrap (j.count-16)=(n:Int):=by rw[IntWalk.i64_in _ (by omega)];omega
 have w2:j.count-16-u=(free:Int):=by omega
 rw[w1]at c1;rw[w2]at c2
 replace hf:=aU.mk hf
 have Rc:free<=n:=by have:=hf.out;omega
 have DX:=fun p (hp:p<C.length)=>aD4 _ (hs _ (dC aO hp)).1
 have J2:=gS C;have kX:=aG7 (C:=C) (n:=(n:Int)) (t:=j.tail) (next:=j.first+(j.cD.length:Int)) (by omega)
 have RG:=fun i (hi:i<free) q hq=>aG8 (C:=C) (n:=(n:Int)) (t:=j.tail) (next:=j.first+(j.cD.length:Int)) (i:=i) (by omega) ht.1 ht.2 (by omega) (q:=q) hq
 have nJ:=aG6 C (n:Int) j.tail (j.first+(j.cD.length:Int))
 obtain⟨js,jc,jh,jt,jf,jz⟩:=j;unfold encS at*;simp only[]at*;subst hn;generalize jf+(jz.length:Int)=nx at*;clear w1 w2
 replace c4:=aU.mk c4
 replace DX:=aU.mk DX
 replace J2:=aU.mk J2
 replace RG:=aU.mk RG
 replace nJ:=aU.mk nJ
 clear hs;refine aE ?_;refine RI 7 ?_;refine aE ?_;refine nS Tryz.func110 Tryz.ntmps110 ?_;refine aE ?_;refine L9 Tryz.func173 Tryz.ntmps173 (fun R A B fF hA hB=> ?_)
 refine aE ?_
 refine dP (α:=Unit) free (fun i _=> [(7,true,zV i),(6,true,zV free),(0,true,.jF 16),(1,true,.ptr 15 0 0),(2,true,.ptr 14 0 0),(3,true,.ptr 13 0 0)])
  (fun i _=> [(0,some (.cells 134 9 [[zV js,zV (↑n+16),zV js,zV (↑n+16),zV jh,zV jt,zV jf,.snap (aA bA jz),zV u]] true false)),(1,some (.cells 22 1 [[.snap (aA aQ C)]] true false)),(2,some (.cells 4 1 (aA cM (tV C n jt nx i)) true true)),(3,some (.cells 62 1 [[.own 2 0 n]] true false)),(13,some (.cells 132 2 [[zV js,zV (↑n+16)]] true false)),(14,some (.cells 3 1 [[zV jt]] true false)),(15,some (.cells 3 1 [[zV free]] true false)),(16,some (.cJ R 79 [22] A B .ready none))])
  (fun i m _=>17<=m) ⟨100,(),by omega,?_⟩ (fun i m _ hi hm=> ?_) (fun m _ hm=> ?_)
 ·rw[kX,hC]
  exact aN
 ·obtain⟨q,hq⟩:∃q:Nat,(jt+(i:Int)) % (n:Int)=q:=⟨((jt+(i:Int)) % (n:Int)).toNat,by have:=HG (jt+(i:Int)) (show(n:Int)≠0 by omega);omega⟩
  have Re:q<n:=by have:=KW (jt+(i:Int)) (show(0:Int)<n by omega);omega
  have hL:=RG.out i hi q hq;have tP:=nJ.out i;have ck:=DX.out q (by omega)
  have hg:=J2.out q (by omega)
  have w1:IntKind.i64.wrap (jt+(i:Int))=jt+(i:Int):=IntWalk.i64_in _ (by omega)
  have w2:(jt+(i:Int)).tmod (n:Int)=(q:Int):=by rw[KT (by omega)];exact hq
  have w3:IntKind.i64.wrap (q:Int)=(q:Int):=IntWalk.i64_in _ (by omega)
  have w4:¬(n:Int)=0:=by omega
  rw[hL];generalize C.getD q aO=S at*;generalize tV C (↑n) jt nx i=L at*;rw[hC]at tP;have wJ:(aA cM L)[q]? =some [bV (L.getD q false)]:=pQ false (by omega)
  obtain⟨⟨x0,x1,x2,x3⟩,x4,x5,x6,x7⟩:=S;have bH:aQ ((x0,x1,x2,x3),x4,x5,x6,x7)=[uV x0,uV x1,uV x2,uV x3,uV x4,uV x5,uV x6,uV x7]:=rfl;rw[bH]at ck hg;generalize cL ((x0,x1,x2,x3),x4,x5,x6,x7)=gs at*;clear hL RG nJ DX J2 kX hq bH c4;refine aE ?_;refine RI 7 ?_;refine aE ?_;clear fF hA hB;exact⟨m+100,(),by omega,aN⟩
 ·have hlL:=nJ.out free
  rw[hC]at hlL;have MH:aU (∀i,i<n->(aA cM (tV C (↑n) jt nx free))[i]? =some [bV ((tV C (↑n) jt nx free).getD i false)]):=⟨fun i hi=>pQ false (by omega)⟩
  rw[Dj];generalize tV C (↑n) jt nx free=L at*;clear RG nJ DX J2 kX c2 hf;refine aE ?_;clear fF hA hB
  refine D7 (α:=Nat×List iC×Nat) (fun a=> [(8,true,zV (a.1:Int)),(7,true,nG a.2.1.length a.2.2),(5,true,.ptr 3 0 0),(2,true,.ptr 0 0 0)]) (fun a=>(0,some (.cells 134 9 [[zV js,zV (↑n+16),zV js,zV (↑n+16),zV jh,zV jt,zV jf,.snap (aA bA jz),zV u]] true false))::(2,some (.cells 4 1 (aA cM L) true true))::(3,some (.cells 62 1 [[.own 2 0 n]] true false))::oB 100 3 (aA bC a.2.1) a.2.1.length a.2.2)
   (fun m a=>(17<=m/\a.1<=n+1/\a.2.1.length<=a.1)/\(a.2.1++(gN (L.drop a.1) a.1).map (lH js)=(gN L 0).map (lH js))/\(0<a.2.1.length->17<=a.2.2/\a.2.2<m)) (fun a=>n+1-a.1) (0,[],0) ⟨m+100,⟨⟨by omega,by simp only[];omega,by simp⟩,by simp,fun h=>absurd h (by simp)⟩,by simp only[];exact aN⟩ (fun m a hR=> ?_)
  obtain⟨p,O,id⟩:=a;simp only[]at hR⊢;obtain⟨⟨nD,hp,hOp⟩,e1,aC⟩:=hR;by_cases g1:p<n
  case neg=>
   rw[WX (by omega),sM,rO]at e1
   have xY:¬(p:Int)<(n:Int):=by omega
   rw[<-e1];clear c4 c1 c3 MH;cases hF:O.length with
   |zero=>
    have gJ:O=[]:=fI hF;subst gJ;have vF:gN L 0=[]:=List.map_eq_nil_iff.1 e1.symm;rw[if_pos vF,rO];clear e1 vF;refine aE ?_;exact aB
   |succ f=>
    obtain⟨i1,i2⟩:=aC (by omega)
    have vF:gN L 0≠[]:=fun e=>by rw[e,sM]at e1;rw[e1]at hF;cases hF
    rw[if_neg vF];have yV:=ZV O;have M4:(∀row,row∈aA bC O++[[zV 1,zV 0,.c (.slice none 0 0)]]->∀x,x∈row->bJ x)=True:=eq_true (Cl O);have iD:(aA bC O++[[zV 1,zV 0,.c (.slice none 0 0)]]).take (f+1+1)=aA bC O++[[zV 1,zV 0,.c (.slice none 0 0)]]:=cR (by rw[cP,fZ,hF];exact cA _)
    clear e1 vF;refine aE ?_;refine⟨?_,?_⟩
    ·(simp(maxSteps:=2000000) (disch:=omega) only[go_sem,eU,e8,eN,eF,false_implies,implies_true, *])
    ·(simp(maxSteps:=2000000) (disch:=omega) only[go_sem,eU,e8,eN,eF,false_implies,implies_true, *];exact C3 yV)
  have xY:(p:Int)<(n:Int):=by omega
  refine aE ?_
  refine D7 (α:=Nat) (fun c=> [(9,true,zV (c:Int)),(8,true,zV (p:Int)),(7,true,nG O.length id),(5,true,.ptr 3 0 0),(2,true,.ptr 0 0 0)]) (fun c=>(0,some (.cells 134 9 [[zV js,zV (↑n+16),zV js,zV (↑n+16),zV jh,zV jt,zV jf,.snap (aA bA jz),zV u]] true false))::(2,some (.cells 4 1 (aA cM L) true true))::(3,some (.cells 62 1 [[.own 2 0 n]] true false))::oB 100 3 (aA bC O) O.length id)
   (fun m' c=>m<=m'/\p+c<=n/\∀i,i<c->L.getD (p+i) false=true) (fun c=>n-c) 0 ⟨m+40,⟨by omega,by omega,fun i hi=>by omega⟩,?_⟩ (fun m' c bK=> ?_)
  ·cases hF:O.length with
   |zero=>
    have gJ:O=[]:=fI hF;subst gJ;exact aN
   |succ f=>
    exact aN
  ·obtain⟨C0,hpc,eT⟩:=bK
   have w5:IntKind.i64.wrap ((p:Int)+(c:Int))=((p+c:Nat):Int):=by rw[IntWalk.i64_in _ (by omega)];omega
   by_cases g2:p+c<n
   ·have CG:((p+c:Nat):Int)<(n:Int):=by omega
    have hb:=MH.out (p+c) g2;cases wN:L.getD (p+c) false with
    |true=>
     rw[wN]at hb
     have CH:aU (∀i,i<c+1->L.getD (p+i) false=true):=⟨fun i hi=>by
      by_cases hic:i=c
      ·rw[hic];exact wN
      ·exact eT i (by omega)⟩
     have w9:IntKind.i64.wrap ((c:Int)+1)=((c+1:Nat):Int):=by rw[IntWalk.i64_in _ (by omega)];omega
     clear eT c4 c1 c3 MH e1 aC;cases hF:O.length with
     |zero=>
      have gJ:O=[]:=fI hF;subst gJ;refine aE ?_;exact⟨m'+30,c+1,by omega,⟨by omega,by omega,CH.out⟩,aN⟩
     |succ f=>
      refine aE ?_;exact⟨m'+30,c+1,by omega,⟨by omega,by omega,CH.out⟩,aN⟩
    |false=>
     rw[wN]at hb;have pB:p+c=n\/L.getD (p+c) false=false:= .inr wN
     replace pB:=aU.mk pB
     clear MH wN;cases c with
     |zero=>
      have nY:(aA cM L)[p]? =some [bV false]:=by simpa using hb
      have gf:L.getD p false=false:=by
       have h9:=pB.out;rw[BU]at h9;exact h9.resolve_left (by omega)
      have Rf:=Di (L:=L) (p:=p) (by omega) gf
      rw[Rf]at e1;have w8:IntKind.i64.wrap ((p:Int)+1)=((p+1:Nat):Int):=by rw[IntWalk.i64_in _ (by omega)];omega
      clear c4 c1 c3 eT Rf
      replace e1:=aU.mk e1
      cases hF:O.length with
      |zero=>
       have gJ:O=[]:=fI hF;subst gJ;refine aE ?_;refine⟨m'+60,(p+1,[],id),by simp only[];omega,⟨⟨by omega,by simp only[];omega,by simp⟩,e1.out,fun h=>absurd h (by simp)⟩,?_⟩
       simp only[];exact aN
      |succ f=>
       obtain⟨i1,i2⟩:=aC (by omega)
       refine aE ?_;refine⟨m'+60,(p+1,O,id),by simp only[];omega,⟨⟨by omega,by simp only[];omega,by simp only[];omega⟩,e1.out,fun _=>by simp only[];omega⟩,?_⟩
       simp only[];rw[hF];exact aN
     |succ c=>
      have RJ:=WW (L:=L) (p:=p) (n:=c) (by omega) eT (by
       rcases pB.out with h|h
       ·exact .inl (by omega)
       ·exact .inr h)
      rw[RJ,jW]at e1
      have e2:(O++[lH js (p,c+1)])++(gN (L.drop (p+(c+1)+1)) (p+(c+1)+1)).map (lH js)=(gN L 0).map (lH js):=by
       rw[kA];exact e1
      clear e1 RJ eT;have c5:=c4.out (p:Int);have w6:IntKind.i64.wrap (IntKind.i64.wrap (js+16)+(p:Int))=js+16+(p:Int):=by rw[IntWalk.i64_in (js+16) (by omega),IntWalk.i64_in _ (by omega)]
      rw[w6]at c5;have w7:IntKind.i64.wrap ((p:Int)+((c+1:Nat):Int))=((p+(c+1):Nat):Int):=by rw[IntWalk.i64_in _ (by omega)];omega
      have w8:IntKind.i64.wrap (((p+(c+1):Nat):Int)+1)=((p+(c+1)+1:Nat):Int):=by rw[IntWalk.i64_in _ (by omega)];omega
      have hg5:(0:Int)<((c+1:Nat):Int):=by omega
      clear c4 w6
      replace e2:=aU.mk e2
      replace c5:=aU.mk c5
      cases hF:O.length with
      |zero=>
       have gJ:O=[]:=fI hF;subst gJ;refine aE ?_;have c6:=c5.out;refine DY ?_;refine gE ?_;have kW:([]++[lH js (p,c+1)]).length=1:=rfl;refine sX (m'+6) (m'+9) (aA bC ([]++[lH js (p,c+1)])) (rws:=aA bC []++[[zV 0,zV (js+16+(p:Int)),.own (m'+6) 0 (c+1)]]) (by simp(maxSteps:=2000000) (disch:=omega) only[go_sem, *]<;>exact rfl) (by simp(maxSteps:=2000000) (disch:=omega) only[go_sem, *]<;>exact rfl) (by omega) (MG rfl (by simp)) ?_
       refine aE ?_;refine⟨m'+80,(p+(c+1)+1,[]++[lH js (p,c+1)],m'+9),by simp only[];omega,⟨⟨by omega,by simp only[];omega,by simp only[];rw[kW];omega⟩,e2.out,fun _=>by simp only[];omega⟩,?_⟩
       simp only[];rw[kW];exact aN
      |succ f=>
       obtain⟨i1,i2⟩:=aC (by omega)
       refine aE ?_;have c6:=c5.out;refine DY ?_;refine gE ?_;have kW:(O++[lH js (p,c+1)]).length=f+1+1:=by rw[cP,hF];rfl
       refine sX (m'+6) (m'+9) (aA bC (O++[lH js (p,c+1)])) (rws:=aA bC O++[[zV 0,zV (js+16+(p:Int)),.own (m'+6) 0 (c+1)]]) (by simp(maxSteps:=2000000) (disch:=omega) only[go_sem, *]<;>exact rfl) (by simp(maxSteps:=2000000) (disch:=omega) only[go_sem, *]<;>exact rfl) (by omega) (MG rfl (by simp)) ?_
       refine aE ?_;refine⟨m'+80,(p+(c+1)+1,O++[lH js (p,c+1)],m'+9),by simp only[];omega,⟨⟨by omega,by simp only[];omega,by simp only[];rw[kW];omega⟩,e2.out,fun _=>by simp only[];omega⟩,?_⟩
       simp only[];rw[kW];exact aN
   ·have CG:¬((p+c:Nat):Int)<(n:Int):=by omega
    have pB:p+c=n\/L.getD (p+c) false=false:= .inl (by omega)
    replace pB:=aU.mk pB
    clear MH;cases c with
    |zero=>
     exact absurd g1 (by omega)
    |succ c=>
     have RJ:=WW (L:=L) (p:=p) (n:=c) (by omega) eT (by
      rcases pB.out with h|h
      ·exact .inl (by omega)
      ·exact .inr h)
     rw[RJ,jW]at e1
     have e2:(O++[lH js (p,c+1)])++(gN (L.drop (p+(c+1)+1)) (p+(c+1)+1)).map (lH js)=(gN L 0).map (lH js):=by
      rw[kA];exact e1
     clear e1 RJ eT;have c5:=c4.out (p:Int);have w6:IntKind.i64.wrap (IntKind.i64.wrap (js+16)+(p:Int))=js+16+(p:Int):=by rw[IntWalk.i64_in (js+16) (by omega),IntWalk.i64_in _ (by omega)]
     rw[w6]at c5;have w7:IntKind.i64.wrap ((p:Int)+((c+1:Nat):Int))=((p+(c+1):Nat):Int):=by rw[IntWalk.i64_in _ (by omega)];omega
     have w8:IntKind.i64.wrap (((p+(c+1):Nat):Int)+1)=((p+(c+1)+1:Nat):Int):=by rw[IntWalk.i64_in _ (by omega)];omega
     have hg5:(0:Int)<((c+1:Nat):Int):=by omega
     clear c4 w6
     replace e2:=aU.mk e2
     replace c5:=aU.mk c5
     cases hF:O.length with
     |zero=>
      have gJ:O=[]:=fI hF;subst gJ;refine aE ?_;have c6:=c5.out;refine DY ?_;refine gE ?_;have kW:([]++[lH js (p,c+1)]).length=1:=rfl;refine sX (m'+6) (m'+9) (aA bC ([]++[lH js (p,c+1)])) (rws:=aA bC []++[[zV 0,zV (js+16+(p:Int)),.own (m'+6) 0 (c+1)]]) (by simp(maxSteps:=2000000) (disch:=omega) only[go_sem, *]<;>exact rfl) (by simp(maxSteps:=2000000) (disch:=omega) only[go_sem, *]<;>exact rfl) (by omega) (MG rfl (by simp)) ?_
      refine aE ?_;refine⟨m'+80,(p+(c+1)+1,[]++[lH js (p,c+1)],m'+9),by simp only[];omega,⟨⟨by omega,by simp only[];omega,by simp only[];rw[kW];omega⟩,e2.out,fun _=>by simp only[];omega⟩,?_⟩
      simp only[];rw[kW];exact aN
     |succ f=>
      obtain⟨i1,i2⟩:=aC (by omega)
      refine aE ?_;have c6:=c5.out;refine DY ?_;refine gE ?_;have kW:(O++[lH js (p,c+1)]).length=f+1+1:=by rw[cP,hF];rfl
      refine sX (m'+6) (m'+9) (aA bC (O++[lH js (p,c+1)])) (rws:=aA bC O++[[zV 0,zV (js+16+(p:Int)),.own (m'+6) 0 (c+1)]]) (by simp(maxSteps:=2000000) (disch:=omega) only[go_sem, *]<;>exact rfl) (by simp(maxSteps:=2000000) (disch:=omega) only[go_sem, *]<;>exact rfl) (by omega) (MG rfl (by simp)) ?_
      refine aE ?_;refine⟨m'+80,(p+(c+1)+1,O++[lH js (p,c+1)],m'+9),by simp only[];omega,⟨⟨by omega,by simp only[];omega,by simp only[];rw[kW];omega⟩,e2.out,fun _=>by simp only[];omega⟩,?_⟩
      simp only[];rw[kW];exact aN
end Go.Proofs.YtioafciifiggaaaGreatDoor
namespace Go.Proofs.YtioafciifiggaaaGreatDoor
open Go.Proofs Go.AL
set_option maxRecDepth 100000
set_option maxHeartbeats 2000000
attribute [local irreducible] cB AW aX cZ dK hold
attribute [local irreducible] eV
structure G6(R:List Rec)(q:Int)(n:Nat):Prop where
 sum:(cS R).sum<=(n:Int)
 one:∀r∈R,2<=(r.cH.length+10)/4/\r.cH.length<=4096/\(∀x∈r.cH,aV x)
 len:2*R.length<=n
 cH:(R.map fun r=>r.cH.length).sum<=4*n
theorem Rg:∀(f:Nat) (l:List aY) (q:Int),(∀s∈l,eR s)->G6 (vA f l q).1 q l.length
 |0,l,q,_=>⟨by simp[vA,cS],fun r hr=>by simp[vA]at hr,by simp[vA],by simp[vA]⟩
 |f+1,l,q,hl=>by
  have h0:G6 [] q l.length:=⟨by simp[cS],fun r hr=>by simp at hr,by simp,by simp⟩
  unfold vA;split
  ·rename_i g
   rcases MA l hl with h|⟨h1,h2,h3,h4,h5,h6,h7,h8,h9⟩
   ·exact absurd g.2.1 h
   ·have ih:=Rg f (l.drop (fK l).2.1.toNat) (q+1) fun s hs=>hl s (l5 hs)
    rw[fX]at ih;generalize hS:(vA f (l.drop (fK l).2.1.toNat) (q+1)).1=S at*;simp only[];have oC:2<=((fK l).1.cH.length+10)/4:=by omega
    refine⟨?_,fun r hr=> ?_,?_,?_⟩
    ·have:=ih.sum
     unfold cS at this⊢;rw[jW,u9];omega
    ·rcases fB.1 hr with e|e
     ·subst e
      exact⟨oC,h4,h7⟩
     ·exact ih.one r e
    ·have:=ih.len
     rw[eI];omega
    ·have:=ih.cH
     rw[jW,u9];omega
  ·exact h0
theorem Dk(l:List aY)(q:Int)(hl:∀s∈l,eR s):G6 (mE l q).1 q l.length:=Rg _ l q hl
theorem RK:∀(l:List Int) (k:Nat),(∀x∈l,0<=x)->(l.take k).sum<=l.sum
 |[],k,_=>by simp
 |a::l,0,h=>by
  have:0<=l.sum:=by
   have:=RK l 0 (fun x hx=>h x (by simp[hx]))
   simpa using this
  have:=h a (by simp)
  simp only[wY,Jf,u9];omega
 |a::l,k+1,h=>by
  have:=RK l k (fun x hx=>h x (by simp[hx]))
  simp only[D5,u9];omega
theorem Dl:∀(l:List Nat) (k:Nat),(l.take k).sum<=l.sum
 |[],k=>by simp
 |a::l,0=>by simp
 |a::l,k+1=>by
  have:=Dl l k;simp only[D5,u9];omega
theorem G6.take{R:List Rec}{q:Int}{n:Nat}(h:G6 R q n)(k:Nat):G6 (R.take k) q n:=by
 refine⟨?_,fun r hr=>h.one r (qB hr),by have:=h.len;rw[eD];omega,?_⟩
 ·have h1:=h.sum
  have h2:=RK (cS R) k (fun x hx=>by
   unfold cS at hx;obtain⟨r,-,rfl⟩:=mS.1 hx
   omega)
  have h3:cS (R.take k)=(cS R).take k:=by unfold cS;rw[Jg]
  rw[h3];omega
 ·have h1:=h.cH
  have h2:=Dl (R.map fun r=>r.cH.length) k
  rw[Jg];omega
theorem Rh{C:List aY}{h n:Nat}(hn:C.length=n)(hh:h<=n):(List.range n).map (fun i=>C.getD ((h+i) % n) aO)=l9 C h:=by
 subst hn;apply BS;intro i;by_cases hi:i<C.length
 ·rw[iA,uD hi,pP]
  have h1:=aB9 hh hi;have h2:=DP hh;rw[<-h1,lC,fU (by omega)]
  rfl
 ·rw[ET (by simp;omega),ET (by rw[DP hh];omega)]
theorem RL{C:List aY}(hC:∀s∈C,eR s)(h:Nat):∀s∈l9 C h,eR s:=fun s hs=>by
 unfold l9 at hs;rcases BR.1 hs with e|e
 ·exact hC s (l5 e)
 ·exact hC s (qB e)
theorem aH5{a c h f:Int}{R:List Rec}{n:Nat}(hv:lV a c=true)(hc:c-16=(n:Int))(h0:0<=h)(h1:h<(n:Int))(f1:1<=f)(f2:f+(R.length:Int)<=1073741824)(hR:G6 R f n):jE (oE a c h f R)=0:=by
 unfold oE jE;simp only[];have hl:(cS R).length=R.length:=by unfold cS;rw[mJ]
 have hs:=hR.sum;have h2:=hR.len;rw[hv,hl];rw[if_neg (by rintro(e|e|e|e|e|e)<;>first|exact absurd e (by decide)|omega)]
 have hb:(cS R).any wA=false:=by
  rw[TV];intro x hx;unfold cS at hx;obtain⟨r,hr,rfl⟩:=mS.1 hx;obtain⟨h3,h4,-⟩:=hR.one r hr;unfold wA;simp only[ES,decide_eq_true_eq,not_or];omega
 rw[hb,if_neg (by decide),if_neg (by omega)]
theorem aH6(j:Jr)(u:Int)(hl:j.cD.length<=100000):PC 86 [.agg (encS j u)] (.agg (eG j)):=by
 refine aT Tryz.func86 Tryz.ntmps86 (by simp only[go_sem,eG]) ?_
 obtain⟨js,jc,jh,jt,jf,jz⟩:=j;unfold encS eG;simp only[]at*;by_cases M5:jz=[]
 ·subst M5
  refine aE ?_;exact nE
 ·have aM:=rS M5
  have hjt:jz.take jz.length=jz:=l4;refine aE ?_;exact nE
end Go.Proofs.YtioafciifiggaaaGreatDoor
