/- Staging. No condition. -/
import Derived.Test.YtioafciifiggaaaGreatDoorL0
import Derived.Test.YtioafciifiggaaaGreatDoorAzp
import Derived.Test.YtioafciifiggaaaGreatDoorAzo
import Derived.Test.YtioafciifiggaaaGreatDoorAze
import Derived.Test.YtioafciifiggaaaGreatDoorAzd
set_option linter.all false
namespace Go.Proofs.YtioafciifiggaaaGreatDoor
open Go.Proofs Go.AL
set_option maxRecDepth 100000
set_option maxHeartbeats 1000000
attribute [local irreducible] cB AW aX cZ dK hold
attribute [local irreducible] eV
theorem fD.args{P:Program}{n:FuncId}{args Ru:List AV}{Q:AV->Prop}(h:fD P n Ru Q)(hw:zK args Ru):fD P n args Q:=
 ⟨h.1,fun L W vs hL hr=>h.2 L W vs hL ⟨by rw[<-hw.1];exact hr.1,fun i y v h1 h2=>by
   have hi:i<args.length:=by
    have:=(dS.1 h1).1;have:=hw.1;omega
   exact(hr.2 i _ v (fU hi) h2).wk (hw.2 i _ y (fU hi) h1)⟩⟩
theorem Ea{d:fJ}{a c:Int}(hk:∀s∈iK d.st d.ca,eR s)(h:(jV d a c).2=0):∃n f,n<=4080/\G6 (jV d a c).1.2.1 f n:=by
 unfold jV at h⊢;split at h
 ·rename_i g0
  rw[if_pos g0];split at h
  ·rename_i g1
   rw[if_pos g1];split at h
   ·rename_i g2
    rw[if_pos g2];obtain⟨h0,h1,f1,f2⟩:=Dm (a:=a) (c:=c) hk g2;have hv:=yW g1.1;obtain⟨n,hn⟩:∃n:Nat,c-16=n:=⟨(c-16).toNat,by omega⟩
    obtain⟨hC,oF,cW⟩:=Dn g1.1 g1.2 hk hn;have AY:=Dk (l9 (qK d a c) (gZ d a c).1.1.toNat) (gZ d a c).1.2 (RL oF _);rw[DP (by omega),hC]at AY
    exact⟨n,_,by omega,AY.take _⟩
   ·rename_i g2
    exact absurd h g2
  ·exact absurd h (by decide)
 ·rename_i g0
  exact absurd h g0
def CM(R:List Rec)(i:Nat):Nat:=i+((R.take i).map fun r=>r.cH.length).sum
theorem Rv{R:List Rec}{i:Nat}(h:i<R.length):CM R (i+1)=CM R i+1+(R.getD i cQ).cH.length:=by
 unfold CM;rw[List.take_add_one,yO,Yl,fU h,lC,fU h];simp only[Option.toList_some,jW,sM,u9,Jf,qR];omega
theorem Rw{R:List Rec}{i:Nat}(h:i<=R.length):CM R i<=R.length+(R.map fun r=>r.cH.length).sum:=by
 unfold CM;have:=Dl (R.map fun r=>r.cH.length) i
 rw[<-Jg]at this;omega
theorem Rx{R:List Rec}{i:Nat}{l:List bI}{m:Nat}(h:i<R.length):vB (R.drop i) l m=if nL (R.getD i cQ)=true then vB (R.drop (i+1)) (iY l (R.getD i cQ)).1 (max m (iY l (R.getD i cQ)).1.length)else(([],0),3):=by
 rw[tL cQ h]
 show(if(iY l (R.getD i cQ)).2=0 then vB (R.drop (i+1)) (iY l (R.getD i cQ)).1 (max m (iY l (R.getD i cQ)).1.length)else(([],0),(iY l (R.getD i cQ)).2))=_
 rw[Cx];by_cases k:nL (R.getD i cQ)=true
 ·rw[if_pos k,if_pos k,if_pos rfl]
 ·rw[if_neg k,if_neg k,if_neg (by decide)]
theorem Ry{R:List Rec}{l:List bI}{m:Nat}:vB (R.drop R.length) l m=((l,m),0):=by
 rw[wZ];rfl
set_option maxHeartbeats 8000000
theorem aK1(d:fJ)(a c:Int)(hs:d.st.length<=1000000)(h2:d.ca.length<=1000000)(hk:∀s∈iK d.st d.ca,eR s):PC 16 [.agg (dI d),.agg [zV a,zV c]] (.aR [.agg (fO (tR d a c).1),.snap (aA bC (tR d a c).2.1),zV (tR d a c).2.2]):=by
 refine uH Tryz.func16 Tryz.ntmps16 (by simp only[go_sem,fO]) ?_
 have c0:=aH8 d a c hs h2 hk;obtain⟨M,hM⟩:∃M,tR d a c=M:=⟨_,rfl⟩;rw[hM];unfold tR at hM;by_cases g0:(jV d a c).2=0
 case neg=>
  rw[if_neg g0]at hM;subst hM;generalize jV d a c=J at*;obtain⟨⟨j,R,O⟩,e⟩:=J;obtain⟨js,jc,jh,jt,jf,jz⟩:=j;simp only[]at*;have gx:(e !=0)=true:=by simpa using g0
  obtain⟨st,ca⟩:=d;unfold eG dI fO nI l7 at*;simp only[]at*;clear hk g0;refine aE ?_;exact nE
 rw[if_pos g0]at hM;obtain⟨n,f,hn,hR⟩:=Ea hk g0;rw[g0]at c0;generalize jV d a c=J at*;obtain⟨⟨j,R,O⟩,e⟩:=J;simp only[]at*;have CE:=hR.len;have zI:=hR.cH;have fF:aU (∀i,i<R.length->(R.getD i cQ).cH.length<=4096/\∀x∈(R.getD i cQ).cH,aV x):=⟨fun i hi=>(hR.one _ (dC cQ hi)).2⟩
 have oU:aU (∀k,k<R.length->(aA dN R)[k]? =some (dN (R.getD k cQ))):=⟨fun k hk=>pQ cQ hk⟩
 obtain⟨js,jc,jh,jt,jf,jz⟩:=j;obtain⟨st,ca⟩:=d;unfold eG dI fO at*;simp only[]at*;clear hk g0 hR
 replace hM:=aU.mk hM
 refine aE ?_;refine Dv (rws:=[[.c (.slice none 0 0),.c (.int .i64 0)]]) 5 [[.snap (aA cG []),zV 0]] (vV (iO .nil (iO (.refl _) sP)) yS) ?_
 refine dP (α:=List bI×Nat) R.length (fun i _=> [(31,true,zV i),(30,true,zV R.length),(29,true,.snap (aA dN R)),(11,true,.ptr 5 0 0),(9,true,.snap (aA bC O)),(7,true,.ptr 3 0 0),(6,true,.c (.int .i64 0)),(5,true,.c (.slice none 0 0)),(4,true,.ptr 2 0 0)])
  (fun i x=>(2,some (.cells 33 7 [[.c (.int .i64 0),.c (.int .i64 0),.c (.int .i64 0),.c (.int .i64 0),.c (.int .i64 0),.c (.slice none 0 0),.c (.slice none 0 0)]] true false))::(3,some (.cells 30 6 [[zV js,zV jc,zV jh,zV jt,zV jf,.snap (aA bA jz)]] true false))::(5,some (.cells 109 2 [[.snap (aA cG x.1),zV x.2]] true false))::[])
  (fun i m2 x=>6<=m2/\nU x.1 (CM R i)/\vB (R.drop i) x.1 x.2=vB R [] 0) ⟨100,([],0),⟨by omega,nU.nil,rfl⟩,aN⟩ (fun i m2 x hi bK=> ?_) (fun m2 x bK=> ?_)
 ·obtain⟨l,m⟩:=x
  obtain⟨nD,hA,aP⟩:=bK;simp only[]at hA aP⊢;have DD:=Rw (R:=R) (i:=i) (by omega)
  have X6:CM R i<=90000:=by omega
  obtain⟨j9,B5⟩:=fF.out i hi;have hg:=oU.out i hi;have eW:=Rx (l:=l) (m:=m) hi;rw[aP]at eW;have lE:=Rv hi;have fS:=hM.out;by_cases ho:nL (R.getD i cQ)=true
  ·rw[if_pos ho]at eW
   have c1:=aJ7 l m (R.getD i cQ) (CM R i) hA X6 B5 j9 ho 5;have hB:=Dh hA (r:=R.getD i cQ) B5;rw[<-lE]at hB;generalize hX:(iY l (R.getD i cQ)).1=X at*
   replace eW:=aU.mk eW
   replace hB:=aU.mk hB
   generalize R.getD i cQ=r at*;obtain⟨rk,rq,p⟩:=r;have zB:dN ⟨rk,rq,p⟩=[zV rk,zV rq,.snap (aA aH p)]:=rfl;rw[zB]at hg c1;clear zB;unfold pM at c1;clear fF oU j9 B5 hA aP fS hX ho c0;refine bO ?_;refine⟨m2+700,(X,max m X.length),⟨by omega,hB.out,eW.out.symm⟩,?_⟩
   simp only[];exact aN
  ·rw[if_neg ho]at eW
   have c1:=aJ9 l m (R.getD i cQ) B5 j9 (by simpa using ho) 5
   rw[eW,if_neg (by decide)]at fS
   simp only[]at fS;subst fS;generalize R.getD i cQ=r at*;obtain⟨rk,rq,p⟩:=r;have zB:dN ⟨rk,rq,p⟩=[zV rk,zV rq,.snap (aA aH p)]:=rfl;rw[zB]at hg c1;clear zB;unfold pM at c1;unfold nI l7;simp only[];clear fF oU j9 B5 hA aP ho c0 hM eW;refine bO ?_;exact nE
 ·obtain⟨l,m⟩:=x
  obtain⟨nD,hA,aP⟩:=bK;simp only[]at hA aP⊢;have fS:=hM.out;rw[<-aP,Ry,if_pos rfl]at fS;simp only[]at fS;by_cases g1:1024<m
  ·rw[if_pos g1]at fS
   subst fS;have xY:(m:Int)>1024:=by omega
   unfold nI l7;simp only[];clear fF oU hA aP c0 hM;refine aE ?_;exact nE
  ·rw[if_neg g1]at fS
   subst fS;have xY:¬(m:Int)>1024:=by omega
   simp only[];clear fF oU hA aP c0 hM;refine aE ?_;exact nE
def E5(rows:List (List AV)):Nat->AV
 |0=> .c (.slice none 0 0)
 |_+1=> .snap rows
theorem aK2(d:fJ)(a c:Int)(hs:d.st.length<=1000000)(h2:d.ca.length<=1000000)(hk:∀s∈iK d.st d.ca,eR s):PC 17 [.agg (dI d),.agg [zV a,zV c]] (.aR [.agg (fO (tR d a c).1),.snap (aA bC (tR d a c).2.1),zV (tR d a c).2.2]):=by
 refine uH Tryz.func17 Tryz.ntmps17 (by simp only[go_sem,fO]) ?_
 have c0:=aJ0 d a c hs h2 hk;obtain⟨M,hM⟩:∃M,tR d a c=M:=⟨_,rfl⟩;rw[hM];unfold tR at hM;by_cases g0:(jV d a c).2=0
 case neg=>
  rw[if_neg g0]at hM;subst hM;generalize jV d a c=J at*;obtain⟨⟨j,R,O⟩,e⟩:=J;obtain⟨js,jc,jh,jt,jf,jz⟩:=j;simp only[]at*;have gx:(e !=0)=true:=by simpa using g0
  obtain⟨st,ca⟩:=d;unfold eG dI fO nI l7 at*;simp only[]at*;clear hk g0;refine aE ?_;exact nE
 rw[if_pos g0]at hM;obtain⟨n,f,hn,hR⟩:=Ea hk g0;rw[g0]at c0;generalize jV d a c=J at*;obtain⟨⟨j,R,O⟩,e⟩:=J;simp only[]at*;have CE:=hR.len;have zI:=hR.cH;have fF:aU (∀i,i<R.length->(R.getD i cQ).cH.length<=4096/\∀x∈(R.getD i cQ).cH,aV x):=⟨fun i hi=>(hR.one _ (dC cQ hi)).2⟩
 have oU:aU (∀k,k<R.length->(aA dN R)[k]? =some (dN (R.getD k cQ))):=⟨fun k hk=>pQ cQ hk⟩
 obtain⟨js,jc,jh,jt,jf,jz⟩:=j;obtain⟨st,ca⟩:=d;unfold eG dI fO at*;simp only[]at*;clear hk g0 hR
 replace hM:=aU.mk hM
 refine aE ?_
 refine dP (α:=List bI×Nat) R.length (fun i x=> [(13,true,zV i),(12,true,zV x.2),(11,true,E5 (aA cG x.1) i),(8,true,.snap (aA dN R)),(9,true,.snap (aA bC O)),(7,true,.ptr 3 0 0),(6,true,.c (.int .i64 0)),(5,true,.c (.slice none 0 0)),(4,true,.ptr 2 0 0)])
  (fun i x=>(2,some (.cells 33 7 [[.c (.int .i64 0),.c (.int .i64 0),.c (.int .i64 0),.c (.int .i64 0),.c (.int .i64 0),.c (.slice none 0 0),.c (.slice none 0 0)]] true false))::(3,some (.cells 30 6 [[zV js,zV jc,zV jh,zV jt,zV jf,.snap (aA bA jz)]] true false))::[])
  (fun i m2 x=>4<=m2/\nU x.1 (CM R i)/\vB (R.drop i) x.1 x.2=vB R [] 0/\(i=0->x.1=[])) ⟨100,([],0),⟨by omega,nU.nil,rfl,fun _=>rfl⟩,aN⟩ (fun i m2 x hi bK=> ?_) (fun m2 x bK=> ?_)
 ·obtain⟨l,m⟩:=x
  obtain⟨nD,hA,aP,h0⟩:=bK;simp only[]at hA aP h0⊢;have DD:=Rw (R:=R) (i:=i) (by omega)
  have X6:CM R i<=90000:=by omega
  obtain⟨j9,B5⟩:=fF.out i hi;have hg:=oU.out i hi;have eW:=Rx (l:=l) (m:=m) hi;rw[aP]at eW;have lE:=Rv hi;have fS:=hM.out
  have c1:PC 51 [E5 (aA cG l) i,.agg (dN (R.getD i cQ))] (.aR [.snap (aA cG (RU l (R.getD i cQ))),zV (iY l (R.getD i cQ)).2]):=by
   cases i with
   |zero=>
    have h:=Rt l (R.getD 0 cQ) _ hA X6 B5 j9;rw[h0 rfl]at h⊢;exact fD.args h (iO .nil (iO (.refl _) sP))
   |succ i=>exact Rt l (R.getD (i+1) cQ) _ hA X6 B5 j9
  rw[Cx]at c1;unfold RU at c1;by_cases ho:nL (R.getD i cQ)=true
  ·rw[if_pos ho]at eW
   rw[if_pos ho,if_pos ho]at c1;have hB:=Dh hA (r:=R.getD i cQ) B5;rw[<-lE]at hB;have hmx:(if((iY l (R.getD i cQ)).1.length:Int)>(m:Int)then((iY l (R.getD i cQ)).1.length:Int)else(m:Int))=((max m (iY l (R.getD i cQ)).1.length:Nat):Int):=by split<;>omega
   generalize hX:(iY l (R.getD i cQ)).1=X at*
   replace eW:=aU.mk eW
   replace hB:=aU.mk hB
   generalize R.getD i cQ=r at*;obtain⟨rk,rq,p⟩:=r;have zB:dN ⟨rk,rq,p⟩=[zV rk,zV rq,.snap (aA aH p)]:=rfl;rw[zB]at hg c1;clear zB;clear fF oU j9 B5 hA aP fS hX ho c0 h0;cases i with
   |zero=>
    simp only[E5]at c1⊢;refine aE ?_;refine⟨m2+700,(X,max m X.length),⟨by omega,hB.out,eW.out.symm,fun h=>absurd h (by omega)⟩,?_⟩
    exact aN
   |succ i=>
    simp only[E5]at c1⊢;refine aE ?_;refine⟨m2+700,(X,max m X.length),⟨by omega,hB.out,eW.out.symm,fun h=>absurd h (by omega)⟩,?_⟩
    exact aN
  ·rw[if_neg ho]at eW
   rw[if_neg ho,if_neg ho]at c1;rw[eW,if_neg (by decide)]at fS
   simp only[]at fS;subst fS;generalize R.getD i cQ=r at*;generalize (if r.kind=2 then l else [])=X at*
   obtain⟨rk,rq,p⟩:=r;have zB:dN ⟨rk,rq,p⟩=[zV rk,zV rq,.snap (aA aH p)]:=rfl;rw[zB]at hg c1;clear zB;unfold nI l7;simp only[];clear fF oU j9 B5 hA aP ho c0 hM eW h0;cases i with
   |zero=>
    simp only[E5]at c1⊢;refine aE ?_;exact nE
   |succ i=>
    simp only[E5]at c1⊢;refine aE ?_;exact nE
 ·obtain⟨l,m⟩:=x
  obtain⟨nD,hA,aP,h0⟩:=bK;simp only[]at hA aP h0⊢;have fS:=hM.out;rw[<-aP,Ry,if_pos rfl]at fS;simp only[]at fS;by_cases g1:1024<m
  ·rw[if_pos g1]at fS
   subst fS;have xY:(m:Int)>1024:=by omega
   unfold nI l7;simp only[];generalize E5 (aA cG l) R.length=SL at*;clear fF oU hA aP c0 hM h0;refine aE ?_;exact nE
  ·rw[if_neg g1]at fS
   subst fS;have xY:¬(m:Int)>1024:=by omega
   simp only[];cases CL:R.length with
   |zero=>
    rw[h0 CL];simp only[E5];clear fF oU hA aP c0 hM h0;refine aE ?_;exact nE
   |succ k=>
    simp only[E5];clear fF oU hA aP c0 hM h0;refine aE ?_;exact nE
set_option maxHeartbeats 1000000
theorem Eb:∀(l:List Bool) (p:Nat),(gN l p).length<=l.length/\∀x∈gN l p,x.2<=l.length
 |[],p=>⟨by simp[gN],fun x h=>by simp[gN]at h⟩
 |false::l,p=>by
  obtain⟨h1,h2⟩:=Eb l (p+1);rw[Px];exact⟨by simp only[eI];omega,fun x hx=>by have:=h2 x hx;simp only[eI];omega⟩
 |true::l,p=>by
  obtain⟨h1,h2⟩:=Eb l (p+1);rw[WN];cases hr:gN l (p+1)with
  |nil=>exact⟨by simp,fun x hx=>by simp only[fB,mR,or_false]at hx;subst hx;simp⟩
  |cons y r=>
   rw[hr]at h1 h2;obtain⟨q,n⟩:=y;have hy:=h2 (q,n) (by simp)
   simp only[eI]at h1 hy⊢;split
   ·refine⟨by simp only[eI];omega,fun x hx=> ?_⟩
    rcases fB.1 hx with rfl|hx
    ·simp only[];omega
    ·have:=h2 x (by simp[hx])
     omega
   ·refine⟨by simp only[eI];omega,fun x hx=> ?_⟩
    rcases fB.1 hx with rfl|hx
    ·simp only[];omega
    ·have:=h2 x hx
     omega
theorem aK3(a:Int)(L:List Bool):(MB a L).length<=L.length+1/\∀w∈MB a L,w.2.2.length<=L.length:=by
 obtain⟨h1,h2⟩:=Eb L 0;rw[Dj];refine⟨?_,fun w hw=> ?_⟩
 ·rw[cP,mJ]
  split<;>simp<;>omega
 ·rcases BR.1 hw with h|h
  ·obtain⟨r,hr,rfl⟩:=mS.1 h
   have:=h2 r hr;simp only[lH,BO];exact this
  ·split at h
   ·simp at h
   ·simp only[fB,mR,or_false]at h
    subst h;simp
theorem Rz:∀(R:List Rec) (l:List bI) (m n:Nat),nU l n->(∀r∈R,∀y∈r.cH,aV y)->nU (vB R l m).1.1 (n+R.length+(R.map fun r=>r.cH.length).sum)
 |[],l,m,n,h,_=>by
  show nU l _
  exact h.mono (by simp)
 |r::R,l,m,n,h,hb=>by
  have h1:=Dh h (r:=r) (hb r (by simp))
  have h2:=Rz R (iY l r).1 (max m (iY l r).1.length) _ h1 (fun x hx=>hb x (by simp[hx]))
  show nU (if(iY l r).2=0 then vB R (iY l r).1 (max m (iY l r).1.length)else(([],0),(iY l r).2)).1.1 _
  split
  ·refine h2.mono ?_
   simp only[eI,jW,u9];omega
  ·exact nU.nil.mono (mT _)
theorem aK4{d:fJ}{a c:Int}(h:(jV d a c).2=0):(jV d a c).1.1.cD.length=(jV d a c).1.2.1.length/\(jV d a c).1.2.2.length<=d.st.length+1/\∀w∈(jV d a c).1.2.2,w.2.2.length<=d.st.length:=by
 unfold jV at h⊢;split at h
 ·rename_i g0
  rw[if_pos g0];split at h
  ·rename_i g1
   rw[if_pos g1];split at h
   ·rename_i g2
    rw[if_pos g2];simp only[]
    have hl:∀u q,(xW (qK d a c) (c-16) (gZ d a c).1.1 u q).length<=d.st.length:=fun u q=>by
     unfold xW;rw[mJ,UA];unfold qK;rw[eD,fX,A3];omega
    have h9:=aK3 a (xW (qK d a c) (c-16) (gZ d a c).1.1 (cS (zD (qK d a c) (gZ d a c).1.1 (gZ d a c).1.2)).sum ((gZ d a c).1.2+(zD (qK d a c) (gZ d a c).1.1 (gZ d a c).1.2).length));have h8:=hl (cS (zD (qK d a c) (gZ d a c).1.1 (gZ d a c).1.2)).sum ((gZ d a c).1.2+(zD (qK d a c) (gZ d a c).1.1 (gZ d a c).1.2).length);refine⟨?_,by have:=h9.1;omega,fun w hw=>by have:=h9.2 w hw;omega⟩
    show(cS _).length=_
    unfold cS;rw[mJ]
   ·rename_i g2
    exact absurd h g2
  ·exact absurd h (by decide)
 ·rename_i g0
  exact absurd h g0
structure Ec(s:l8)(o:List iC):Prop where
 cD:s.j.cD.length<=1000000
 cN:s.cN.length<=1000000
 one:∀x∈s.cN,WK x
 ops:o.length<=1000000
 data:∀w∈o,w.2.2.length<=1000000
theorem X7:Ec nI []:=⟨by simp[nI,l7],by simp[nI],fun x hx=>by simp[nI]at hx,by simp,fun w hw=>by simp at hw⟩
theorem aK5(d:fJ)(a c:Int)(hs:d.st.length<=900000)(hk:∀s∈iK d.st d.ca,eR s):Ec (tR d a c).1 (tR d a c).2.1:=by
 unfold tR;split
 ·rename_i g0
  obtain⟨n,f,hn,hR⟩:=Ea hk g0;obtain⟨o1,o2,o3⟩:=aK4 g0;split
  ·split
   ·exact X7
   ·have hA:=Rz (jV d a c).1.2.1 [] 0 0 nU.nil (fun r hr=>(hR.one r hr).2.2)
    have hl:=hR.len;have hp:=hR.cH;refine⟨?_,?_,fun x hx=> ?_,by simp only[];omega,fun w hw=>by have:=o3 w hw;omega⟩
    ·simp only[];omega
    ·have:=hA.len
     simp only[];omega
    ·exact((hA.one x hx).RE (by omega)).l2
  ·exact X7
 ·exact X7
theorem aK6(a:Int)(p:List Int):(rY a p).1.length<=10/\∀w∈(rY a p).1,w.2.2.length<=2000:=by
 have h0:([]:List iC).length<=10/\∀w∈([]:List iC),w.2.2.length<=2000:=⟨by simp,fun w hw=>by simp at hw⟩
 unfold rY;split
 ·exact h0
 ·split
  ·exact h0
  ·refine⟨by simp,fun w hw=> ?_⟩
   simp only[fB,mR,or_false]at hw;rcases hw with rfl|rfl|rfl|rfl<;>simp[D8,UQ]
theorem aK7(a c:Int):Ec (r7 a c).1 (r7 a c).2.1:=by
 unfold r7;split
 ·rename_i g0
  unfold sV at g0⊢;split at g0
  ·rename_i g1
   rw[if_pos g1];split at g0
   ·rename_i g2
    rw[if_pos g2];have hv:=yW g1;obtain⟨o1,o2⟩:=aK6 a (b9 0++b9 1);refine⟨by simp,by simp,fun x hx=>by simp at hx,by simp only[cP,eI,gL];omega,fun w hw=> ?_⟩
    rcases BR.1 hw with h|h
    ·simp only[fB,mR,or_false]at h
     rcases h with rfl|rfl
     ·simp only[rQ,BO];omega
     ·simp
    ·have:=o2 w h
     omega
   ·rename_i g2
    exact absurd g0 g2
  ·exact absurd g0 (by decide)
 ·exact X7
set_option maxHeartbeats 8000000
theorem aK8(d:fJ)(a c:Int)(hd:UW d)(h1:d.st.length<=9223372036854775807)(h2:d.ca.length<=9223372036854775807):PC 4 [.agg (dI d),.agg [zV a,zV c]] (bV true):=by
 refine aT Tryz.func4 Tryz.ntmps4 (.c _) ?_;have c9:=az3;have c0:=ah8 d h1 h2;cases hf:LG d with
 |false=>
  rw[hf]at c0;clear hd;obtain⟨st,ca⟩:=d;unfold dI at*;simp only[]at*;refine aE ?_;exact aB
 |true=>
  rw[hf]at c0;obtain⟨f1,f2⟩:=aC1 hf;by_cases g1:c>400/\c<4096
  ·obtain⟨k1,k2⟩:=g1
   clear hd;obtain⟨st,ca⟩:=d;unfold dI at*;simp only[]at*;refine aE ?_;exact aB
  ·have c2:=Pj a c
   have c3:=aD0 a c;have c4:=aK1 d a c (by omega) (by omega) hd.new
   have c5:=aK2 d a c (by omega) (by omega) hd.new
   have ho:=aK7 a c;have hp:=aK5 d a c (by omega) hd.new
   have c6:=Ph (r7 a c).1 ho.cD ho.cN ho.one;have c7:=Kz (r7 a c).2.1 ho.ops ho.data;have c8:=Ph (tR d a c).1 hp.cD hp.cN hp.one;have v8:=Kz (tR d a c).2.1 hp.ops hp.data;clear hf hd ho hp;generalize r7 a c=A at*;generalize tR d a c=B at*;obtain⟨⟨⟨X5,ac,ah,at_,af,az⟩,al⟩,ao,ae⟩:=A;obtain⟨⟨⟨bs,bc,bh,bt,bf,bz⟩,bl⟩,bo,be⟩:=B;obtain⟨st,ca⟩:=d;unfold fO dI at*
   simp only[]at*;obtain⟨d1,r8⟩:=gD ae;obtain⟨d2,wG⟩:=gD be;by_cases k1:c>400
   ·have k2:¬c<4096:=fun h=>g1 ⟨k1,h⟩
    clear g1;refine aE ?_;exact aB
   ·clear g1
    refine aE ?_;exact aB
end Go.Proofs.YtioafciifiggaaaGreatDoor
