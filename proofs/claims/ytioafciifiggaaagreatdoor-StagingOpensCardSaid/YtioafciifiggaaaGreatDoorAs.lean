/- Staging. No condition. -/
import Derived.Test.YtioafciifiggaaaGreatDoorL0
import Derived.Test.YtioafciifiggaaaGreatDoorAr
import Derived.Test.YtioafciifiggaaaGreatDoorLg
set_option linter.all false
namespace Go.Proofs.YtioafciifiggaaaGreatDoor
open Go.Proofs Go.AL
set_option maxRecDepth 100000
set_option maxHeartbeats 4000000
attribute [local irreducible] cB AW aX cZ dK hold
attribute [local irreducible] eV
theorem Mv{j:Jr}{p:Option Int}{own:List Int}{x:bI}{l:List bI}(h:uT j p own (x::l)=true):uR j x=true/\(∀n,p=some n->n<x.number)/\uT j (some x.number) (own++x.records) l=true:=by
 rw[Mk]at h;by_cases g1:uR j x=true
 ·rw[if_pos g1]at h
  by_cases g3:x.records.any (fun n=>own.contains n)=true
  ·exfalso
   rw[if_pos g3]at h;split at h<;>exact absurd h (by simp)
  ·rw[if_neg g3]at h
   cases p with
   |none=>exact⟨g1,fun n hn=>by simp at hn,by simpa using h⟩
   |some n=>
    by_cases g2:x.number<=n
    ·rw[if_pos (by simpa using g2)]at h
     exact absurd h (by decide)
    ·rw[if_neg (by simpa using g2)]at h
     exact⟨g1,fun n' hn=>by injection hn with hn;omega,h⟩
 ·rw[if_neg g1]at h
  exact absurd h (by decide)
theorem Mw(j:Jr):∀(l:List bI) (p:Option Int) (own:List Int),uT j p own l=true->l.Pairwise (fun a b=>a.number<b.number)/\∀n,p=some n->∀x∈l,n<x.number
 |[],_,_,_=>⟨List.Pairwise.nil,fun _ _ x hx=>absurd hx (by simp)⟩
 |x::l,p,own,h=>by
  obtain⟨-,h0,h⟩:=Mv h;obtain⟨h1,h2⟩:=Mw j l _ _ h;have h3:=h2 _ rfl;refine⟨List.Pairwise.cons h3 h1,fun n hp y hy=> ?_⟩
  have h4:=h0 n hp;rcases fB.1 hy with rfl|hy
  ·exact h4
  ·have:=h3 y hy
   omega
theorem Bg{j:Jr}{l:List bI}(h:uT j none [] l=true):DG l:=fun i k fE hk=>by
 have h1:=Z0.1 (Mw j l none [] h).1 i k (by omega) hk fE
 have h2:l.getD i b8=l[i]:=by simp[show i<l.length by omega]
 have h3:l.getD k b8=l[k]:=by simp[hk]
 rw[h2,h3];exact h1
theorem Bh(j:Jr):∀(l:List bI) (p:Option Int) (own:List Int),uT j p own l=true->∀x∈l,uR j x=true
 |[],_,_,_=>fun x hx=>absurd hx (by simp)
 |x::l,p,own,h=>by
  obtain⟨g1,-,h⟩:=Mv h;intro y hy;rcases fB.1 hy with rfl|hy
  ·exact g1
  ·exact Bh j l _ _ h y hy
def I5(l:List bI)(n:Int):Int:=if iW l n=true then(bE l n:Int)else-1
theorem Bi(l:List bI)(n:Int)(hs:DG l)(hl:l.length<=100000):PC 122 [.snap (aA cG l),zV n] (zV (I5 l n)):=by
 refine aT Tryz.func122 Tryz.ntmps122 (.c _) ?_;have hg:=uP l;obtain⟨M,hM⟩:∃M,I5 l n=M:=⟨_,rfl⟩;rw[hM];refine aD ?_;refine dP (α:=Unit) l.length (fun k _=> [(5,true,zV k),(1,true,zV n),(0,true,.snap (aA cG l))]) (fun _ _=> []) (fun k m _=>∀i,i<k->(l.getD i b8).number≠n) ⟨100,(),(fun i hi=>absurd hi (by omega)),aN⟩ (fun k m _ hk hR=> ?_) (fun m _ hR=> ?_)
 ·have cV:=hg k hk
  rw[iP]at cV;clear hg;by_cases g:(l.getD k b8).number=n
  ·have h1:bE l n=k:=by
    rcases TZ (bE l n) k with h|h|h
    ·have h4:=QG hs (cA (bE l n)) (by omega)
     have h5:=hs _ _ h hk;omega
    ·exact h
    ·have:=QF h
     omega
   have h2:iW l n=true:=by
    unfold iW;rw[h1,g];simp[hk]
   unfold I5 at hM;rw[if_pos h2,h1]at hM;subst hM;have hd:((l.getD k b8).number==n)=true:=by simpa using g
   clear hR h1 h2 hs g;refine aD ?_;exact aB
  ·have bK:aU (∀i,i<k+1->(l.getD i b8).number≠n):=⟨fun i hi=>by
    rcases lU i k with h1|h1
    ·exact hR i h1
    ·rw[show i=k by omega];exact g⟩
   have hd:((l.getD k b8).number==n)=false:=by simpa using g
   clear hR g hM hs;refine aD ?_;exact⟨m,(),bK.out,aN⟩
 ·have h1:¬iW l n=true:=fun h=>by
   unfold iW at h;rw[jX,decide_eq_true_eq,decide_eq_true_eq]at h;exact hR _ h.1 h.2
  unfold I5 at hM;rw[if_neg h1]at hM;subst hM;clear hR h1 hs hg;refine aD ?_;exact aB
def I6(s:l8)(n:Int):oO×Int:=
 if s7 s=0 then
  if iW s.cN n=true then
   if(s.cN.getD (bE s.cN n) b8).closed=true then oA (bF (s.cN.getD (bE s.cN n) b8))else(p9,12)
  else(p9,7)
 else(p9,s7 s)
def VN(s:l8):List Int:=if s7 s=0 then(s.cN.filter bI.closed).map bI.number else []
theorem Bj{s:l8}(h:s7 s=0):jE s.j=0/\s.cN.length<=1024/\uT s.j none [] s.cN=true:=by
 unfold s7 at h;by_cases g1:jE s.j=0
 ·rw[if_pos g1]at h
  by_cases g2:1024<s.cN.length
  ·rw[if_pos g2]at h;exact absurd h (by decide)
  ·rw[if_neg g2]at h
   by_cases g3:uT s.j none [] s.cN=true
   ·exact⟨g1,by omega,g3⟩
   ·rw[if_neg g3]at h;exact absurd h (by decide)
 ·rw[if_neg g1]at h;exact absurd h g1
theorem yZ{l:List bI}{n:Int}(h:iW l n=true):bE l n<l.length/\(l.getD (bE l n) b8).number=n:=by
 unfold iW at h;rw[jX,decide_eq_true_eq,decide_eq_true_eq]at h;exact h
theorem Mx(s:l8)(n:Int)(hs:xI s):PC 31 [.agg (fO s),zV n] (.aR [.agg (gT (I6 s n).1),zV (I6 s n).2]):=by
 refine aT Tryz.func31 Tryz.ntmps31 (by simp only[go_sem,gT]) ?_
 have c1:=VL s hs;have Ak:gT p9=[zV 0,zV 0,zV 0,.snap (aA bA []),.snap (aA bC [])]:=rfl;obtain⟨M,hM⟩:∃M,I6 s n=M:=⟨_,rfl⟩;rw[hM];unfold I6 at hM;have hG:= @Bj s;have eM:=hs.one;have hl:=hs.cN;clear hs;obtain⟨j,l⟩:=s;unfold fO at*;simp only[]at*;generalize s7 ⟨j,l⟩=e at*;by_cases g1:e=0
 case neg=>
  rw[if_neg g1]at hM;subst hM;clear hG eM;refine aD ?_;exact aB
 rw[if_pos g1]at hM;obtain⟨-,-,h3⟩:=hG g1;have hs:=Bg h3;subst g1;have c2:=LP l n hs hl;clear hG h3 hs;have hg:=uP l;by_cases g2:iW l n=true
 case neg=>
  rw[if_neg g2]at hM;subst hM;have CB:iW l n=false:=by simpa using g2
  rw[CB]at c2;clear eM hg g2 CB;generalize bE l n=i at*;refine aD ?_;exact aB
 rw[if_pos g2]at hM;obtain⟨hi,-⟩:=yZ g2;rw[g2]at c2;clear g2;generalize bE l n=i at*;have iE:=hg i hi;have hx:=eM _ (dC b8 hi);generalize l.getD i b8=x at*;have c3:=I1 x;have c4:=VE (bF x) hx.bF;generalize oA (bF x)=cy at*;obtain⟨⟨cb,cn,ct,cp,cw⟩,ce⟩:=cy;clear eM hg hx;obtain⟨xn,xp,xs,xh,xe,xr,xc⟩:=x;rw[iP]at iE c3;unfold eL bF gT at*;simp only[]at*;cases xc with
 |false=>
  rw[if_neg (by decide)]at hM
  subst hM;clear c3 c4;refine aD ?_;exact aB
 |true=>
  rw[if_pos rfl]at hM;subst hM;refine aD ?_;exact aB
theorem ap7(s:l8)(hs:xI s):PC 23 [.agg (fO s)] (.snap (aA bA (VN s))):=by
 refine aT Tryz.func23 Tryz.ntmps23 (by simp only[go_sem]) ?_
 have c1:=VL s hs;obtain⟨M,hM⟩:∃M,VN s=M:=⟨_,rfl⟩;rw[hM];unfold VN at hM;have hl:=hs.cN;clear hs;obtain⟨j,l⟩:=s;unfold fO at*;simp only[]at*;generalize s7 ⟨j,l⟩=e at*;by_cases g1:e=0
 case neg=>
  rw[if_neg g1]at hM;subst hM;refine aD ?_;exact aB
 rw[if_pos g1]at hM;subst g1;have hg:=uP l;refine aD ?_;refine dP (α:=Nat) l.length (fun k id=> [(12,true,zV k),(11,true,zV l.length),(10,true,.snap (aA cG l)),(3,true,nG (((l.take k).filter bI.closed).map bI.number).length id),(1,true,.ptr 0 0 0)]) (fun k id=>(0,some (.cells 33 7 [[zV j.start,zV j.count,zV j.head,zV j.tail,zV j.first,.snap (aA bA j.cD),.snap (aA cG l)]] true false))::oB 3 1 (aA bA (((l.take k).filter bI.closed).map bI.number)) (((l.take k).filter bI.closed).map bI.number).length id) (fun k m id=>(1<=m/\(((l.take k).filter bI.closed).map bI.number).length<=k)/\(0<(((l.take k).filter bI.closed).map bI.number).length->1<=id/\id<m)) ⟨100,0,⟨⟨by omega,by simp⟩,fun h=>absurd h (by simp)⟩,aN⟩ (fun k m id hk hR=> ?_) (fun m id hR=> ?_)
 ·obtain⟨⟨hm,s6⟩,hR⟩:=hR
  have cV:=hg k hk;rw[iP]at cV;have iD:=vZ b8 hk;rw[iD,Yo,yO];clear iD hg hM;generalize l.getD k b8=x at*;generalize ((l.take k).filter bI.closed).map bI.number=F at*;obtain⟨xn,xp,xs,xh,xe,xr,xc⟩:=x;simp only[]at*;cases xc with
  |false=>
   rw[show List.map bI.number (List.filter bI.closed [⟨xn,xp,xs,xh,xe,xr,false⟩])=[]from rfl,rO]
   cases hF:F.length with
   |zero=>
    have gJ:F=[]:=fI hF;subst gJ;clear hR hF;refine aD ?_;exact⟨m+20,0,⟨⟨by omega,by omega⟩,fun h=>absurd h (by simp)⟩,aN⟩
   |succ q=>
    obtain⟨i1,i2⟩:=hR (by omega)
    clear hR;refine aD ?_;exact⟨m+20,id,⟨⟨by omega,by omega⟩,fun _=>by omega⟩,aN⟩
  |true=>
   rw[show List.map bI.number (List.filter bI.closed [⟨xn,xp,xs,xh,xe,xr,true⟩])=[xn]from rfl]
   cases hF:F.length with
   |zero=>
    have gJ:F=[]:=fI hF;subst gJ;clear hR hF;refine aD ?_;exact⟨m+20,m+1+1+1,⟨⟨by omega,by simp⟩,fun _=>by omega⟩,aN⟩
   |succ q=>
    obtain⟨i1,i2⟩:=hR (by omega)
    have kW:(F++[xn]).length=q+1+1:=by simp[hF]
    rw[kW];clear hR kW;refine aD ?_;exact⟨m+20,m+1+1+1,⟨⟨by omega,by omega⟩,fun _=>by omega⟩,aN⟩
 ·rw[l4]at hR⊢
  rw[hM]at hR⊢;obtain⟨⟨hm,s6⟩,hR⟩:=hR;clear hg hM;cases hF:M.length with
  |zero=>
   have gJ:M=[]:=fI hF;subst gJ;clear hR hF;refine aD ?_;exact aB
  |succ q=>
   obtain⟨i1,i2⟩:=hR (by omega)
   have iD:M.take (q+1)=M:=cR (by omega)
   refine aD ?_;exact aB
theorem z6(l:List Int):∀row∈aA aH l,∀x∈row,bJ x:=fun row hr x hx=>by
 obtain⟨v,rfl⟩:=L4 l row hr x hx;exact .c v
theorem LQ(b:List Int)(n:Int)(hb:b.length<=100000)(id:Nat):xM Tryz.prog 159 [.own id 0 b.length,zV n] id 5 1 (aA aH b) 5 1 (aA aH (b++b9 n)):=
 My (z6 b) (z6 _) (fun a ha=>by simp only[fB,mR,or_false]at ha;subst ha;exact .c _) ((UM b n hb (.own 0 0 b.length) [(0,some (.cells 5 1 (aA aH b) true true))] 1 ⟨L7 n,rfl,.inr ⟨0,by omega,rfl,rfl⟩⟩).mono fun r H ⟨i,h1,h2⟩=>⟨i,by rw[h1,fZ],h2⟩) id
theorem Bk{α:Type}(f:α->List Int)(d:α){l:List α}{k:Nat}(h:k<l.length):(l.take (k+1)).flatMap f=(l.take k).flatMap f++f (l.getD k d):=by
 rw[vZ d h,Ya];simp
theorem Bl{α:Type}(f:α->List Int)(l:List α)(k:Nat):((l.take k).flatMap f).length<=(l.flatMap f).length:=by
 conv=>rhs;rw[<-Ym k l]
 rw[Ya,cP];omega
theorem ap8(b:List Int)(l:List Int)(hb:b.length+(jQ b9 l).length<=100000)(hl:l.length<=100000)(id:Nat):xM Tryz.prog 193 [.own id 0 b.length,.snap (aA bA l),.fn (.func 159) [] []] id 5 1 (aA aH b) 5 1 (aA aH (b++jQ b9 l)):=by
 refine QL Tryz.func193 Tryz.ntmps193 (z6 b) (z6 _) (fun a ha=> ?_) ?_ (id:=id)
 ·simp only[fB,mR,or_false]at ha
  rcases ha with rfl|rfl
  ·exact iJ _
  ·exact .fn _ _ _ (fun x hx=>absurd hx (by simp)) (fun x hx=>absurd hx (by simp))
 have c1:=LQ b l.length (by omega)
 have Mz:(jQ b9 l).length=(b9 l.length).length+(l.flatMap b9).length:=by unfold jQ;rw[cP]
 have lY:=Bl b9 l;have uW:=fun k (h:k<l.length)=>Bk b9 0 h
 have hM:b++jQ b9 l=(b++b9 l.length)++l.flatMap b9:=by unfold jQ;rw[kA]
 rw[hM];have Na:(b++b9 l.length).length=b.length+(b9 l.length).length:=cP;generalize b++b9 l.length=B at*;have hg:=gI l;clear hM;refine xN ?_;refine dP (α:=Nat) l.length (fun k id=> [(15,true,zV k),(14,true,zV l.length),(13,true,.snap (aA bA l)),(2,true,.fn (.func 159) [] []),(0,true,.own id 0 (B++(l.take k).flatMap b9).length)]) (fun k id=> [(id,some (.cells 5 1 (aA aH (B++(l.take k).flatMap b9)) true true))]) (fun k m id=>id<m) ⟨100,1,by omega,by simp only[wY,YV,rO];exact aN⟩ (fun k m id hk hR=> ?_) (fun m id hR=> ?_)
 ·have cV:=hg k hk
  have h1:=uW k hk;have h2:=lY (k+1);have h3:=lY k;have c2:=LQ (B++(l.take k).flatMap b9) (l.getD k 0) (by rw[cP];omega)
  rw[h1,<-kA];rw[h1,cP]at h2;clear uW lY hg c1 h1;generalize hF:B++(l.take k).flatMap b9=F at*;generalize kW:F++b9 (l.getD k 0)=F2 at*;generalize l.getD k 0=v at*;clear hF kW;refine xN ?_;exact⟨m+20,m,by omega,aN⟩
 ·rw[l4]
  clear uW lY hg c1;generalize B++l.flatMap b9=F at*;refine xN ?_;exact⟨id,iT,iT⟩
theorem ap9(b:List Int)(x:aY)(hb:b.length<=100000)(id:Nat):xM Tryz.prog 238 [.own id 0 b.length,.agg (aQ x)] id 5 1 (aA aH b) 5 1 (aA aH (b++oQ x)):=by
 refine QL Tryz.func238 Tryz.ntmps238 (z6 b) (z6 _) (fun a ha=> ?_) ?_ (id:=id)
 ·simp only[fB,mR,or_false]at ha
  subst ha;exact e8.2 (UK x)
 have hx:aQ x=[uV x.1.1,uV x.1.2.1,uV x.1.2.2.1,uV x.1.2.2.2,uV x.2.1,uV x.2.2.1,uV x.2.2.2.1,uV x.2.2.2.2]:=rfl;have hr:aA aH (b++oQ x)=aA aH b++[[uV x.1.1],[uV x.1.2.1],[uV x.1.2.2.1],[uV x.1.2.2.2],[uV x.2.1],[uV x.2.2.1],[uV x.2.2.2.1],[uV x.2.2.2.2]]:=by simp[aA,oQ,aH]
 have hl:(aA aH (b++oQ x)).length=b.length+8:=by rw[fZ];simp[oQ]
 rw[hx,hl,hr];refine xN ?_;exact⟨2,iT,iT⟩
theorem aq0(l:List aY)(k:Nat)(h:k<l.length):(aA aQ l)[k]? =some (aQ (l.getD k aO)):=pQ aO h
theorem Nb(l:List iC)(k:Nat)(h:k<l.length):(aA bC l)[k]? =some (bC (l.getD k (0,0,[]))):=pQ (0,0,[]) h
theorem aq1(b:List Int)(l:List aY)(hb:b.length+(jQ oQ l).length<=100000)(hl:l.length<=100000)(id:Nat):xM Tryz.prog 237 [.own id 0 b.length,.snap (aA aQ l),.fn (.func 238) [] []] id 5 1 (aA aH b) 5 1 (aA aH (b++jQ oQ l)):=by
 refine QL Tryz.func237 Tryz.ntmps237 (z6 b) (z6 _) (fun a ha=> ?_) ?_ (id:=id)
 ·simp only[fB,mR,or_false]at ha
  rcases ha with rfl|rfl
  ·exact iJ _
  ·exact .fn _ _ _ (fun x hx=>absurd hx (by simp)) (fun x hx=>absurd hx (by simp))
 have c1:=LQ b l.length (by omega)
 have Mz:(jQ oQ l).length=(b9 l.length).length+(l.flatMap oQ).length:=by unfold jQ;rw[cP]
 have lY:=Bl oQ l;have uW:=fun k (h:k<l.length)=>Bk oQ aO h
 have hM:b++jQ oQ l=(b++b9 l.length)++l.flatMap oQ:=by unfold jQ;rw[kA]
 rw[hM];have Na:(b++b9 l.length).length=b.length+(b9 l.length).length:=cP;generalize b++b9 l.length=B at*;have hg:=aq0 l;clear hM;refine xN ?_;refine dP (α:=Nat) l.length (fun k id=> [(15,true,zV k),(14,true,zV l.length),(13,true,.snap (aA aQ l)),(2,true,.fn (.func 238) [] []),(0,true,.own id 0 (B++(l.take k).flatMap oQ).length)]) (fun k id=> [(id,some (.cells 5 1 (aA aH (B++(l.take k).flatMap oQ)) true true))]) (fun k m id=>id<m) ⟨100,1,by omega,by simp only[wY,YV,rO];exact aN⟩ (fun k m id hk hR=> ?_) (fun m id hR=> ?_)
 ·have cV:=hg k hk
  have h1:=uW k hk;have h2:=lY (k+1);have h3:=lY k;have c2:=ap9 (B++(l.take k).flatMap oQ) (l.getD k aO) (by rw[cP];omega)
  rw[h1,<-kA];rw[h1,cP]at h2;clear uW lY hg c1 h1;generalize hF:B++(l.take k).flatMap oQ=F at*;generalize kW:F++oQ (l.getD k aO)=F2 at*;generalize l.getD k aO=v at*;clear hF kW;refine xN ?_;exact⟨m+20,m+1+1,by omega,aN⟩
 ·rw[l4]
  clear uW lY hg c1;generalize B++l.flatMap oQ=F at*;refine xN ?_;exact⟨id,iT,iT⟩
theorem VO(w:iC):bC w=[zV w.1,zV w.2.1,.snap (aA aQ w.2.2)]:=rfl
theorem aq2(b:List Int)(w:iC)(hb:b.length+(mX w).length<=100000)(hw:w.2.2.length<=100000)(id:Nat):xM Tryz.prog 192 [.own id 0 b.length,.agg (bC w)] id 5 1 (aA aH b) 5 1 (aA aH (b++mX w)):=by
 refine QL Tryz.func192 Tryz.ntmps192 (z6 b) (z6 _) (fun a ha=> ?_) ?_ (id:=id)
 ·simp only[fB,mR,or_false]at ha
  subst ha
  exact e8.2 fun x hx=>by
   rw[VO]at hx;simp only[fB,mR,or_false]at hx;rcases hx with rfl|rfl|rfl
   ·exact .c _
   ·exact .c _
   ·exact iJ _
 have hlw:(mX w).length=(b9 w.1).length+(b9 w.2.1).length+(jQ oQ w.2.2).length:=by unfold mX;rw[cP,cP]
 have I7:b++mX w=(b++b9 w.1)++b9 w.2.1++jQ oQ w.2.2:=by unfold mX;simp only[kA]
 have c1:=LQ b w.1 (by omega)
 have c2:=LQ (b++b9 w.1) w.2.1 (by rw[cP];omega)
 have c3:=aq1 (b++b9 w.1++b9 w.2.1) w.2.2 (by rw[cP,cP];omega) hw
 rw[I7];generalize b++b9 w.1=B1 at*;generalize B1++b9 w.2.1=B2 at*;generalize B2++jQ oQ w.2.2=B3 at*;clear hlw I7 hb;rw[VO];refine xN ?_;exact⟨_,iT,iT⟩
theorem aq4(b:List Int)(l:List iC)(hb:b.length+(jQ mX l).length<=100000)(hl:l.length<=100000)(hw:∀x∈l,x.2.2.length<=100000)(id:Nat):xM Tryz.prog 191 [.own id 0 b.length,.snap (aA bC l),.fn (.func 192) [] []] id 5 1 (aA aH b) 5 1 (aA aH (b++jQ mX l)):=by
 refine QL Tryz.func191 Tryz.ntmps191 (z6 b) (z6 _) (fun a ha=> ?_) ?_ (id:=id)
 ·simp only[fB,mR,or_false]at ha
  rcases ha with rfl|rfl
  ·exact iJ _
  ·exact .fn _ _ _ (fun x hx=>absurd hx (by simp)) (fun x hx=>absurd hx (by simp))
 have c1:=LQ b l.length (by omega)
 have Mz:(jQ mX l).length=(b9 l.length).length+(l.flatMap mX).length:=by unfold jQ;rw[cP]
 have lY:=Bl mX l;have uW:=fun k (h:k<l.length)=>Bk mX (0,0,[]) h
 have hM:b++jQ mX l=(b++b9 l.length)++l.flatMap mX:=by unfold jQ;rw[kA]
 rw[hM];have Na:(b++b9 l.length).length=b.length+(b9 l.length).length:=cP;generalize b++b9 l.length=B at*;have hg:=Nb l;clear hM;refine xN ?_;refine dP (α:=Nat) l.length (fun k id=> [(15,true,zV k),(14,true,zV l.length),(13,true,.snap (aA bC l)),(2,true,.fn (.func 192) [] []),(0,true,.own id 0 (B++(l.take k).flatMap mX).length)]) (fun k id=> [(id,some (.cells 5 1 (aA aH (B++(l.take k).flatMap mX)) true true))]) (fun k m id=>id<m) ⟨100,1,by omega,by simp only[wY,YV,rO];exact aN⟩ (fun k m id hk hR=> ?_) (fun m id hR=> ?_)
 ·have cV:=hg k hk
  have h1:=uW k hk;have h2:=lY (k+1);have h3:=lY k;have h4:=lY (k+1);have c2:=aq2 (B++(l.take k).flatMap mX) (l.getD k (0,0,[])) (by rw[h1,cP]at h4;rw[cP];omega) (hw _ (dC _ hk))
  rw[h1,<-kA];rw[h1,cP]at h2;clear uW lY hg c1 h1 h4;rw[VO]at cV c2;generalize hF:B++(l.take k).flatMap mX=F at*;generalize kW:F++mX (l.getD k (0,0,[]))=F2 at*;generalize l.getD k (0,0,[])=v at*;clear hF kW;refine xN ?_;exact⟨m+20,m+1+1,by omega,aN⟩
 ·rw[l4]
  clear uW lY hg c1;generalize B++l.flatMap mX=F at*;refine xN ?_;exact⟨id,iT,iT⟩
theorem aq5(b:List Int)(l:List Int)(aM:b≠[])(hb:b.length+(jQ b9 l).length<=100000)(hl:l.length<=100000):rT Tryz.prog 140 [.snap (aA aH b),.snap (aA bA l)] (.own 0 0 (aA aH (b++jQ b9 l)).length) 5 1 (aA aH (b++jQ b9 l)) true:=by
 refine PR Tryz.func140 Tryz.ntmps140 (L4 _) ?_;have c1:=HL b aM (by omega)
 have c2:=ap8 b l hb hl;generalize b++jQ b9 l=B at*;refine xN ?_;exact⟨_,iT,iT⟩
theorem aq6(b:List Int)(l:List iC)(aM:b≠[])(hb:b.length+(jQ mX l).length<=100000)(hl:l.length<=100000)(hw:∀x∈l,x.2.2.length<=100000):rT Tryz.prog 139 [.snap (aA aH b),.snap (aA bC l)] (.own 0 0 (aA aH (b++jQ mX l)).length) 5 1 (aA aH (b++jQ mX l)) true:=by
 refine PR Tryz.func139 Tryz.ntmps139 (L4 _) ?_;have c1:=HL b aM (by omega)
 have c2:=aq4 b l hb hl hw;generalize b++jQ mX l=B at*;refine xN ?_;exact⟨_,iT,iT⟩
end Go.Proofs.YtioafciifiggaaaGreatDoor
