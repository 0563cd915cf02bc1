/- Staging. No condition. -/
import Derived.Test.YtioafciifiggaaaGreatDoorL0
import Derived.Test.YtioafciifiggaaaGreatDoorAz
set_option linter.all false
namespace Go.Proofs.YtioafciifiggaaaGreatDoor
open Go.Proofs Go.AL
set_option maxRecDepth 100000
set_option maxHeartbeats 1000000
attribute [local irreducible] cH AW b9 dR eH hold
theorem Lt{s:Int}{l:List Int}(h0:0<=s)(h1:s<4294967296):bN (sK s l)=s:=by
 unfold bN sK;simp only[];omega
def jM(k s:Int)(p:List Int):List aH:=(List.range ((p.length+10)/4)).map fun i=>sK s (iJ (fS k p) 4 i)
theorem af9(k:Int)(p:List Int):sY (fS k p).length 4=(p.length+10)/4:=by
 unfold sY;rw[af3];omega
theorem bq8{k s:Int}{p:List Int}(hk:1<=k/\k<=255)(hs:1<=s/\s<=4294967295)(hp:p.length<=4096):tB k s p=(jM k s p,0):=by
 unfold tB jM;rw[if_neg (by omega),if_neg (by omega),af9]
theorem W4(k s:Int)(p:List Int):(jM k s p).length=(p.length+10)/4:=by simp[jM]
theorem Lu{k s:Int}{p:List Int}(h0:0<=s)(h1:s<4294967296):∀x∈jM k s p,bN x=s:=fun x hx=>by
 unfold jM at hx;obtain⟨i,-,rfl⟩:=kV.1 hx;exact Lt h0 h1
theorem C6(S:List Int)(i j:Nat)(hj:j<4):(iJ S 4 i).getD j 0=S.getD (4*i+j) 0:=by
 unfold iJ;rw[eP,eP,G0 hj,mF];congr 2;omega
theorem ag0(s:Int)(S:List Int):∀n,gD ((List.range n).map fun i=>sK s (iJ S 4 i))=(List.range (4*n)).map fun j=>S.getD j 0
 |0=>rfl
 |n+1=>by
  have ih:=ag0 s S n;unfold gD at*;rw[yK,vY,Te,ih];have e:4*(n+1)=4*n+1+1+1+1:=by omega
  rw[e,yK,yK,yK,yK];simp only[vY,fF,gJ,tK,O0,O1,mD];congr 1;simp only[d4,sK,C6 S n 0 (by decide),C6 S n 1 (by decide),C6 S n 2 (by decide),C6 S n 3 (by decide),zN]
  simp
theorem bq9{S:List Int}{n m:Nat}(hm:m<=S.length)(hn:S.length<=n):((List.range n).map fun j=>S.getD j 0).take m=S.take m:=by
 refine I3 (by simp;omega) fun i h1 h2=> ?_
 simp only[cU,l4,KF]at h1;rw[Tl,Tl,List.getElem_map,List.getElem_range];simp[show i<S.length by omega]
theorem br0{c:Int}(h0:0<=c)(h1:c<4294967296):VZ (qH c 4)=c:=by
 unfold VZ;simp only[qH,List.getD_cons_zero,List.getD_cons_succ];omega
theorem ag1(k s:Int)(p:List Int)(rest:List aH):(jM k s p++rest).getD 0 aE=sK s (iJ (fS k p) 4 0):=by
 unfold jM;rw[eP,kG (by simp),gE,wD (by omega)]
 rfl
theorem br1{k s:Int}{p:List Int}(hk:1<=k/\k<=255)(hs:1<=s/\s<=4294967295)(hp:p.length<=4096)(rest:List aH):
  gM (jM k s p++rest)=(⟨k,s,p⟩,(((p.length+10)/4:Nat):Int),0):=by
 have hl:=W4 k s p;have hS:=af3 k p;have hc:=KV (mN k p);have hw:(mN k p).length=3+p.length:=by unfold mN;simp only[bP,dK,GV]
 have e0:(fS k p).getD 0 0=k:=by unfold fS mN;rfl
 have e1:(fS k p).getD 1 0=(p.length:Int) % 256:=rfl;have e2:(fS k p).getD 2 0=(p.length:Int)/256 % 256:=rfl;have e3:(fS k p).drop 3=p++qH (fV (mN k p)) 4:=rfl;have e4:(fS k p).take (3+p.length)=mN k p:=by unfold fS;rw[<-hw,I7];rfl
 have e5:(fS k p).drop (3+p.length)=qH (fV (mN k p)) 4:=by unfold fS;rw[<-hw,OC];rfl
 have hD:=ag0 s (fS k p) ((p.length+10)/4);have hT:(jM k s p++rest).take ((p.length+10)/4)=jM k s p:=by rw[<-hl,I7];rfl
 have hr:fX (sK s (iJ (fS k p) 4 0))=p.length:=by
  unfold fX sK;simp only[];rw[C6 _ _ _ (by decide),C6 _ _ _ (by decide),Tp,pJ,pJ,e1,e2]
  omega
 have hq:(((p.length:Int)+10)/4).toNat=(p.length+10)/4:=by omega
 have hg:=Lt (s:=s) (l:=iJ (fS k p) 4 0) (by omega) (by omega)
 have hd:gD (jM k s p)=(List.range (4*((p.length+10)/4))).map fun j=>(fS k p).getD j 0:=hD
 have hlen:(fS k p).length<=4*((p.length+10)/4):=by omega
 have e6:((List.range (4*((p.length+10)/4))).map fun j=>(fS k p).getD j 0)=fS k p++((List.range (4*((p.length+10)/4))).map fun j=>(fS k p).getD j 0).drop (fS k p).length:=by
  conv=>lhs;rw[<-yJ (fS k p).length ((List.range (4*((p.length+10)/4))).map fun j=>(fS k p).getD j 0)]
  rw[bq9 (cE _) hlen,lI]
 have e7:∀x∈((List.range (4*((p.length+10)/4))).map fun j=>(fS k p).getD j 0).drop (fS k p).length,x=0:=fun x hx=>by
  obtain⟨i,hi,rfl⟩:=wA.1 hx;rw[List.getElem_drop,List.getElem_map,List.getElem_range];simp
 unfold gM;rw[ag1,hg,hr,hq,hT,hd];generalize ((List.range (4*((p.length+10)/4))).map fun j=>(fS k p).getD j 0).drop (fS k p).length=Z at*
 rw[e6,mE];rw[if_neg (by intro h;have:=congrArg List.length h;rw[bP,hl]at this;simp at this;omega),if_neg (by omega),if_neg (by omega),if_neg (by rw[bP,hl];omega),if_neg,if_neg,if_neg]
 ·have f1:(fS k p++Z).getD 0 0=k:=by unfold fS mN;rfl
  have f2:((fS k p++Z).drop 3).take p.length=p:=by
   rw[aG2 (by omega),e3,fF,I7]
   rfl
  rw[f1,f2];simp only[cD,true_and,and_true];omega
 ·have f1:(fS k p++Z).getD 0 0=k:=by unfold fS mN;rfl
  have f2:(fS k p++Z).drop (7+p.length)=Z:=by rw[show 7+p.length=(fS k p).length by omega,OC];rfl
  rw[f1,f2];rintro(h|h)
  ·omega
  ·obtain⟨x,hx,W5⟩:=vX.1 h
   rw[e7 x hx]at W5;exact absurd W5 (by decide)
 ·have f1:(fS k p++Z).take (3+p.length)=mN k p:=by rw[O9 (by omega),e4]
  have f2:VZ ((fS k p++Z).drop (3+p.length))=fV (mN k p):=by
   rw[aG2 (by omega),e5]
   have h:=br0 hc.1 hc.2;unfold VZ at*;exact h
  rw[f1,f2];exact fun h=>h rfl
 ·intro h
  obtain⟨x,hx,W5⟩:=vX.1 h;rw[Lu (by omega) (by omega) x hx]at W5
  simp at W5
theorem br2{k s:Int}{p:List Int}(hp:p.length<=4096):fX (sK s (iJ (fS k p) 4 0))=p.length:=by
 have e1:(fS k p).getD 1 0=(p.length:Int) % 256:=rfl;have e2:(fS k p).getD 2 0=(p.length:Int)/256 % 256:=rfl;unfold fX sK;simp only[];rw[C6 _ _ _ (by decide),C6 _ _ _ (by decide),Tp,pJ,pJ,e1,e2]
 omega
theorem br3{k s:Int}{p:List Int}(hs:1<=s/\s<=4294967295)(hp:p.length<=4096){F:List aH}(h0:F.getD 0 aE=(jM k s p).getD 0 aE){i:Nat}(hi:i<(p.length+10)/4)(hF:i<F.length)(hg:bN (F.getD i aE)≠s):(gM F).2.2≠0:=by
 have h1:(jM k s p).getD 0 aE=sK s (iJ (fS k p) 4 0):=by
  have:=ag1 k s p []
  rwa[mD]at this
 have F5:=Lt (s:=s) (l:=iJ (fS k p) 4 0) (by omega) (by omega)
 unfold gM;rw[h0,h1,F5,br2 hp];split
 ·exact(by decide)
 split
 ·exact(by decide)
 split
 ·exact(by decide)
 split
 ·exact(by decide)
 rename_i g3;rw[if_pos]
 ·exact(by decide)
 ·have hq:(((p.length:Int)+10)/4).toNat=(p.length+10)/4:=by omega
  rw[hq,vX]
  have hm:F.getD i aE∈F.take ((p.length+10)/4):=by
   have:(F.take ((p.length+10)/4)).getD i aE=F.getD i aE:=by
    rw[eP,G0 hi,<-eP]
   rw[<-this];exact cQ aE (by rw[cU];omega)
  exact⟨_,hm,by simpa using hg⟩
theorem Cc{F:List aH}{q:Int}(hF:∀s∈F,dC s)(h:(gM F).2.2≠0\/bN (F.getD 0 aE)≠q):mU F q=([],0):=by
 rw[Cb F q hF,if_neg];rintro⟨-,h2,h3⟩;rcases h with h|h
 ·exact h h2
 ·rcases PZ F hF with h4|⟨-,-,-,-,h5,-⟩
  ·exact h4 h2
  ·exact h (by omega)
theorem Cd{F:List aH}{q:Int}(hF:∀s∈F,dC s)(h:∀s∈F,bN s<q):mU F q=([],0):=by
 by_cases g:F=[]
 ·subst g
  exact Cc hF (.inl (by decide))
 ·exact Cc hF (.inr (by have:=h _ (cQ aE (i:=0) (by cases F with|nil=>exact absurd rfl g|cons a b=>simp));omega))
def iC:List (Int×List Int)->Int->List aH
 |[],_=> []
 |r::l,q=>jM r.1 q r.2++iC l (q+1)
def jT:List (Int×List Int)->Int->List Rec
 |[],_=> []
 |r::l,q=>⟨r.1,q,r.2⟩::jT l (q+1)
def Ce(r:Int×List Int):Prop:=(1<=r.1/\r.1<=255)/\r.2.length<=4096/\∀x∈r.2,aV x
def LW(r:Int×List Int):Int:=(((r.2.length+10)/4:Nat):Int)
theorem ag2:∀(R:List (Int×List Int)) (q:Int) (F:List aH),(∀r∈R,Ce r)->1<=q->q+R.length<=4294967295->(∀s∈iC R q++F,dC s)->mU F (q+R.length)=([],0)->mU (iC R q++F) q=(jT R q,(R.map LW).sum)
 |[],q,F,_,_,_,_,h=>by simpa[iC,jT]using h
 |r::R,q,F,hR,h1,h2,hs,h=>by
  obtain⟨r1,r2,r3⟩:=hR r (by simp)
  simp only[dK]at h2 h;have hD:=br1 r1 (s:=q) (by omega) r2 (iC R (q+1)++F)
  have hl:=W4 r.1 q r.2
  have ih:=ag2 R (q+1) F (fun x hx=>hR x (by simp[hx])) (by omega) (by omega) (fun x hx=>hs x (by
   rw[iC,fF]
   exact uE _ hx)) (by rw[show q+1+(R.length:Int)=q+((R.length+1:Nat):Int)by omega];exact h)
  rw[Cb _ _ hs,iC,fF,hD];simp only[];rw[if_pos ⟨h1,trivial,trivial⟩,mE,<-hl,OC,ih,hl]
  ·simp only[jT,gJ,qP,LW]
  ·rfl
theorem Lv:∀(R:List (Int×List Int)) (q:Int),((iC R q).length:Int)=(R.map LW).sum
 |[],_=>rfl
 |r::R,q=>by
  rw[iC,bP,W4,gJ,qP,<-Lv R (q+1)];unfold LW;omega
theorem Lw:∀(R S:List (Int×List Int)) (q:Int),iC (R++S) q=iC R q++iC S (q+R.length)
 |[],S,q=>by simp[iC]
 |r::R,S,q=>by
  rw[yI,iC,iC,Lw R S (q+1),fF,dK];congr 3;omega
theorem ag3:∀(R:List (Int×List Int)) (q:Int),0<=q->q+R.length<=4294967295->∀s∈iC R q,q<=bN s/\bN s<q+R.length
 |[],q,_,_,s,h=>by simp[iC]at h
 |r::R,q,h1,h2,s,h=>by
  simp only[dK]at h2⊢;rw[iC]at h;rcases lS.1 h with h|h
  ·rw[Lu h1 (by omega) s h]
   omega
  ·have:=ag3 R (q+1) (by omega) (by omega) s h
   omega
theorem Lx{k s:Int}{p:List Int}(hk:1<=k/\k<=255)(hp:∀x∈p,aV x):∀x∈jM k s p,dC x:=fun x hx=>by
 unfold jM at hx;obtain⟨i,-,rfl⟩:=kV.1 hx
 have hS:∀j,aV ((fS k p).getD j 0):=fun j=>by
  by_cases g:j<(fS k p).length
  ·have hm:=cQ 0 g
   unfold fS mN at hm;simp only[lS,cG]at hm;unfold fS mN;rcases hm with((hm|hm)|hm)|hm
   ·rw[hm];unfold aV;omega
   ·exact Bf _ _ _ hm
   ·exact hp _ hm
   ·exact Bf _ _ _ hm
  ·rw[eP,zL (by omega)]
   exact⟨by decide,by decide⟩
 refine⟨⟨?_,?_,?_,?_⟩,fun y hy=> ?_⟩
 ·unfold aV sK;simp only[];omega
 ·unfold aV sK;simp only[];omega
 ·unfold aV sK;simp only[];omega
 ·unfold aV sK;simp only[];omega
 ·simp only[d4,sK,C6 _ _ 0 (by decide),C6 _ _ 1 (by decide),C6 _ _ 2 (by decide),C6 _ _ 3 (by decide),cG,jF,or_false]at hy
  rcases hy with rfl|rfl|rfl|rfl<;>exact hS _
theorem Cf:∀(R:List (Int×List Int)) (q:Int),(∀r∈R,Ce r)->∀s∈iC R q,dC s
 |[],_,_,s,h=>by simp[iC]at h
 |r::R,q,hR,s,h=>by
  rw[iC]at h;obtain⟨r1,r2,r3⟩:=hR r (by simp)
  rcases lS.1 h with h|h
  ·exact Lx r1 r3 s h
  ·exact Cf R (q+1) (fun x hx=>hR x (by simp[hx])) s h
def LX(x:aW)(r:Rec):aW:=
 if(iA (bF x) r.cT).2=0 then
  if(iA (bF x) r.cT).1=bF x then x else iT (iA (bF x) r.cT).1 (x.records++[r.seq]) x.closed
 else iT (lW r.cT).1 [r.seq] false
def Q1(x:aW)(r:Rec):aW:=
 if x.closed=false/\(rM (bF x)).2=0 then iT (bF x) (x.records++[r.seq]) true else x
def iD(r:Rec):Int:=if r.kind=2 then(aP r.cT).1 else(bZ r.cT).1.number
def oK(r:Rec):Bool:=if r.kind=2 then decide ((aP r.cT).2.2=0/\(aP r.cT).2.1=[])else decide (r.kind=1/\(bZ r.cT).2=0)
def k9(l:List aW)(r:Rec):List aW×Int:=
 if oK r=true then
  if r.kind=2 then
   if nW l (iD r)=true/\(l.getD (bT l (iD r)) aY).closed=false/\(rM (bF (l.getD (bT l (iD r)) aY))).2=0 then
    (lP l (iT (bF (l.getD (bT l (iD r)) aY)) ((l.getD (bT l (iD r)) aY).records++[r.seq]) true),0)
   else(l,0)
  else if nW l (iD r)=true/\(iA (bF (l.getD (bT l (iD r)) aY)) r.cT).2=0 then
   if(iA (bF (l.getD (bT l (iD r)) aY)) r.cT).1=bF (l.getD (bT l (iD r)) aY)then(l,0)
   else(lP l (iT (iA (bF (l.getD (bT l (iD r)) aY)) r.cT).1 ((l.getD (bT l (iD r)) aY).records++[r.seq]) (l.getD (bT l (iD r)) aY).closed),0)
  else(lP l (iT (lW r.cT).1 [r.seq] false),0)
 else([],3)
def uX(o:Option aW)(r:Rec):Option aW:=
 if r.kind=2 then o.map fun x=>Q1 x r
 else match o with
  |some x=>some (LX x r)
  |none=>some (iT (lW r.cT).1 [r.seq] false)
theorem ag4{a:nT}{b:List Int}(h:(iA a b).2=0):(iA a b).1.number=a.number/\(bZ b).1.number=a.number:=by
 unfold iA at*;split at h
 ·rw[if_pos (by assumption)]
  split at h
  ·rw[if_pos (by assumption)]
   split at h
   ·rename_i g
    rw[if_pos g];split at h
    ·rename_i g2
     rw[if_pos g2];split at h
     ·exact absurd h (by decide)
     ·rename_i g3
      rw[if_neg g3];exact⟨rfl,g⟩
    ·exact absurd h (by decide)
   ·exact absurd h (by decide)
  ·rename_i g
   exact absurd h g
 ·exact absurd h (by decide)
theorem ag5{b:List Int}(h:(bZ b).2=0):(lW b).1.number=(bZ b).1.number:=by
 unfold lW;rw[if_pos h]
theorem Cg{l:List aW}{n:Int}(h:nW l n=true):(l.getD (bT l n) aY).number=n:=by
 have h1:gF l n=some (l.getD (bT l n) aY):=by
  unfold gF;rw[if_pos h]
 exact(DQ h1).2
theorem br4{l:List aW}{r:Rec}(hl:PW l):PW (k9 l r).1:=by
 unfold k9;split
 ·split
  ·split
   ·exact H4 hl _
   ·exact hl
  ·split
   ·split
    ·exact hl
    ·exact H4 hl _
   ·exact H4 hl _
 ·exact List.Pairwise.nil
theorem H5{l:List aW}{n:Int}(h:nW l n=true):gF l n=some (l.getD (bT l n) aY):=by
 unfold gF;rw[if_pos h]
theorem br5{l:List aW}{r:Rec}(hl:PW l)(hr:oK r=true)(M:Int):gF (k9 l r).1 M=if M=iD r then uX (gF l M) r else gF l M:=by
 have UN:∀x:aW,x.number=iD r->gF (lP l x) M=if M=iD r then some x else gF l M:=fun x hx=>by
  split
  ·rename_i g
   rw[g,<-hx];exact Li hl x
  ·rename_i g
   exact Lj hl (by omega)
 unfold k9;rw[if_pos hr];by_cases hk:r.kind=2
 ·rw[if_pos hk]
  split
  ·rename_i g
   have hn:=Cg g.1;have hx:(iT (bF (l.getD (bT l (iD r)) aY)) ((l.getD (bT l (iD r)) aY).records++[r.seq]) true).number=iD r:=hn
   show gF (lP l _) M=_
   rw[UN _ hx];split
   ·rename_i gm
    subst gm;unfold uX;rw[if_pos hk,H5 g.1,oU];unfold Q1;rw[if_pos g.2]
   ·rfl
  ·rename_i g
   split
   ·rename_i gm
    subst gm;unfold uX;rw[if_pos hk];by_cases gf:nW l (iD r)=true
    ·rw[H5 gf,oU]
     unfold Q1;rw[if_neg (fun h=>g ⟨gf,h⟩)]
    ·unfold gF
     rw[if_neg gf];rfl
   ·rfl
 ·rw[if_neg hk]
  have dO:(bZ r.cT).2=0:=by
   unfold oK at hr;rw[if_neg hk]at hr;exact(of_decide_eq_true hr).2
  have hnR:iD r=(bZ r.cT).1.number:=by unfold iD;rw[if_neg hk]
  have hb:(iT (lW r.cT).1 [r.seq] false).number=iD r:=by
   show(lW r.cT).1.number=_
   rw[ag5 dO,hnR]
  split
  ·rename_i g
   have hn:=Cg g.1;split
   ·rename_i gs
    split
    ·rename_i gm
     subst gm;unfold uX;rw[if_neg hk,H5 g.1];simp only[LX];rw[if_pos g.2,if_pos gs]
    ·rfl
   ·rename_i gs
    have hx:(iT (iA (bF (l.getD (bT l (iD r)) aY)) r.cT).1 ((l.getD (bT l (iD r)) aY).records++[r.seq]) (l.getD (bT l (iD r)) aY).closed).number=iD r:=by
     show(iA (bF (l.getD (bT l (iD r)) aY)) r.cT).1.number=_
     rw[(ag4 g.2).1];exact hn
    show gF (lP l _) M=_
    rw[UN _ hx];split
    ·rename_i gm
     subst gm;unfold uX;rw[if_neg hk,H5 g.1];simp only[LX];rw[if_pos g.2,if_neg gs]
    ·rfl
  ·rename_i g
   show gF (lP l _) M=_
   rw[UN _ hb];split
   ·rename_i gm
    subst gm;unfold uX;rw[if_neg hk];by_cases gf:nW l (iD r)=true
    ·rw[H5 gf]
     simp only[LX];rw[if_neg (fun h=>g ⟨gf,h⟩)]
    ·unfold gF
     rw[if_neg gf]
   ·rfl
def rB:List Rec->List aW->Nat->(List aW×Nat)×Int
 |[],l,m=>((l,m),0)
 |r::rs,l,m=>if(k9 l r).2=0 then rB rs (k9 l r).1 (max m (k9 l r).1.length)else(([],0),(k9 l r).2)
theorem ag6(l:List aW)(r:Rec):(k9 l r).2=if oK r=true then 0 else 3:=by
 unfold k9;split
 ·split
  ·split<;>rfl
  ·split
   ·split<;>rfl
   ·rfl
 ·rfl
theorem br7(l:List aW)(r:Rec):(k9 l r).1.length<=l.length+1:=by
 unfold k9;split
 ·split
  ·split
   ·exact LO _ _
   ·exact Nat.le_succ _
  ·split
   ·split
    ·exact Nat.le_succ _
    ·exact LO _ _
   ·exact LO _ _
 ·simp
def J2(M:Int)(R:List Rec):Option aW->Option aW:=fun o=>(R.filter fun r=>decide (M=iD r)).foldl uX o
theorem ag7:∀(R:List Rec) (l:List aW) (m:Nat),PW l->(∀r∈R,oK r=true)->(rB R l m).2=0/\PW (rB R l m).1.1/\(rB R l m).1.2<=max m (l.length+R.length)/\∀M,gF (rB R l m).1.1 M=J2 M R (gF l M)
 |[],l,m,hl,_=>⟨rfl,hl,by simp only[rB,fJ];omega,fun M=>rfl⟩
 |r::R,l,m,hl,hR=>by
  have hr:=hR r (by simp)
  have he:=ag6 l r;rw[if_pos hr]at he;obtain⟨h1,h2,h3,h4⟩:=ag7 R (k9 l r).1 (max m (k9 l r).1.length) (br4 hl) fun x hx=>hR x (by simp[hx])
  unfold rB;rw[if_pos he];refine⟨h1,h2,?_,fun M=> ?_⟩
  ·have:=br7 l r
   simp only[dK];omega
  ·rw[h4 M,br5 hl hr]
   unfold J2;rw[Z0];by_cases g:M=iD r
   ·rw[if_pos g,if_pos (decide_eq_true g),CL]
   ·rw[if_neg g,if_neg (by simpa using g)]
theorem br8{A B:List aW}(hA:PW A)(hB:PW B){d:Int}(h:∀M,d<M->gF A M=gF B M):A.filter (fun x=>decide (d<x.number))=B.filter fun x=>decide (d<x.number):=by
 have hm:∀{A B:List aW},PW A->PW B->(∀M,d<M->gF A M=gF B M)->∀x∈A.filter (fun x=>decide (d<x.number)),x∈B.filter fun x=>decide (d<x.number):=fun hA hB h x hx=>by
  obtain⟨h1,h2⟩:=pC.1 hx;have h3:=h x.number (of_decide_eq_true h2);rw[VX hA h1]at h3;exact pC.2 ⟨(DQ h3.symm).1,h2⟩
 have key:∀(A B:List aW),PW A->PW B->(∀x∈A,x∈B)->(∀x∈B,x∈A)->A=B:=by
  intro A
  induction A with
  |nil=>intro B _ _ _ h2;cases B with
   |nil=>rfl
   |cons b B=>exact absurd (h2 b (by simp)) (by simp)
  |cons a A ih=>
   intro B h3 h4 h1 h2;cases B with
   |nil=>exact absurd (h1 a (by simp)) (by simp)
   |cons b B=>
    have ha:=Tz.1 h3;have hb:=Tz.1 h4
    have uW:a=b:=by
     rcases cG.1 (h1 a (by simp))with e|e
     ·exact e
     ·rcases cG.1 (h2 b (by simp))with e2|e2
      ·exact e2.symm
      ·have x1:=hb.1 a e
       have x2:=ha.1 b e2;omega
    subst uW;rw[ih B ha.2 hb.2 (fun x hx=> ?_) fun x hx=> ?_]
    ·rcases cG.1 (h1 x (by simp[hx]))with e|e
     ·subst e;have:=ha.1 _ hx;omega
     ·exact e
    ·rcases cG.1 (h2 x (by simp[hx]))with e|e
     ·subst e;have:=hb.1 _ hx;omega
     ·exact e
 exact key _ _ (hA.filter _) (hB.filter _) (hm hA hB h) (hm hB hA fun M hM=>(h M hM).symm)
def kQ:List Bool->Nat->List (Nat×Nat)
 |[],_=> []
 |false::l,p=>kQ l (p+1)
 |true::l,p=>match kQ l (p+1)with
  |[]=> [(p,1)]
  |(q,n)::r=>if q=p+1 then(p,n+1)::r else(p,1)::(q,n)::r
theorem Ch(l:List Bool)(p:Nat):kQ (true::l) p=match kQ l (p+1)with
  |[]=> [(p,1)]
  |(q,n)::r=>if q=p+1 then(p,n+1)::r else(p,1)::(q,n)::r:=rfl
theorem ag8(l:List Bool)(p:Nat):kQ (false::l) p=kQ l (p+1):=rfl
theorem Ly:∀(l:List Bool) (p:Nat),∀x∈kQ l p,p<=x.1
 |[],_,x,h=>by simp[kQ]at h
 |false::l,p,x,h=>by
  have:=Ly l (p+1) x h;omega
 |true::l,p,x,h=>by
  have ih:=Ly l (p+1);unfold kQ at h;cases hr:kQ l (p+1)with
  |nil=>
   rw[hr]at h;simp only[cG,jF,or_false]at h;subst h;exact cE _
  |cons a r=>
   obtain⟨q,n⟩:=a;rw[hr]at h ih;simp only[]at h;split at h
   ·rcases cG.1 h with h|h
    ·subst h;exact cE _
    ·have:=ih x (by simp[h]);omega
   ·rcases cG.1 h with h|h
    ·subst h;exact cE _
    ·have:=ih x (by simpa using h);omega
theorem ag9:∀(n:Nat) (l:List Bool) (p:Nat),kQ (List.replicate (n+1) true++false::l) p=(p,n+1)::kQ l (p+n+2)
 |0,l,p=>by
  show kQ (true::false::l) p=_
  rw[Ch,ag8];cases hr:kQ l (p+1+1)with
  |nil=>rfl
  |cons a r=>
   obtain⟨q,m⟩:=a;have:=Ly l (p+1+1) (q,m) (by rw[hr];simp)
   simp only[]at this⊢;rw[if_neg (by omega)]
 |n+1,l,p=>by
  have ih:=ag9 n l (p+1)
  show kQ (true::(List.replicate (n+1) true++false::l)) p=_
  rw[Ch,ih];simp only[if_true];rw[show p+1+n+2=p+(n+1)+2 by omega]
theorem ah0:∀(n p:Nat),kQ (List.replicate (n+1) true) p=[(p,n+1)]
 |0,p=>rfl
 |n+1,p=>by
  have ih:=ah0 n (p+1);rw[I6,Ch,ih];simp
theorem ah1:∀(l:List Bool) (p:Nat),(∀b∈l,b=false)->kQ l p=[]
 |[],_,_=>rfl
 |false::l,p,h=>ah1 l (p+1) fun b hb=>h b (by simp[hb])
 |true::l,p,h=>absurd (h true (by simp)) (by decide)
def jV(C:List aH)(h:Nat):List aH:=C.drop h++C.take h
def AN(C:List aH)(n h u next:Int):List Bool:=(List.range C.length).map fun(p:Nat)=>decide (u<=((p:Int)-h+n) % n)&&decide (next<=bN (C.getD p aE))
def J3(a:Int)(L:List Bool):List eW:=
 (kQ L 0).map (fun r=>((0:Int),a+16+r.1,List.replicate r.2 aE))++(if kQ L 0=[]then []else [(1,0,[])])
def jO(d:bL)(a c:Int):(Int×Int)×Int:=
 if(oE d a).2.2.2.2=0 then
  if(aP (oE d a).2.2.1).2.2=0 then
   if(aP (aP (oE d a).2.2.1).2.1).2.2=0/\(aP (aP (oE d a).2.2.1).2.1).2.1=[]/\(aP (oE d a).2.2.1).1<c-16/\1<=(aP (aP (oE d a).2.2.1).2.1).1/\(aP (aP (oE d a).2.2.1).2.1).1<=1073741824 then
    (((aP (oE d a).2.2.1).1,(aP (aP (oE d a).2.2.1).2.1).1),0)
   else((0,0),3)
  else((0,0),3)
 else((0,0),(oE d a).2.2.2.2)
def tD(d:bL)(a c:Int):List aH:=((fA d.st d.ca).drop (a+16).toNat).take (c-16).toNat
def AO(C:List aH)(h f:Int):List Rec:=(mU (jV C h.toNat) f).1.take (1073741824-f).toNat
def fL(R:List Rec):List Int:=R.map fun r=>(((r.cT.length+10)/4:Nat):Int)
def pP(a c h f:Int)(R:List Rec):Jr:=⟨a,c,h,(h+(fL R).sum) % (c-16),f,fL R⟩
def mV(d:bL)(a c:Int):(Jr×List Rec×List eW)×Int:=
 if dM d=0 then
  if qY a c=true/\a+c<=(d.st.length:Int)then
   if(jO d a c).2=0 then
    ((pP a c (jO d a c).1.1 (jO d a c).1.2 (AO (tD d a c) (jO d a c).1.1 (jO d a c).1.2),AO (tD d a c) (jO d a c).1.1 (jO d a c).1.2,
      J3 a (AN (tD d a c) (c-16) (jO d a c).1.1 (fL (AO (tD d a c) (jO d a c).1.1 (jO d a c).1.2)).sum ((jO d a c).1.2+(AO (tD d a c) (jO d a c).1.1 (jO d a c).1.2).length))),0)
   else((j9,[],[]),(jO d a c).2)
  else((j9,[],[]),2)
 else((j9,[],[]),dM d)
def p5(d:bL)(a c:Int):cX×List eW×Int:=
 if(mV d a c).2=0 then
  if(rB (mV d a c).1.2.1 [] 0).2=0 then
   if 1024<(rB (mV d a c).1.2.1 [] 0).1.2 then(lZ,[],6)
   else(⟨(mV d a c).1.1,(rB (mV d a c).1.2.1 [] 0).1.1⟩,(mV d a c).1.2.2,0)
  else(lZ,[],(rB (mV d a c).1.2.1 [] 0).2)
 else(lZ,[],(mV d a c).2)
end Go.Proofs.YtioafciifiggaaaGreatDoor
