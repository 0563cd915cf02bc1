/- Staging. No condition. -/
import Derived.Test.YtioafciifiggaaaGreatDoorL0
import Derived.Test.YtioafciifiggaaaGreatDoorAza
import Derived.Test.YtioafciifiggaaaGreatDoorAf
set_option linter.all false
namespace Go.Proofs.YtioafciifiggaaaGreatDoor
open Go.Proofs Go.AL
set_option maxRecDepth 100000
set_option maxHeartbeats 1000000
attribute [local irreducible] cH AW b9 dR eH hold
theorem yW{C:List aH}{h:Nat}(hh:h<=C.length):(jV C h).length=C.length:=by
 unfold jV;rw[bP,eF,cU];omega
theorem H6{a n:Nat}(h1:n<=a)(h2:a<n+n):a % n=a-n:=by
 rw[aG5 h1,wC (by omega)]
theorem DR{C:List aH}{h i:Nat}(hh:h<=C.length)(hi:i<C.length):(jV C h).getD i aE=C.getD ((h+i) % C.length) aE:=by
 unfold jV;by_cases g:i<C.length-h
 ·rw[eP,kG (by rw[eF];exact g),mF,wC (by omega),<-eP]
 ·rw[H6 (by omega) (by omega),eP,k7 (by rw[eF];omega),eF,G0 (by omega),<-eP]
  congr 1;omega
theorem br9{C:List aH}{h p:Nat}(hh:h<C.length)(hp:p<C.length):C.getD p aE=(jV C h).getD ((p+C.length-h) % C.length) aE:=by
 rw[DR (by omega) (zO _ (by omega))]
 congr 1;by_cases g:p<h
 ·rw[wC (show p+C.length-h<C.length by omega),H6 (by omega) (by omega)]
  omega
 ·rw[H6 (show C.length<=p+C.length-h by omega) (by omega),wC (by omega)]
  omega
theorem bs0{C U F:List aH}{h:Nat}{next:Int}(hh:h<C.length)(hr:jV C h=U++F)(hF:∀s∈F,bN s<next):∀b∈AN C C.length h U.length next,b=false:=fun b hb=>by
 unfold AN at hb;obtain⟨p,hp,rfl⟩:=kV.1 hb;have hp:=EG.1 hp;have hl:=yW (C:=C) (h:=h) (by omega)
 rw[hr,bP]at hl
 have hi:((p:Int)-h+C.length) % C.length=(((p+C.length-h) % C.length:Nat):Int):=by
  rw[Ua];congr 1;omega
 have bG:=zO (p+C.length-h) (show 0<C.length by omega)
 rw[hi,br9 hh hp,hr];generalize (p+C.length-h) % C.length=i at*;by_cases g:U.length<=i
 ·have h1:(U++F).getD i aE=F.getD (i-U.length) aE:=by
   rw[eP,k7 g,<-eP]
  have h2:=hF _ (cQ aE (l:=F) (i:=i-U.length) (by omega))
  rw[h1,aG1];exact .inr (decide_eq_false (by omega))
 ·rw[aG1]
  exact .inl (decide_eq_false (by omega))
theorem Ma:∀(R:List (Int×List Int)) (q:Int),fL (jT R q)=R.map LW
 |[],_=>rfl
 |r::R,q=>by
  have:=Ma R (q+1);unfold fL at*;rw[jT,gJ,this,gJ];rfl
theorem Ci:∀(R:List (Int×List Int)) (q:Int),(jT R q).length=R.length
 |[],_=>rfl
 |r::R,q=>by rw[jT,dK,Ci R (q+1),dK]
theorem bs1{C F:List aH}{R:List (Int×List Int)}{h f:Int}(hR:∀r∈R,Ce r)(h1:1<=f)(h2:f+R.length<=1073741824)(hs:∀s∈F,dC s)(hr:jV C h.toNat=iC R f++F)(hF:mU F (f+R.length)=([],0)):AO C h f=jT R f:=by
 unfold AO
 rw[hr,ag2 R f F hR h1 (by omega) (fun s hm=>by
  rcases lS.1 hm with e|e
  ·exact Cf R f hR s e
  ·exact hs s e) hF]
 simp only[];rw[eD];rw[Ci];omega
theorem Mb{h n i k:Nat}(hh:h<n)(hi:i<n)(hk:k<n)(e:(h+i) % n=(h+k) % n):i=k:=by
 by_cases g1:h+i<n
 ·rw[wC g1]at e
  by_cases g2:h+k<n
  ·rw[wC g2]at e;omega
  ·rw[H6 (by omega) (by omega)]at e;omega
 ·rw[H6 (by omega) (by omega)]at e
  by_cases g2:h+k<n
  ·rw[wC g2]at e;omega
  ·rw[H6 (by omega) (by omega)]at e;omega
theorem Cj{A B:List aH}(hl:A.length=B.length)(h:∀i,i<A.length->A.getD i aE=B.getD i aE):A=B:=by
 refine I3 hl fun i h1 h2=> ?_
 have:=h i h1;simpa[h1,h2]using this
theorem J4{A B:List aH}{i:Nat}(h:i<A.length):(A++B).getD i aE=A.getD i aE:=by
 rw[eP,kG h,<-eP]
theorem F6{A B:List aH}{i:Nat}(h:A.length<=i):(A++B).getD i aE=B.getD (i-A.length) aE:=by
 rw[eP,k7 h,<-eP]
theorem getD_drop{A:List aH}{i k:Nat}:(A.drop k).getD i aE=A.getD (k+i) aE:=by
 rw[eP,mF,<-eP]
theorem ah2{C C' U F E:List aH}{h:Nat}(hh:h<C.length)(hr:jV C h=U++F)(hl:C'.length=C.length)(hE:E.length<=F.length)
  (hm:∀p,p<C.length->C'.getD p aE=C.getD p aE\/∃i,i<E.length/\p=(h+U.length+i) % C.length/\C'.getD p aE=E.getD i aE):
  ∃F',jV C' h=U++F'/\F'.length=F.length/\∀i,i<F.length->F'.getD i aE=F.getD i aE\/(i<E.length/\F'.getD i aE=E.getD i aE):=by
 have l1:=yW (C:=C) (h:=h) (by omega)
 have l2:=yW (C:=C') (h:=h) (by omega)
 rw[hr,bP]at l1;refine⟨(jV C' h).drop U.length,?_,by rw[eF];omega,fun i hi=> ?_⟩
 ·conv=>lhs;rw[<-yJ U.length (jV C' h)]
  congr 1;refine Cj (by rw[cU];omega) fun i hi=> ?_
  rw[cU]at hi;have hi:i<U.length:=by omega
  have e1:((jV C' h).take U.length).getD i aE=(jV C' h).getD i aE:=by
   rw[eP,G0 hi,<-eP]
  have e2:U.getD i aE=(jV C h).getD i aE:=by rw[hr,J4 hi]
  rw[e1,e2,DR (by omega) (by omega),DR (by omega) (by omega),hl]
  rcases hm ((h+i) % C.length) (zO _ (by omega))with e|⟨k,k1,k2,-⟩
  ·exact e
  ·have:=Mb (i:=i) (k:=U.length+k) hh (by omega) (by omega) (by rw[<-s9];exact k2)
   omega
 ·have e2:F.getD i aE=(jV C h).getD (U.length+i) aE:=by
   rw[hr,F6 (by omega)]
   congr 1;omega
  rw[getD_drop,e2,DR (by omega) (by omega),DR (by omega) (by omega),hl]
  rcases hm ((h+(U.length+i)) % C.length) (zO _ (by omega))with e|⟨k,k1,k2,k3⟩
  ·exact .inl e
  ·have:=Mb (i:=U.length+i) (k:=U.length+k) hh (by omega) (by omega) (by rw[<-s9 h U.length k];exact k2)
   obtain rfl:i=k:=by omega
   exact .inr ⟨k1,k3⟩
theorem bs2{C C' U F E:List aH}{h:Nat}(hh:h<C.length)(hr:jV C h=U++F)(hl:C'.length=C.length)(hE:E.length<=F.length)
  (hm:∀p,p<C.length->(C'.getD p aE=C.getD p aE/\∀i,i<E.length->p≠(h+U.length+i) % C.length)\/∃i,i<E.length/\p=(h+U.length+i) % C.length/\C'.getD p aE=E.getD i aE):
  jV C' h=U++(E++F.drop E.length):=by
 have l1:=yW (C:=C) (h:=h) (by omega)
 rw[hr,bP]at l1
 obtain⟨F',f1,f2,f3⟩:=ah2 hh hr hl hE fun p hp=>by
  rcases hm p hp with e|e
  ·exact .inl e.1
  ·exact .inr e
 have l2:=yW (C:=C') (h:=h) (by omega)
 rw[f1];congr 1;refine Cj (by rw[bP,eF];omega) fun i hi=> ?_
 have hx:F'.getD i aE=C'.getD ((h+(U.length+i)) % C.length) aE:=by
  have:=DR (C:=C') (h:=h) (i:=U.length+i) (by omega) (by omega)
  rw[f1,F6 (by omega),hl]at this
  rw[<-this];congr 1;omega
 rcases hm ((h+(U.length+i)) % C.length) (zO _ (by omega))with⟨e,e2⟩|⟨k,k1,k2,k3⟩
 ·have zT:¬i<E.length:=fun g=>e2 i g (by rw[s9])
  rw[F6 (by omega),getD_drop,hx,e]
  have e3:F.getD i aE=(jV C h).getD (U.length+i) aE:=by
   rw[hr,F6 (by omega)]
   congr 1;omega
  rw[DR (by omega) (by omega)]at e3
  rw[<-e3];congr 1;omega
 ·have:=Mb (i:=U.length+i) (k:=U.length+k) hh (by omega) (by omega) (by rw[<-s9 h U.length k];exact k2)
  obtain rfl:i=k:=by omega
  rw[J4 k1,hx,k3]
theorem bs3{F F':List aH}{k s:Int}{p:List Int}(hs:1<=s/\s<=4294967295)(hp:p.length<=4096)(hF:∀x∈F,bN x<s)(hE:(jM k s p).length<=F.length)(hl:F'.length=F.length)(dO:∀x∈F',dC x)
  (hm:∀i,i<F.length->F'.getD i aE=F.getD i aE\/(i<(jM k s p).length/\F'.getD i aE=(jM k s p).getD i aE)):
  F'=jM k s p++F.drop (jM k s p).length\/mU F' s=([],0):=by
 have hn:=W4 k s p;by_cases g:∀i,i<(jM k s p).length->F'.getD i aE=(jM k s p).getD i aE
 ·refine .inl (Cj (by rw[bP,eF];omega) fun i hi=> ?_)
  by_cases gi:i<(jM k s p).length
  ·rw[J4 gi]
   exact g i gi
  ·rw[F6 (by omega),getD_drop]
   rcases hm i (by omega)with e|e
   ·rw[e]
    congr 1;omega
   ·exact absurd e.1 gi
 ·refine .inr ?_
  simp only[Classical.not_forall]at g;obtain⟨i,i1,i2⟩:=g
  have hold:∀j,j<F.length->F'.getD j aE≠(jM k s p).getD j aE->bN (F'.getD j aE)<s:=fun j hj aJ=>by
   rcases hm j hj with e|e
   ·rw[e]
    exact hF _ (cQ aE hj)
   ·exact absurd e.2 aJ
  have hi:=hold i (by omega) i2
  by_cases g0:F'.getD 0 aE=(jM k s p).getD 0 aE
  ·exact Cc dO (.inl (br3 hs hp g0 (i:=i) (by omega) (by omega) (by omega)))
  ·have:=hold 0 (by omega) g0
   exact Cc dO (.inr (by omega))
def rQ(j:Jr)(k:Nat):Int:=(j.head+(j.b8.take k).sum) % (j.count-16)
def uY(d:bL)(j:Jr)(n:Int):Jr×List eW×Int:=
 if dM d=0 then
  if jE j=0 then
   if n<j.first-1\/j.first+(j.b8.length:Int)<=n then(j9,[],2)
   else if n=j.first-1 then(j,[],0)
   else if(lU d j.start (aQ (rQ j (n+1-j.first).toNat)++aQ (n+1))).2=0 then
    (⟨j.start,j.count,rQ j (n+1-j.first).toNat,j.tail,n+1,j.b8.drop (n+1-j.first).toNat⟩,(lU d j.start (aQ (rQ j (n+1-j.first).toNat)++aQ (n+1))).1,0)
   else(j9,[],(lU d j.start (aQ (rQ j (n+1-j.first).toNat)++aQ (n+1))).2)
  else(j9,[],3)
 else(j9,[],dM d)
theorem bs4{j:Jr}{k:Nat}(hn:0<j.count-16)(hk:k<j.b8.length):(rQ j k+j.b8.getD k 0) % (j.count-16)=rQ j (k+1):=by
 unfold rQ;rw[Ub,A8 0 hk,TJ,qP,OD,TN,Fy]
theorem bs5{j:Jr}(h0:0<=j.head)(h1:j.head<j.count-16):rQ j 0=j.head:=by
 unfold rQ;rw[xE,OD,TN,Gf h0 h1]
theorem ah3{j:Jr}{k:Nat}(hn:0<j.count-16):0<=rQ j k/\rQ j k<j.count-16:=⟨BC _ (by omega),zM _ hn⟩
def p6(n:Int):List aW->Int->Int
 |[],m=>m
 |x::l,m=>if n<x.number then p6 n l (min m (x.records.headD 0-1))else p6 n l m
def rR(d:bL)(s:cX)(n:Int):cX×List eW×Int:=
 if dM d=0 then
  if mK s=0 then
   if n<0\/1073741824<n then(lZ,[],2)
   else if(uY d s.j (p6 n s.aR (jN s.j-1))).2.2=0 then
    (⟨(uY d s.j (p6 n s.aR (jN s.j-1))).1,s.aR.filter fun x=>decide (n<x.number)⟩,(uY d s.j (p6 n s.aR (jN s.j-1))).2.1,0)
   else(lZ,[],(uY d s.j (p6 n s.aR (jN s.j-1))).2.2)
  else(lZ,[],mK s)
 else(lZ,[],dM d)
theorem Ck(n:Int):∀(l:List aW) (m:Int),p6 n l m<=m/\∀x∈l,n<x.number->p6 n l m<=x.records.headD 0-1
 |[],m=>⟨Int.le_refl _,fun x hx=>by simp at hx⟩
 |y::l,m=>by
  unfold p6;split
  ·obtain⟨h1,h2⟩:=Ck n l (min m (y.records.headD 0-1))
   refine⟨by omega,fun x hx hn=> ?_⟩
   rcases cG.1 hx with e|e
   ·subst e;omega
   ·exact h2 x e hn
  ·obtain⟨h1,h2⟩:=Ck n l m
   refine⟨h1,fun x hx hn=> ?_⟩
   rcases cG.1 hx with e|e
   ·subst e;omega
   ·exact h2 x e hn
theorem Mc(n:Int){k:Int}:∀(l:List aW) (m:Int),k<=m->(∀x∈l,k<=x.records.headD 0-1)->k<=p6 n l m
 |[],m,h,_=>h
 |y::l,m,h,hl=>by
  unfold p6;have:=hl y (by simp)
  split
  ·exact Mc n l _ (by omega) fun x hx=>hl x (by simp[hx])
  ·exact Mc n l _ h fun x hx=>hl x (by simp[hx])
structure uZ(l:List aW)(R:List Rec)(d:Int):Prop where
 pw:PW l
 ok:∀r∈R,oK r=true
 eq:∀M,d<M->gF l M=J2 M R none
 yV:∀M,d<M->(match gF l M with|some x=>x.records|none=> [])=(R.filter fun r=>decide (M=iD r)).map Rec.seq
theorem bs6(M:Int)(R:List Rec)(r:Rec)(o:Option aW):J2 M (R++[r]) o=if M=iD r then uX (J2 M R o) r else J2 M R o:=by
 unfold J2;rw[KC,TG];by_cases g:M=iD r
 ·rw[if_pos g,Z0,if_pos (decide_eq_true g)]
  rfl
 ·rw[if_neg g,Z0,if_neg (by simpa using g)]
  rfl
theorem uZ.put{l:List aW}{R:List Rec}{d:Int}(J:uZ l R d){r:Rec}(hr:oK r=true){x:aW}(hx:x.number=iD r)(hs:uX (gF l x.number) r=some x)
  (tV:x.records=(match gF l x.number with|some y=>y.records|none=> [])++[r.seq]):uZ (lP l x) (R++[r]) d:=by
 refine⟨H4 J.pw x,fun y hy=> ?_,fun M hM=> ?_,fun M hM=> ?_⟩
 ·rcases lS.1 hy with e|e
  ·exact J.ok y e
  ·simp at e
   subst e;exact hr
 ·rw[bs6,<-J.eq M hM]
  by_cases g:M=iD r
  ·rw[if_pos g,g,<-hx,Li J.pw x,hs]
  ·rw[if_neg g,Lj J.pw (by omega)]
 ·rw[KC,vY,<-J.yV M hM]
  by_cases g:M=iD r
  ·rw[Z0,if_pos (decide_eq_true g),g,<-hx,Li J.pw x]
   exact tV
  ·rw[Z0,if_neg (by simpa using g),Lj J.pw (by omega)]
   simp
theorem bs7{s:cX}{p:List Int}(h:(nL s p).2.2=0):nL s p=(s,[],0)\/∃x,(kD s.j 1 p).2.2=0/\nL s p=(⟨(kD s.j 1 p).1,lP s.aR x⟩,(kD s.j 1 p).2.1,0)/\oK ⟨1,jN s.j,p⟩=true/\x.number=iD ⟨1,jN s.j,p⟩/\
  uX (gF s.aR x.number) ⟨1,jN s.j,p⟩=some x/\x.records=(match gF s.aR x.number with|some y=>y.records|none=> [])++[jN s.j]:=by
 have wP:∀{k:Int} {x:aW},(vN s k p x).2.2=0->(kD s.j k p).2.2=0/\vN s k p x=(⟨(kD s.j k p).1,lP s.aR x⟩,(kD s.j k p).2.1,0):=fun{k x} hx=>by
  unfold vN at*;split at hx
  ·rename_i g
   rw[if_pos g];exact⟨g,rfl⟩
  ·rename_i g
   exact absurd hx g
 unfold nL at*;split at h
 ·rename_i g1
  rw[if_pos g1];split at h
  ·rename_i g2
   rw[if_pos g2]
   have dO:oK ⟨1,jN s.j,p⟩=true:=by
    unfold oK;simp only[if_neg (by decide:¬(1:Int)=2)]
    exact decide_eq_true ⟨trivial,g2⟩
   have J5:iD ⟨1,jN s.j,p⟩=(bZ p).1.number:=rfl;split at h
   ·rename_i g3
    rw[if_pos g3];split at h
    ·rename_i g4
     rw[if_pos g4];split at h
     ·rename_i g5
      rw[if_pos g5];exact .inl rfl
     ·rename_i g5
      rw[if_neg g5];obtain⟨e1,e2⟩:=wP h;have hn:=Cg g3
      have y6:(iT (iA (bF (s.aR.getD (bT s.aR (bZ p).1.number) aY)) p).1 ((s.aR.getD (bT s.aR (bZ p).1.number) aY).records++[jN s.j]) (s.aR.getD (bT s.aR (bZ p).1.number) aY).closed).number=(bZ p).1.number:=by
       show(iA _ p).1.number=_
       rw[(ag4 g4).1];exact hn
      refine .inr ⟨_,e1,e2,dO,y6,?_,?_⟩
      ·rw[y6,H5 g3]
       unfold uX LX;simp only[if_neg (by decide:¬(1:Int)=2)]
       rw[if_pos g4,if_neg g5]
      ·rw[y6,H5 g3]
       rfl
    ·rename_i g4
     exact absurd h g4
   ·rename_i g3
    rw[if_neg g3];split at h
    ·exact absurd h (by decide)
    ·rename_i g4
     rw[if_neg g4];obtain⟨e1,e2⟩:=wP h
     have eY:gF s.aR (bZ p).1.number=none:=by
      unfold gF;rw[if_neg g3]
     have y6:(iT (lW p).1 [jN s.j] false).number=(bZ p).1.number:=ag5 g2;refine .inr ⟨_,e1,e2,dO,y6,?_,?_⟩
     ·rw[y6,eY]
      rfl
     ·rw[y6,eY]
      rfl
  ·rename_i g2
   exact absurd h g2
 ·rename_i g1
  exact absurd h g1
theorem bs8{s:cX}{n:Int}(h:(mT s n).2.2=0)(hi:aP (aQ n)=(n,[],0)):mT s n=(s,[],0)\/∃x,(kD s.j 2 (aQ n)).2.2=0/\mT s n=(⟨(kD s.j 2 (aQ n)).1,lP s.aR x⟩,(kD s.j 2 (aQ n)).2.1,0)/\oK ⟨2,jN s.j,aQ n⟩=true/\x.number=iD ⟨2,jN s.j,aQ n⟩/\
  uX (gF s.aR x.number) ⟨2,jN s.j,aQ n⟩=some x/\x.records=(match gF s.aR x.number with|some y=>y.records|none=> [])++[jN s.j]:=by
 have dO:oK ⟨2,jN s.j,aQ n⟩=true:=by
  unfold oK;simp only[if_pos];rw[hi];exact decide_eq_true ⟨rfl,rfl⟩
 have J5:iD ⟨2,jN s.j,aQ n⟩=n:=by
  show(aP (aQ n)).1=n
  rw[hi]
 unfold mT at*;split at h
 ·rename_i g1
  rw[if_pos g1];split at h
  ·rename_i g2
   rw[if_pos g2];have hn:=Cg g2;split at h
   ·rename_i g3
    rw[if_pos g3];exact .inl rfl
   ·rename_i g3
    rw[if_neg g3];split at h
    ·rename_i g4
     rw[if_pos g4];unfold vN at*;split at h
     ·rename_i g5
      rw[if_pos g5];refine .inr ⟨_,g5,rfl,dO,?_,?_,?_⟩
      ·rw[J5];exact hn
      ·have y6:(iT (bF (s.aR.getD (bT s.aR n) aY)) ((s.aR.getD (bT s.aR n) aY).records++[jN s.j]) true).number=n:=hn
       rw[y6,H5 g2];unfold uX Q1;simp only[if_true,oU];rw[if_pos ⟨by simpa using g3,g4⟩]
      ·have y6:(iT (bF (s.aR.getD (bT s.aR n) aY)) ((s.aR.getD (bT s.aR n) aY).records++[jN s.j]) true).number=n:=hn
       rw[y6,H5 g2];rfl
     ·rename_i g5
      exact absurd h g5
    ·rename_i g4
     exact absurd h g4
  ·exact absurd h (by decide)
 ·rename_i g1
  exact absurd h g1
theorem uZ.start(d:Int):uZ [] [] d:=⟨List.Pairwise.nil,fun r hr=>by simp at hr,fun M _=>rfl,fun M _=>rfl⟩
theorem uZ.W6{l:List aW}{R:List Rec}{d:Int}(J:uZ l R d):(rB R [] 0).2=0/\PW (rB R [] 0).1.1/\(rB R [] 0).1.2<=R.length/\(rB R [] 0).1.1.filter (fun x=>decide (d<x.number))=l.filter fun x=>decide (d<x.number):=by
 obtain⟨h1,h2,h3,h4⟩:=ag7 R [] 0 List.Pairwise.nil J.ok;refine⟨h1,h2,by simpa using h3,br8 h2 J.pw fun M hM=> ?_⟩
 rw[h4 M,J.eq M hM];rfl
theorem uZ.mono{l:List aW}{R:List Rec}{d e:Int}(J:uZ l R d)(h:d<=e):uZ l R e:=⟨J.pw,J.ok,fun M hM=>J.eq M (by omega),fun M hM=>J.yV M (by omega)⟩
theorem ah4:∀(R:List (Int×List Int)) (f:Int),∀r∈jT R f,f<=r.seq/\r.seq<f+R.length
 |[],f,r,h=>by simp[jT]at h
 |x::R,f,r,h=>by
  rw[jT]at h;simp only[dK];rcases cG.1 h with e|e
  ·subst e
   simp only[];omega
  ·have:=ah4 R (f+1) r e
   omega
theorem ah5:∀(R S:List (Int×List Int)) (f:Int),jT (R++S) f=jT R f++jT S (f+R.length)
 |[],S,f=>by simp[jT]
 |x::R,S,f=>by
  rw[yI,jT,jT,ah5 R S (f+1),dK,yI];congr 3;omega
theorem ah6:∀(R:List (Int×List Int)) (f:Int) (k:Nat),(jT R f).take k=jT (R.take k) f
 |[],f,k=>by simp[jT]
 |x::R,f,0=>rfl
 |x::R,f,k+1=>by
  rw[jT,G4,G4,jT,ah6 R (f+1) k]
theorem Md:∀(R:List (Int×List Int)) (f:Int) (k:Nat),k<=R.length->(jT R f).drop k=jT (R.drop k) (f+k)
 |R,f,0,_=>by simp
 |[],f,k+1,h=>by simp at h
 |x::R,f,k+1,h=>by
  rw[jT,NZ,NZ,Md R (f+1) k (by simpa using h)]
  congr 1;omega
theorem ah7{l:List aW}(hl:PW l){n M:Int}(h:n<M):gF (l.filter fun x=>decide (n<x.number)) M=gF l M:=by
 cases hg:gF l M with
 |some x=>
  obtain⟨h1,h2⟩:=DQ hg;have:=VX (hl.filter fun x=>decide (n<x.number)) (x:=x) (pC.2 ⟨h1,decide_eq_true (by omega)⟩)
  rwa[h2]at this
 |none=>
  cases hf:gF (l.filter fun x=>decide (n<x.number)) M with
  |none=>rfl
  |some y=>
   obtain⟨h1,h2⟩:=DQ hf;exact absurd h2 (ae9 hl hg y (pC.1 h1).1)
theorem bs9{a last next:Int}{l:List Int}(h:oY last next (a::l)=true):∀n∈a::l,a<=n:=fun n hn=>by
 rw[ES]at h;split at h
 ·exact absurd h (by decide)
 ·rcases cG.1 hn with e|e
  ·omega
  ·have:=P8 _ _ _ h n e
   omega
theorem uZ.drop{l:List aW}{rs:List (Int×List Int)}{d f n m:Int}(J:uZ l (jT rs f) d)(hr:∀x∈l,∃a b,oY a b x.records=true){k:Nat}(hk:k<=rs.length)(qU:(f+k:Int)-1<=p6 n l m):
  uZ (l.filter fun x=>decide (n<x.number)) (jT (rs.drop k) (f+k)) (max d n):=by
 have ah8:∀M,max d n<M->((jT (rs.drop k) (f+k)).filter fun r=>decide (M=iD r))=(jT rs f).filter fun r=>decide (M=iD r):=fun M hM=>by
  rw[<-Md rs f k hk]
  conv=>rhs;rw[<-yJ k (jT rs f)]
  rw[KC]
  have:((jT rs f).take k).filter (fun r=>decide (M=iD r))=[]:=by
   rw[List.filter_eq_nil_iff];intro r Q3 hc;have hc:=of_decide_eq_true hc;have h1:=J.yV M (by omega)
   have h2:r.seq∈((jT rs f).filter fun r=>decide (M=iD r)).map Rec.seq:=kV.2 ⟨r,pC.2 ⟨oS Q3,decide_eq_true hc⟩,rfl⟩
   rw[ah6]at Q3;have h3:=ah4 _ _ _ Q3;rw[cU]at h3;rw[<-h1]at h2;cases hg:gF l M with
   |none=>rw[hg]at h2;simp at h2
   |some x=>
    rw[hg]at h2;simp only[]at h2;obtain⟨g1,g2⟩:=DQ hg;obtain⟨a,b,uW⟩:=hr x g1;have h4:=(Ck n l m).2 x g1 (by omega)
    cases hx:x.records with
    |nil=>rw[hx]at h2;simp at h2
    |cons y z=>
     rw[hx]at h2 h4 uW;have:=bs9 uW _ h2;simp only[List.headD_cons]at h4;omega
  rw[this,pW]
 refine⟨J.pw.filter _,fun r Q3=>J.ok r ?_,fun M hM=> ?_,fun M hM=> ?_⟩
 ·rw[<-Md rs f k hk]at Q3
  exact lJ Q3
 ·rw[ah7 J.pw (by omega),J.eq M (by omega)]
  unfold J2;rw[ah8 M hM]
 ·rw[ah7 J.pw (by omega),J.yV M (by omega),ah8 M hM]
end Go.Proofs.YtioafciifiggaaaGreatDoor
