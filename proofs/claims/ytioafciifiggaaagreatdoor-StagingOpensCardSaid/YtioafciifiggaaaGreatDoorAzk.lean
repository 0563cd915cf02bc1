/- Staging. No condition. -/
import Derived.Test.YtioafciifiggaaaGreatDoorL0
import Derived.Test.YtioafciifiggaaaGreatDoorAze
set_option linter.all false
namespace Go.Proofs.YtioafciifiggaaaGreatDoor
open Go.Proofs Go.AL
set_option maxRecDepth 100000
set_option maxHeartbeats 1000000
attribute [local irreducible] cB AW aX cZ dK hold
attribute [local irreducible] eV
structure CK(x:bI)(n:Nat):Prop where
 ok:AP (bF x)
 sum:jJ x.cI<=n
 ne:x.records≠[]
 len:x.records.length<=n
structure nU(l:List bI)(n:Nat):Prop where
 pw:PW l
 len:l.length<=n
 one:∀x∈l,CK x n
theorem CK.mono{x:bI}{n m:Nat}(h:CK x n)(k:n<=m):CK x m:=⟨h.ok,by have:=h.sum;omega,h.ne,by have:=h.len;omega⟩
theorem CK.RE{x:bI}{n:Nat}(h:CK x n)(k:n<=100000):FI x:=⟨⟨h.ok.cI,h.ok.seen,h.ok.one,by have:=h.sum;show jJ x.cI<=100000;omega⟩,by have:=h.len;omega⟩
theorem nU.nil:nU [] 0:=⟨List.Pairwise.nil,cA _,fun x hx=>by simp at hx⟩
theorem nU.mono{l:List bI}{n m:Nat}(h:nU l n)(k:n<=m):nU l m:=⟨h.pw,by have:=h.len;omega,fun x hx=>(h.one x hx).mono k⟩
theorem nU.put{l:List bI}{n m:Nat}(h:nU l n){x:bI}(hx:CK x m)(k:n+1<=m):nU (pD l x) m:=by
 refine⟨aA0 h.pw x,?_,fun y hy=> ?_⟩
 ·have:=ax3 l x
  have:=h.len;omega
 ·rcases ax4 hy with e|e
  ·subst e;exact hx
  ·exact(h.one y e).mono (by omega)
theorem aG2(k:Nat):jJ (List.replicate k ([]:List Int))=0:=by
 induction k with
 |zero=>rfl
 |succ k ih=>rw[KS];unfold jJ at ih⊢;rw[jW,u9,ih];rfl
theorem aG3{p:List Int}{q:Int}(hp:∀x∈p,aV x)(h:(bM p).2=0){n:Nat}(hn:1<=n):CK (jT (qF p).1 [q] false) (n+p.length):=by
 have h1:=FG hp h;refine⟨WH hp,?_,by simp[jT],by simp[jT];omega⟩
 show jJ (qF p).1.cI<=_
 unfold qF;rw[if_pos h];have h2:=Qa (List.replicate (bM p).1.parts.toNat []) (bM p).1.index.toNat (bM p).1.piece;rw[aG2]at h2;simp only[];omega
theorem aG4{x:bI}{p:List Int}{q:Int}{n:Nat}(hx:CK x n)(hp:∀y∈p,aV y)(h:(kG (bF x) p).2=0):CK (jT (kG (bF x) p).1 (x.records++[q]) x.closed) (n+1+p.length):=by
 refine⟨WG hx.ok hp,?_,by simp[jT],by have:=hx.len;simp only[jT,cP,eI,gL];omega⟩
 show jJ (kG (bF x) p).1.cI<=_
 unfold kG at h⊢;split at h
 ·rename_i g1
  rw[if_pos g1];split at h
  ·rename_i g2
   rw[if_pos g2];have h1:=FG hp g2;split at h
   ·rename_i g3
    rw[if_pos g3];split at h
    ·rename_i g4
     rw[if_pos g4];split at h
     ·exact absurd h (by decide)
     ·rename_i g5
      rw[if_neg g5];have h2:=Qa (bF x).cI (bM p).1.index.toNat (bM p).1.piece;have h3:=hx.sum;have h4:jJ (bF x).cI=jJ x.cI:=rfl;simp only[];omega
    ·exact absurd h (by decide)
   ·exact absurd h (by decide)
  ·rename_i g2
   exact absurd h g2
 ·exact absurd h (by decide)
theorem Dh{l:List bI}{r:Rec}{n:Nat}(h:nU l n)(hp:∀y∈r.cH,aV y):nU (iY l r).1 (n+1+r.cH.length):=by
 unfold iY;split
 ·rename_i hr
  split
  ·split
   ·rename_i g
    obtain⟨hi,-⟩:=yZ g.1;have hx:=h.one _ (dC b8 hi);refine h.put ⟨hx.ok,?_,by simp[jT],?_⟩ (by omega)
    ·have:=hx.sum
     show jJ (l.getD (bE l (pY r)) b8).cI<=_
     omega
    ·have:=hx.len
     simp only[jT,cP,eI,gL];omega
   ·exact h.mono (by omega)
  ·rename_i hk
   have aG5:(bM r.cH).2=0:=by
    unfold nL at hr;rw[if_neg hk]at hr;exact(of_decide_eq_true hr).2
   split
   ·rename_i g
    obtain⟨hi,-⟩:=yZ g.1;have hx:=h.one _ (dC b8 hi);split
    ·exact h.mono (by omega)
    ·exact h.put (aG4 hx hp g.2) (by omega)
   ·refine h.put ((aG3 (n:=n+1) hp aG5 (by omega))) (by omega)
 ·exact nU.mono ⟨List.Pairwise.nil,mT _,fun x hx=>by simp at hx⟩ (cA _)
end Go.Proofs.YtioafciifiggaaaGreatDoor
namespace Go.Proofs.YtioafciifiggaaaGreatDoor
open Go.Proofs Go.AL
set_option maxRecDepth 100000
set_option maxHeartbeats 1000000
attribute [local irreducible] cB AW aX cZ dK hold
theorem RF{x n:Int}(h0:0<=x)(h1:x<2*n):x % n=if x<n then x else x-n:=by
 split
 ·exact Jd h0 (by omega)
 ·rw[<-Int.sub_emod_right,Jd (by omega) (by omega)]
def tV(C:List aY)(n t next:Int)(i:Nat):List Bool:=(List.range C.length).map fun(p:Nat)=>decide (((p:Int)-t+n) % n<(i:Int))&&decide (next<=cL (C.getD p aO))
theorem aG6(C:List aY)(n t next:Int)(i:Nat):(tV C n t next i).length=C.length:=by
 unfold tV;rw[mJ,UA]
theorem aG7{C:List aY}{n t next:Int}(hn:0<n):tV C n t next 0=List.replicate C.length false:=by
 unfold tV;rw[List.eq_replicate_iff];refine⟨by simp,fun b hb=> ?_⟩
 obtain⟨p,-,rfl⟩:=mS.1 hb;have:=HG ((p:Int)-t+n) (show n≠0 by omega)
 rw[decide_eq_false (by omega),TW]
theorem aG8{C:List aY}{n t next:Int}{i:Nat}(hC:(C.length:Int)=n)(h0:0<=t)(h1:t<n)(hi:(i:Int)<n){q:Nat}(hq:(t+(i:Int)) % n=(q:Int)):tV C n t next (i+1)=(tV C n t next i).set q (decide (next<=cL (C.getD q aO))):=by
 rw[RF (by omega) (by omega)]at hq
 apply BS;intro p;unfold tV;rw[Yh];simp only[iA,mJ,UA];by_cases hp:p<C.length
 ·rw[uD hp]
  simp only[pP];have hm:=RF (x:=(p:Int)-t+n) (n:=n) (by omega) (by omega)
  rw[hm];by_cases e:q=p
  ·subst e
   rw[if_pos rfl,if_pos hp]
   have:(if(q:Int)-t+n<n then(q:Int)-t+n else(q:Int)-t+n-n)<((i+1:Nat):Int):=by
    split at hq<;>split<;>omega
   rw[decide_eq_true this,Z5]
  ·rw[if_neg e]
   have:((if(p:Int)-t+n<n then(p:Int)-t+n else(p:Int)-t+n-n)<((i+1:Nat):Int))↔((if(p:Int)-t+n<n then(p:Int)-t+n else(p:Int)-t+n-n)<(i:Int)):=by
    split at hq<;>split<;>omega
   rw[decide_eq_decide.2 this]
 ·have h2:(List.range C.length)[p]? =none:=by simp;omega
  rw[h2];by_cases e:q=p
  ·rw[if_pos e,if_neg (by omega)];rfl
  ·rw[if_neg e];rfl
theorem aG9{C:List aY}{n h u next:Int}{t:Int}{k:Nat}(hC:(C.length:Int)=n)(h0:0<=h)(h1:h<n)(u0:0<=u)(u1:u<=n)(ht:t=(h+u) % n)(hk:(k:Int)=n-u):tV C n t next k=xW C n h u next:=by
 rw[RF (by omega) (by omega)]at ht
 unfold tV xW;apply sL;intro p hp;have Kn:=Je.1 hp;have hb:0<=t/\t<n:=by split at ht<;>omega
 have e1:=RF (x:=(p:Int)-t+n) (n:=n) (by omega) (by omega)
 have e2:=RF (x:=(p:Int)-h+n) (n:=n) (by omega) (by omega)
 rw[e1,e2]
 have:((if(p:Int)-t+n<n then(p:Int)-t+n else(p:Int)-t+n-n)<(k:Int))↔(u<=if(p:Int)-h+n<n then(p:Int)-h+n else(p:Int)-h+n-n):=by
  split at ht<;>split<;>split<;>omega
 rw[decide_eq_decide.2 this]
theorem Di{L:List Bool}{p:Nat}(hp:p<L.length)(h:L.getD p false=false):gN (L.drop p) p=gN (L.drop (p+1)) (p+1):=by
 rw[tL false hp,h];rfl
theorem Rb{L:List Bool}:∀(n p:Nat),p+n<=L.length->(∀i,i<n->L.getD (p+i) false=true)->L.drop p=List.replicate n true++L.drop (p+n)
 |0,p,_,_=>by simp
 |n+1,p,h1,h2=>by
  have ih:=Rb (L:=L) n (p+1) (by omega) (fun i hi=>by rw[show p+1+i=p+(i+1)by omega];exact h2 (i+1) (by omega))
  have h3:=h2 0 (by omega)
  rw[BU]at h3;rw[tL (l:=L) (k:=p) false (by omega),h3,ih,KS,show p+1+n=p+(n+1)by omega]
  rfl
theorem WW{L:List Bool}{p n:Nat}(h1:p+(n+1)<=L.length)(h2:∀i,i<n+1->L.getD (p+i) false=true)(h3:p+(n+1)=L.length\/L.getD (p+(n+1)) false=false):gN (L.drop p) p=(p,n+1)::gN (L.drop (p+(n+1)+1)) (p+(n+1)+1):=by
 rw[Rb (n+1) p h1 h2];rcases lU (p+(n+1)) L.length with h4|h4
 ·have h5:=h3.resolve_left (by omega)
  rw[tL false h4,h5,Py];rw[show p+n+2=p+(n+1)+1 by omega]
 ·rw[EU h4,EU (by omega),rO,Pz]
  rfl
theorem WX{L:List Bool}{p:Nat}(h:L.length<=p):gN (L.drop p) p=[]:=by
 rw[EU h];rfl
def lH(a:Int)(r:Nat×Nat):iC:=((0:Int),a+16+r.1,List.replicate r.2 aO)
theorem Dj(a:Int)(L:List Bool):MB a L=(gN L 0).map (lH a)++(if gN L 0=[]then []else [(1,0,[])]):=rfl
end Go.Proofs.YtioafciifiggaaaGreatDoor
