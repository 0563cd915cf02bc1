/- Staging. No condition. -/
import Derived.Test.YtioafciifiggaaaGreatDoorL0
import Derived.Test.YtioafciifiggaaaGreatDoorAzm
set_option linter.all false
namespace Go.Proofs.YtioafciifiggaaaGreatDoor
open Go.Proofs Go.AL
set_option maxRecDepth 100000
set_option maxHeartbeats 8000000
attribute [local irreducible] cB AW aX cZ dK hold
attribute [local irreducible] eV
theorem aI0{d:fJ}{a c:Int}(h:(xZ d a c).2=0):l6 d=0/\lV a c=true/\a+c<=(d.st.length:Int)/\xZ d a c=gZ d a c:=by
 unfold xZ at h⊢;split at h
 ·rename_i g0
  rw[if_pos g0];split at h
  ·rename_i g1
   rw[if_pos g1];exact⟨g0,g1.1,g1.2,rfl⟩
  ·exact absurd h (by decide)
 ·rename_i g0
  exact absurd h g0
theorem aI1{d:fJ}{a c:Int}(h:(xZ d a c).2≠0):jV d a c=((l7,[],[]),(xZ d a c).2):=by
 unfold xZ at h⊢;unfold jV;by_cases g0:l6 d=0
 ·rw[if_pos g0]at h⊢
  rw[if_pos g0];by_cases g1:lV a c=true/\a+c<=(d.st.length:Int)
  ·rw[if_pos g1]at h⊢
   rw[if_pos g1,if_neg h]
  ·rw[if_neg g1,if_neg g1]
 ·rw[if_neg g0,if_neg g0]
inductive pK where
 |none
 |some (G:List (Nat×Nat)) (s k id lI:Nat)
def pK.ok(L:List Bool)(i:Nat):pK->Prop
 | .none=>gN (L.drop i) i=gN L 0
 | .some G s k _ _=>(s+(k+1)=i/\(∀j,j<k+1->L.getD (s+j) false=true)/\G++gN (L.drop s) s=gN L 0)\/(s+(k+1)<i/\G++(s,k+1)::gN (L.drop i) i=gN L 0)
theorem aI2(L:List Bool):pK.ok L 0 .none:=rfl
theorem aI3{L:List Bool}{i:Nat}(hi:i<L.length)(h:L.getD i false=false):∀{c:pK},c.ok L i->c.ok L (i+1)
 | .none,hc=>by
   unfold pK.ok at hc⊢;rw[<-Di hi h];exact hc
 | .some G s k _ _,hc=>by
   unfold pK.ok at hc⊢;rcases hc with⟨h1,h2,h3⟩|⟨h1,h3⟩
   ·refine .inr ⟨by omega,?_⟩
    rw[WW (by omega) h2 (.inr (by rw[h1];exact h)),h1]at h3
    exact h3
   ·refine .inr ⟨by omega,?_⟩
    rw[<-Di hi h];exact h3
theorem aI4{L:List Bool}{i:Nat}(id lI:Nat)(h:L.getD i false=true)(hc:pK.ok L i .none):pK.ok L (i+1) (.some [] i 0 id lI):=
 .inl ⟨by omega,fun j hj=>by obtain rfl:j=0:=by omega
                             exact h,hc⟩
theorem Rm{L:List Bool}{i:Nat}{G:List (Nat×Nat)}{s k id lI:Nat}(aK Dw:Nat)(h:L.getD i false=true)(hc:pK.ok L i (.some G s k id lI))(e:s+(k+1)=i):pK.ok L (i+1) (.some G s (k+1) aK Dw):=by
 unfold pK.ok at hc⊢;rcases hc with⟨h1,h2,h3⟩|⟨h1,h3⟩
 ·refine .inl ⟨by omega,fun j hj=> ?_,h3⟩
  by_cases e2:j=k+1
  ·rw[e2,h1];exact h
  ·exact h2 j (by omega)
 ·omega
theorem aI5{L:List Bool}{i:Nat}{G:List (Nat×Nat)}{s k id lI:Nat}(aK Dw:Nat)(h:L.getD i false=true)(hc:pK.ok L i (.some G s k id lI))(e:s+(k+1)≠i):pK.ok L (i+1) (.some (G++[(s,k+1)]) i 0 aK Dw):=by
 unfold pK.ok at hc⊢;rcases hc with⟨h1,h2,h3⟩|⟨h1,h3⟩
 ·omega
 ·refine .inl ⟨by omega,fun j hj=>by obtain rfl:j=0:=by omega
                                     exact h,?_⟩
  rw[kA];exact h3
theorem Ro{L:List Bool}{i:Nat}{G:List (Nat×Nat)}{s k id lI:Nat}(hc:pK.ok L i (.some G s k id lI)):s+(k+1)<=i:=by
 rcases hc with⟨h1,_,_⟩|⟨h1,_⟩<;>omega
theorem aI6{L:List Bool}{G:List (Nat×Nat)}{s k id lI:Nat}(hc:pK.ok L L.length (.some G s k id lI)):gN L 0=G++[(s,k+1)]:=by
 rcases hc with⟨h1,h2,h3⟩|⟨h1,h3⟩
 ·rw[WW (by omega) h2 (.inl h1),WX (by omega)]at h3
  exact h3.symm
 ·rw[WX (cA _)]at h3
  exact h3.symm
theorem aI7{L:List Bool}(hc:pK.ok L L.length .none):gN L 0=[]:=by
 have h:gN (L.drop L.length) L.length=gN L 0:=hc;rw[WX (cA _)]at h;exact h.symm
def G8:pK->Int
 | .none=> -2
 | .some _ s k _ _=>(s:Int)+(k:Int)
def opsV:pK->AV
 | .none=> .c (.slice none 0 0)
 | .some G _ _ id _=> .own id 0 (G.length+1)
def y9(a:Int)(G:List (Nat×Nat))(s k lI:Nat):List (List AV):=aA bC (G.map (lH a))++[[zV 0,zV (a+16+(s:Int)),.own lI 0 (k+1)]]
def G9(a:Int):pK->List (Nat×Option aI)
 | .none=> []
 | .some G s k id lI=> [(id,some (.cells 100 3 (y9 a G s k lI) true true)),(lI,some (.cells 124 8 (aA aQ (List.replicate (k+1) aO)) true true))]
theorem aI8(a:Int)(G:List (Nat×Nat))(s k lI d':Nat):(y9 a G s k lI).set G.length [zV 0,zV (a+16+(s:Int)),.own d' 0 (k+1+1)]=y9 a G s (k+1) d':=by
 have hl:(aA bC (G.map (lH a))).length=G.length:=by rw[fZ,mJ]
 unfold y9;rw[Xz _ _ (by omega),hl,tG]
 rfl
def ML(m:Nat)(lo:Nat):pK->Prop
 | .none=>True
 | .some G s _ id lI=>lo<=id/\id<m/\lo<=lI/\lI<m/\id≠lI/\G.length<=s
end Go.Proofs.YtioafciifiggaaaGreatDoor
