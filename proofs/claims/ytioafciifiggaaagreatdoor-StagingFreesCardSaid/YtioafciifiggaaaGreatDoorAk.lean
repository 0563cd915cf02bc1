/- Staging. No condition. -/
import Derived.Test.YtioafciifiggaaaGreatDoorL0
import Derived.Test.YtioafciifiggaaaGreatDoorAj
import Derived.Test.YtioafciifiggaaaGreatDoorLg
set_option linter.all false
namespace Go.Proofs.YtioafciifiggaaaGreatDoor
open Go.Proofs Go.AL
set_option maxRecDepth 100000
set_option maxHeartbeats 1000000
attribute [local irreducible] cH AW b9 dR eH hold
def iQ(src:List Int):Int×List Int×Int:=if(aP src).2.2=0 then(if 65536<(aP src).1 then(0,[],5)else aP src)else(0,[],(aP src).2.2)
def rK{α:Type}(one:List Int->α×List Int×Int):Nat->List Int->List α->List α×List Int×Int
 |0,src,out=>(out,src,0)
 |f+1,src,out=>if(one src).2.2=0 then rK one f (one src).2.1 (out++[(one src).1])else([],[],(one src).2.2)
theorem IL{α:Type}(one:List Int->α×List Int×Int)(f:Nat)(src:List Int)(out:List α):rK one (f+1) src out=if(one src).2.2=0 then rK one f (one src).2.1 (out++[(one src).1])else([],[],(one src).2.2):=rfl
theorem P1{α:Type}(one:List Int->α×List Int×Int)(src:List Int)(out:List α):rK one 0 src out=(out,src,0):=rfl
def eI{α:Type}(one:List Int->α×List Int×Int)(src:List Int):List α×List Int×Int:=if(iQ src).2.2=0 then rK one (iQ src).1.toNat (iQ src).2.1 []else([],[],(iQ src).2.2)
def Xl(l:List Int):aH:=((l.getD 0 0,l.getD 1 0,l.getD 2 0,l.getD 3 0),(l.getD 4 0,l.getD 5 0,l.getD 6 0,l.getD 7 0))
def pL(src:List Int):aH×List Int×Int:=if src.length<8 then(aE,[],10)else(Xl src,src.drop 8,0)
def jK(src:List Int):eW×List Int×Int:=
 if(aP src).2.2=0 then
  if(aP (aP src).2.1).2.2=0 then(((aP src).1,(aP (aP src).2.1).1,(eI pL (aP (aP src).2.1).2.1).1),(eI pL (aP (aP src).2.1).2.1).2.1,(eI pL (aP (aP src).2.1).2.1).2.2)
  else(qT,[],(aP (aP src).2.1).2.2)
 else(qT,[],(aP src).2.2)
def KW{α:Type}(one:List Int->α×List Int×Int):Prop:=∀src,(∀x∈src,aV x)->(∀x∈(one src).2.1,aV x)/\(one src).2.1.length<=src.length
theorem Im:KW aP:=fun src h=>tQ h
theorem Ac:KW iQ:=fun src h=>by
 unfold iQ;have:=tQ h;split
 ·split
  ·exact⟨fun x hx=>by simp at hx,by simp⟩
  ·exact this
 ·exact⟨fun x hx=>by simp at hx,by simp⟩
theorem Xm{α:Type}{one:List Int->α×List Int×Int}(h1:KW one):∀(f:Nat) (src:List Int) (out:List α),(∀x∈src,aV x)->(∀x∈(rK one f src out).2.1,aV x)/\(rK one f src out).2.1.length<=src.length
 |0,src,out,h=>⟨h,cE _⟩
 |f+1,src,out,h=>by
  rw[IL];split
  ·have h2:=h1 src h
   have h3:=Xm h1 f _ (out++[(one src).1]) h2.1;exact⟨h3.1,by omega⟩
  ·exact⟨fun x hx=>by simp at hx,by simp⟩
theorem Ad{α:Type}{one:List Int->α×List Int×Int}(h1:KW one):KW (eI one):=fun src h=>by
 unfold eI;have h2:=Ac src h;split
 ·have h3:=Xm h1 (iQ src).1.toNat _ [] h2.1
  exact⟨h3.1,by omega⟩
 ·exact⟨fun x hx=>by simp at hx,by simp⟩
theorem Xn:KW pL:=fun src h=>by
 unfold pL;split
 ·exact⟨fun x hx=>by simp at hx,by simp⟩
 ·exact⟨fun x hx=>h x (lJ hx),by simp⟩
theorem Xo:KW jK:=fun src h=>by
 unfold jK;have h1:=tQ h;have h2:=tQ h1.1;have h3:=Ad Xn _ h2.1;split
 ·split
  ·exact⟨h3.1,by simp only[];omega⟩
  ·exact⟨fun x hx=>by simp at hx,by simp⟩
 ·exact⟨fun x hx=>by simp at hx,by simp⟩
theorem Xp{α:Type}{one:List Int->α×List Int×Int}:∀(f:Nat) (src:List Int) (out:List α),(rK one f src out).1.length<=f+out.length
 |0,src,out=>by rw[P1];simp
 |f+1,src,out=>by
  rw[IL];split
  ·have:=Xp (one:=one) f (one src).2.1 (out++[(one src).1])
   simp only[bP,dK,fJ]at this;omega
  ·simp
theorem aZ3{src:List Int}:(iQ src).1<=65536:=by
 unfold iQ;split
 ·split
  ·simp
  ·omega
 ·simp
theorem V1{α:Type}{one:List Int->α×List Int×Int}(src:List Int):(eI one src).1.length<=65536:=by
 unfold eI;split
 ·have:=Xp (one:=one) (iQ src).1.toNat (iQ src).2.1 []
  have h2:=aZ3 (src:=src);simp only[fJ]at this;omega
 ·simp
theorem Xq{α:Type}{one:List Int->α×List Int×Int}{p:α->Prop}(hp:∀src,(one src).2.2=0->p (one src).1):∀(f:Nat) (src:List Int) (out:List α),(∀x∈out,p x)->∀x∈(rK one f src out).1,p x
 |0,src,out,h=>h
 |f+1,src,out,h=>by
  rw[IL];split
  ·rename_i g
   exact Xq hp f _ _ fun x hx=>by
    rcases lS.1 hx with hx|hx
    ·exact h x hx
    ·simp only[cG,jF,or_false]at hx
     subst hx;exact hp src g
  ·exact fun x hx=>by simp at hx
theorem aZ4{α:Type}{one:List Int->α×List Int×Int}{p:α->Prop}(hp:∀src,(one src).2.2=0->p (one src).1)(src:List Int):∀x∈(eI one src).1,p x:=by
 unfold eI;split
 ·exact Xq hp _ _ _ fun x hx=>by simp at hx
 ·exact fun x hx=>by simp at hx
theorem Xr:∀(f:Nat) (src:List Int) (i:Nat) (n:Int),(∀x∈src,aV x)->0<=n->0<=(jI f src i n).1
 |0,src,i,n,_,_=>by rw[Gy];simp
 |f+1,src,i,n,h,h0=>by
  rw[OM];have hp:=UA i;split
  ·rename_i hi
   have hx:=h _ (cQ 0 hi);have h1:0<=src.getD i 0 % 128*2 ^ (7*i):=Int.mul_nonneg (by omega) (by omega)
   split
   ·exact Xr f src (i+1) _ h (by omega)
   ·split
    ·simp
    ·simp only[];omega
  ·simp
theorem Ae{src:List Int}(h:∀x∈src,aV x):0<=(aP src).1:=by
 unfold aP;split
 ·exact Xr 8 src 0 0 h (by decide)
 ·simp
theorem Io{src:List Int}(h:∀x∈src,aV x)(h0:(iQ src).2.2=0):(aP src).1=(iQ src).1/\0<=(iQ src).1/\(iQ src).1<=65536/\(aP src).2.2=0:=by
 have h1:=Ae h;unfold iQ at h0⊢;split at h0
 ·rename_i g
  rw[if_pos g];split at h0
  ·exact absurd h0 (by decide)
  ·rename_i g2
   rw[if_neg g2];exact⟨rfl,h1,by omega,g⟩
 ·rename_i g
  exact absurd h0 g
def fW{α:Type}(enc:α->List Int)(l:List α):List Int:=aQ l.length++l.flatMap enc
def nS(s:aH):List Int:=[s.1.1,s.1.2.1,s.1.2.2.1,s.1.2.2.2,s.2.1,s.2.2.1,s.2.2.2.1,s.2.2.2.2]
def jR(w:eW):List Int:=aQ w.1++aQ w.2.1++fW nS w.2.2
theorem Xs{α:Type}(a:List α)(x z:α)(b:List α):(a++x::b).getD a.length z=x:=by simp
theorem Xt:∀(f m:Nat) (acc:Int) (pre rest:List Int),(m≠0\/pre.length=0)->1<=f->m<128 ^ f->acc+(m:Int)*2 ^ (7*pre.length)<=9007199254740991->
  jI f (pre++(vg m++rest)) pre.length acc=(acc+(m:Int)*2 ^ (7*pre.length),pre.length+(vg m).length,0)
 |0,m,acc,pre,rest,_,h,_,_=>by omega
 |f+1,m,acc,pre,rest,h0,_,hm,hb=>by
  have hp:=UA pre.length;rw[OM];by_cases h:m<128
  ·rw[OF h]
   have hg:(pre++([(m:Int)]++rest)).getD pre.length 0=(m:Int):=Xs pre _ 0 rest;have e:(m:Int) % 128=m:=by omega
   rw[if_pos (by simp),hg,if_neg (by omega),e,if_neg (by
    rintro(⟨h1,h2⟩|h1)
    ·rcases h0 with h0|h0<;>omega
    ·omega)]
   rfl
  ·rw[TS h]
   have hg:(pre++((((m % 128+128:Nat):Int)::vg (m/128))++rest)).getD pre.length 0=((m % 128+128:Nat):Int):=Xs pre _ 0 _;have e:(((m % 128+128:Nat):Int)) % 128=((m % 128:Nat):Int):=by omega
   have hs:pre++((((m % 128+128:Nat):Int)::vg (m/128))++rest)=(pre++[((m % 128+128:Nat):Int)])++(vg (m/128)++rest):=by simp
   have hl:(pre++[((m % 128+128:Nat):Int)]).length=pre.length+1:=by simp
   have D7:=Uy pre.length
   have hmd:((m % 128:Nat):Int)*2 ^ (7*pre.length)+((m/128:Nat):Int)*2 ^ (7*(pre.length+1))=(m:Int)*2 ^ (7*pre.length):=by
    rw[D7,<-Int.mul_assoc,<-Int.add_mul];congr 1;omega
   have hf:1<=f:=by
    rcases f with _|f
    ·simp at hm;omega
    ·omega
   have ih:=Xt f (m/128) (acc+((m % 128:Nat):Int)*2 ^ (7*pre.length)) (pre++[((m % 128+128:Nat):Int)]) rest (.inl (by omega)) hf (by rw[Nat.pow_succ]at hm;omega) (by rw[hl];omega)
   rw[if_pos (by simp),hg,if_pos (by omega),e,hs,<-hl,ih,hl]
   simp only[dK,cD,and_true];refine⟨by omega,by omega⟩
theorem EM{n:Int}(h0:0<=n)(h1:n<=9007199254740991)(rest:List Int):aP (aQ n++rest)=(n,rest,0):=by
 have hc:pE n=n.toNat:=by unfold pE;rw[if_neg (by omega)]
 have cB2:(128:Nat) ^ 8=72057594037927936:=by decide
 have e:((n.toNat:Nat):Int)=n:=by omega
 have h:=Xt 8 n.toNat 0 [] rest (.inr rfl) (by decide) (by omega) (by simp only[fJ,Tp,Int.pow_zero,Fx];omega)
 simp only[pW,fJ,Tp,Int.pow_zero,Fx,pJ,Tq]at h;unfold aP aQ;rw[hc,h,if_pos rfl];simp only[e,aF3]
theorem aZ5{n:Nat}(h1:n<=65536)(rest:List Int):iQ (aQ (n:Int)++rest)=((n:Int),rest,0):=by
 unfold iQ;rw[EM (by omega) (by omega) rest]
 rw[if_pos rfl,if_neg (by simp only[];omega)]
theorem Xu{α:Type}{one:List Int->α×List Int×Int}{enc:α->List Int}:∀(l out:List α) (rest:List Int),(∀x∈l,∀rest,one (enc x++rest)=(x,rest,0))->rK one l.length (l.flatMap enc++rest) out=(out++l,rest,0)
 |[],out,rest,_=>by rw[fJ,P1];simp
 |x::l,out,rest,h=>by
  have h1:=h x (by simp) (l.flatMap enc++rest)
  have e:(x::l).flatMap enc++rest=enc x++(l.flatMap enc++rest):=by simp
  rw[e,dK,IL,h1,if_pos rfl];simp only[];rw[Xu l (out++[x]) rest fun y hy=>h y (by simp[hy])]
  simp
theorem Ip{α:Type}{one:List Int->α×List Int×Int}{enc:α->List Int}(l:List α)(hl:l.length<=65536)(h:∀x∈l,∀rest,one (enc x++rest)=(x,rest,0))(rest:List Int):eI one (fW enc l++rest)=(l,rest,0):=by
 unfold eI fW;rw[fF,aZ5 hl,if_pos rfl];simp only[mE];have:=Xu (one:=one) (enc:=enc) l [] rest h;rw[this];rfl
theorem aZ6(s:aH)(rest:List Int):pL (nS s++rest)=(s,rest,0):=by
 unfold pL nS;rw[if_neg (by simp)]
 rfl
theorem aZ7{w:eW}(h1:0<=w.1/\w.1<=9007199254740991)(h2:0<=w.2.1/\w.2.1<=9007199254740991)(h3:w.2.2.length<=65536)(rest:List Int):jK (jR w++rest)=(w,rest,0):=by
 unfold jK jR;rw[fF,fF];rw[EM h1.1 h1.2];simp only[];rw[EM h2.1 h2.2];simp only[];rw[Ip w.2.2 h3 (fun x _ rest=>aZ6 x rest)]
 rfl
end Go.Proofs.YtioafciifiggaaaGreatDoor
namespace Go.Proofs.YtioafciifiggaaaGreatDoor
open Go.Proofs Go.AL
set_option maxRecDepth 100000
set_option maxHeartbeats 1000000
attribute [local irreducible] cH AW b9 dR eH hold
attribute [local irreducible] jI
def kW(src:List Int):aI:= .cells 376 1 [[.snap (aA aN src)]] true false
def lL{α:Type}(x:α×List Int×Int):Option aI:=if x.2.2=0 then some (kW x.2.1)else none
theorem Af(src:List Int)(hb:∀x∈src,aV x)(hl:src.length<=100000)(id:Nat):l6 Tryz.prog 212 [.ptr id 0 0] id (kW src) (lL (aP src)) (.aU [zV (aP src).1,zV (aP src).2.2]) 100:=by
 refine mstart Tryz.func212 Tryz.ntmps212 ?_;intro N G aB jL hG;have hE:∀F,jI 8 src 0 0=F->aP src=if F.2.2=0 then(F.1,src.drop F.2.1,0)else(0,[],F.2.2):=fun F h=>by unfold aP;rw[h]
 generalize aP src=X at*;unfold kW at jL;unfold lL kW;refine bW ?_;have hg:=gB src;generalize hF:jI 8 src 0 0=F at hE;have hX:∀F0,F=F0->X=if F0.2.2=0 then(F0.1,src.drop F0.2.1,0)else(0,[],F0.2.2):=fun F0 h=>by rw[<-h];exact hE F rfl
 clear hE;refine P2 (α:=Int) (G:=G) 8 (fun k n=> [(7,true,zV k),(4,true,zV n),(0,true,.ptr id 0 0)]) (fun _ _=> []) (fun k m n=>(N<=m/\m<=N+50)/\jI (8-k) src k n=F/\0<=n/\n<2 ^ (7*k)) ⟨N,0,⟨⟨cE _,by omega⟩,hF,by decide,by decide⟩,qC⟩ (fun k m n hk hR=> ?_) (fun m n hR=> ?_)
 ·obtain⟨h1,h2,h3,h4⟩:=hR
  have w0:IntKind.i64.wrap (7*(k:Int))=((7*k:Nat):Int):=by rw[IntWalk.i64_in _ (by omega)];omega
  by_cases g1:k<src.length
  ·have hx:=hb _ (cQ 0 g1)
   obtain⟨w1,w2,w3,w4⟩:=Uz (b:=src.getD k 0) hk h3 h4;have a1:=Uw hx.1 hx.2;have a2:=Ux hx.1 hx.2;obtain⟨f,hf⟩:∃f,8-k=f+1:=⟨7-k,by omega⟩
   have sR:8-(k+1)=f:=by omega
   rw[hf]at h2;have wm:min (7*k) 64=7*k:=by omega
   have fD:=hg k g1;clear hb hg hF;generalize hv:src.getD k 0=b at*;rw[OM,if_pos g1,hv]at h2;generalize ID:(2:Int) ^ (7*k)=p at*;have hp:(2:Int) ^ min (7*k) 64=p:=by rw[wm,ID]
   clear wm h4;generalize hq:b % 128*p=q at*;have w5:bB (n+q<2 ^ (7*(k+1))):=⟨w4⟩;clear w4;by_cases g2:128<=b
   ·rw[if_pos g2]at a2
    have h5:bB (jI (8-(k+1)) src (k+1) (n+q)=F):=⟨by rw[sR,<-h2,if_pos g2]⟩
    clear h2 sR hf;refine bW ?_;exact⟨m,_,⟨h1,h5.out,w3,w5.out⟩,qC⟩
   ·rw[if_neg g2]at a2
    have h5:F=if(b=0/\0<k)\/9007199254740991<n+q then(0,0,3)else(n+q,k+1,0):=by
     rw[<-h2,if_neg g2]
    clear h2 sR hf;by_cases g3:b=0/\0<k
    ·have h6:F=(0,0,3):=by rw[h5,if_pos (.inl g3)]
     obtain⟨g4,g5⟩:=g3;have g6:(0:Int)<k:=by omega
     have hY:=hX _ h6;rw[if_neg (by decide)]at hY
     clear hX;subst hY;clear h5 h6;rw[if_neg (by decide)]
     have tP:(b==(0:Int))=true:=by rw[g4];rfl
     clear g4;refine bW ?_;exact kO
    ·by_cases g4:9007199254740991<n+q
     ·have h6:F=(0,0,3):=by rw[h5,if_pos (.inr g4)]
      have hY:=hX _ h6;rw[if_neg (by decide)]at hY
      clear hX;subst hY;clear h5 h6;rw[if_neg (by decide)]
      by_cases g5:b=0
      ·have g6:¬(0:Int)<k:=by omega
       clear g3;have tP:(b==(0:Int))=true:=by rw[g5];rfl
       clear g5;refine bW ?_;exact kO
      ·clear g3
       refine bW ?_;exact kO
     ·have h6:F=(n+q,k+1,0):=by rw[h5,if_neg (by omega)]
      have hY:=hX _ h6;rw[if_pos rfl]at hY;clear hX;subst hY;clear h5 h6;rw[if_pos rfl];have e3:(src.drop (k+1)).take (src.length-(k+1))=src.drop (k+1):=eD (by rw[eF];omega)
      by_cases g5:b=0
      ·have g6:¬(0:Int)<k:=by omega
       clear g3;have tP:(b==(0:Int))=true:=by rw[g5];rfl
       clear g5;refine bW ?_;exact kO
      ·clear g3
       refine bW ?_;exact kO
  ·have h9:F=(0,0,10):=by rw[<-h2,show 8-k=(7-k)+1 by omega];rw[OM,if_neg g1]
   have hY:=hX _ h9;rw[if_neg (by decide)]at hY
   clear hX;subst hY;clear h9 h2;rw[if_neg (by decide)]
   refine bW ?_;exact kO
 ·have h9:F=(0,0,3):=by rw[<-hR.2.1,CM,Gy]
  have hm:=hR.1;have hY:=hX _ h9;rw[if_neg (by decide)]at hY
  clear hX;subst hY;clear h9 hR;rw[if_neg (by decide)]
  refine bW ?_;exact kO
end Go.Proofs.YtioafciifiggaaaGreatDoor
namespace Go.Proofs.YtioafciifiggaaaGreatDoor
open Go.Proofs Go.AL
set_option maxRecDepth 100000
set_option maxHeartbeats 1000000
attribute [local irreducible] cH AW b9 dR eH hold
def xT:List Int:=List.replicate 8 4096
theorem Iq:pX xT=0:=by decide
def qE(c:jJ):List Int:=aQ c.base++aQ c.number++aQ c.time++fW aQ c.pos++fW jR c.writes
def sX:jJ:=⟨0,0,0,[],[]⟩
def nB(c:jJ):List Int×Int:=if zX c xT=0 then(if 65536<(qE c).length then([],5)else(qE c,0))else([],zX c xT)
def Ir(x1 x2 x3:Int×List Int×Int)(p:List Int×List Int×Int)(w:List eW×List Int×Int):jJ×Int:=
 if x1.2.2=0 then
  if x2.2.2=0 then
   if x3.2.2=0 then
    if p.2.2=0 then
     if w.2.2=0 then
      if w.2.1=[]then
       if zX ⟨x1.1,x2.1,x3.1,p.1,w.1⟩ xT=0 then(⟨x1.1,x2.1,x3.1,p.1,w.1⟩,0)else(sX,zX ⟨x1.1,x2.1,x3.1,p.1,w.1⟩ xT)
      else(sX,3)
     else(sX,w.2.2)
    else(sX,p.2.2)
   else(sX,x3.2.2)
  else(sX,x2.2.2)
 else(sX,x1.2.2)
def D8(b:List Int):jJ×Int:=
 if 65536<b.length then(sX,5)
 else Ir (aP b) (aP (aP b).2.1) (aP (aP (aP b).2.1).2.1) (eI aP (aP (aP (aP b).2.1).2.1).2.1) (eI jK (eI aP (aP (aP (aP b).2.1).2.1).2.1).2.1)
theorem Xv{sz:List Int}:∀(l:List eW) (p:Option eW),wK sz p l=0->∀w∈l,xK sz w=0
 |[],_,_,w,hw=>by simp at hw
 |x::l,p,h,w,hw=>by
  by_cases g:xK sz x=0
  ·have h2:∃p',wK sz p' l=0:=by
    simp only[wK]at h;rw[if_pos g]at h;cases p with
    |none=>exact⟨_,h⟩
    |some y=>
     simp only[]at h;split at h
     ·exact absurd h (by decide)
     ·exact⟨_,h⟩
   obtain⟨p',h2⟩:=h2;rcases cG.1 hw with rfl|hw
   ·exact g
   ·exact Xv l p' h2 w hw
  ·simp only[wK]at h
   rw[if_neg g]at h;exact absurd h g
structure aZ8(c:jJ):Prop where
 base:0<=c.base/\c.base<c.number
 number:c.number<=1073741824
 time:0<=c.time/\c.time<=1073741824
 pos:c.pos.length<=8/\∀x∈c.pos,0<=x/\x<=1073741824
 writes:∀w∈c.writes,(0<=w.1/\w.1<8)/\(0<=w.2.1/\w.2.1<=4096)/\1<=w.2.2.length/\w.2.2.length<=4096
theorem Xw{c:jJ}(h:zX c xT=0):aZ8 c:=by
 unfold zX at h;rw[if_pos Iq]at h;split at h
 ·exact absurd h (by decide)
 rename_i h1;split at h
 ·exact absurd h (by decide)
 rename_i h2;split at h
 ·rename_i h3
  unfold OQ at h3;split at h3
  ·exact absurd h3 (by decide)
  rename_i h4;split at h3
  ·exact absurd h3 (by decide)
  rename_i h5;unfold UJ at h;rw[if_pos Iq]at h;refine⟨by omega,by omega,by omega,⟨by omega,fun x hx=> ?_⟩,fun w hw=> ?_⟩
  ·have h6:zW x=false:=by
    cases hb:zW x with
    |false=>rfl
    |true=>exact absurd (vX.2 ⟨x,hx,hb⟩) h5
   unfold zW OP at h6;simp at h6;exact h6
  ·have h6:=Hl Iq (Xv _ _ h w hw)
   obtain⟨f1,f2,f3,f4,f5,f6⟩:=h6;have:xT.length=8:=rfl;exact⟨⟨f1,by omega⟩,⟨f4,by omega⟩,f3,by omega⟩
 ·rename_i h3
  exact absurd h h3
theorem aZ9(n:Int):1<=(aQ n).length:=by
 unfold aQ;generalize pE n=m;rw[vg];split<;>simp
theorem Xx{α:Type}{f:α->List Int}:∀(l:List α),(∀x∈l,1<=(f x).length)->l.length<=(l.flatMap f).length
 |[],_=>by simp
 |x::l,h=>by
  have h1:=Xx l fun y hy=>h y (by simp[hy])
  have h2:=h x (by simp)
  rw[O0,bP,dK];omega
theorem Is{c:jJ}(h:(nB c).2=0):D8 (nB c).1=(c,0)/\zX c xT=0/\(nB c).1=qE c/\(qE c).length<=65536:=by
 unfold nB at h⊢;split at h
 ·rename_i h0
  rw[if_pos h0];split at h
  ·exact absurd h (by decide)
  rename_i h1;rw[if_neg h1];refine⟨?_,h0,rfl,by omega⟩
  have k:=Xw h0;obtain⟨b,n,t,p,w⟩:=c;have k1:=k.base;have k2:=k.number;have k3:=k.time;have k4:=k.pos;have k5:=k.writes;simp only[]at k1 k2 k3 k4 k5
  have Ag:w.length<=65536:=by
   have h2:w.length<=(w.flatMap jR).length:=Xx w fun x _=>by
    unfold jR;have:=aZ9 x.1;simp only[bP];omega
   unfold qE fW at h1;simp only[bP]at h1;omega
  have e1:aP (qE ⟨b,n,t,p,w⟩)=(b,aQ n++(aQ t++(fW aQ p++(fW jR w++[]))),0):=by
   have:qE ⟨b,n,t,p,w⟩=aQ b++(aQ n++(aQ t++(fW aQ p++(fW jR w++[])))):=by unfold qE;simp
   rw[this];exact EM (by omega) (by omega) _
  have e2:=EM (n:=n) (by omega) (by omega) (aQ t++(fW aQ p++(fW jR w++[])))
  have e3:=EM (n:=t) (by omega) (by omega) (fW aQ p++(fW jR w++[]))
  have e4:=Ip (one:=aP) (enc:=aQ) p (by omega) (fun x hx rest=>EM (k4.2 x hx).1 (by have:=(k4.2 x hx).2;omega) rest) (fW jR w++[])
  have e5:=Ip (one:=jK) (enc:=jR) w Ag (fun x hx rest=>aZ7 (by have:=k5 x hx;omega) (by have:=k5 x hx;omega) (by have:=k5 x hx;omega) rest) []
  unfold D8;rw[if_neg h1,e1];simp only[];rw[e2];simp only[];rw[e3];simp only[];rw[e4];simp only[];rw[e5];unfold Ir;simp only[if_true];rw[if_pos h0]
 ·rename_i h0
  exact absurd h h0
structure It where
 number:Int
 index:Int
 parts:Int
 sum:Int
 piece:List Int
def BQ:It:=⟨0,0,0,0,[]⟩
def KX(n i p s:Int)(l:List Int):Prop:=n<1\/1073741824<n\/p<=i\/65536<p\/4294967295<s\/l=[]\/4096<l.length
instance (n i p s:Int)(l:List Int):Decidable (KX n i p s l):=by unfold KX;exact inferInstance
def Ah(x1 x2 x3 x4:Int×List Int×Int):It×Int:=
 if x1.2.2=0 then
  if x2.2.2=0 then
   if x3.2.2=0 then
    if x4.2.2=0 then
     if KX x1.1 x2.1 x3.1 x4.1 x4.2.1 then(BQ,3)else(⟨x1.1,x2.1,x3.1,x4.1,x4.2.1⟩,0)
    else(BQ,x4.2.2)
   else(BQ,x3.2.2)
  else(BQ,x2.2.2)
 else(BQ,x1.2.2)
def bZ(b:List Int):It×Int:=Ah (aP b) (aP (aP b).2.1) (aP (aP (aP b).2.1).2.1) (aP (aP (aP (aP b).2.1).2.1).2.1)
structure nT where
 number:Int
 parts:Int
 sum:Int
 bS:List (List Int)
 seen:List Bool
def rL:nT:=⟨0,0,0,[],[]⟩
def dF(l:List Int):List AV:=[.snap (aA aN l)]
def iZ(a:nT):List AV:=[zV a.number,zV a.parts,zV a.sum,.snap (aA dF a.bS),.snap (aA eJ a.seen)]
def lW(b:List Int):nT×Int:=
 if(bZ b).2=0 then(⟨(bZ b).1.number,(bZ b).1.parts,(bZ b).1.sum,(List.replicate (bZ b).1.parts.toNat []).set (bZ b).1.index.toNat (bZ b).1.piece,(List.replicate (bZ b).1.parts.toNat false).set (bZ b).1.index.toNat true⟩,0)
 else(rL,(bZ b).2)
def D9(a:nT)(i:Nat):Bool:=(decide (0<(a.bS.getD i []).length)==a.seen.getD i false)&&decide ((a.bS.getD i []).length<=4096)
def qF(a:nT):Int:=
 if a.number<1\/1073741824<a.number\/a.parts<1\/65536<a.parts\/a.sum<0\/4294967295<a.sum\/(a.bS.length:Int)≠a.parts\/(a.seen.length:Int)≠a.parts then 3
 else if(List.range a.bS.length).all (D9 a)=true then 0 else 3
def iA(a:nT)(b:List Int):nT×Int:=
 if qF a=0 then
  if(bZ b).2=0 then
   if(bZ b).1.number=a.number then
    if(bZ b).1.parts=a.parts/\(bZ b).1.sum=a.sum then
     if a.seen.getD (bZ b).1.index.toNat false=true/\a.bS.getD (bZ b).1.index.toNat []≠(bZ b).1.piece then(rL,22)
     else(⟨a.number,a.parts,a.sum,a.bS.set (bZ b).1.index.toNat (bZ b).1.piece,a.seen.set (bZ b).1.index.toNat true⟩,0)
    else(rL,22)
   else(rL,7)
  else(rL,(bZ b).2)
 else(rL,3)
def rM(a:nT):jJ×Int:=
 if qF a=0 then
  if a.seen.all id=true then
   if 65536<a.bS.flatten.length then(sX,5)
   else if fV a.bS.flatten=a.sum then
    if(D8 a.bS.flatten).2=0 then
     if(D8 a.bS.flatten).1.number=a.number then((D8 a.bS.flatten).1,0)else(sX,22)
    else(sX,(D8 a.bS.flatten).2)
   else(sX,9)
  else(sX,15)
 else(sX,3)
def V2(n i p s:Int)(l:List Int):List Int:=aQ n++aQ i++aQ p++aQ s++l
def iJ(b:List Int)(most i:Nat):List Int:=(b.drop (i*most)).take most
def sY(len most:Nat):Nat:=(len+most-1)/most
def kP(c:jJ)(most:Int):List (List Int)×Int:=
 if(nB c).2=0 then
  if most<1\/4096<most then([],2)
  else((List.range (sY (nB c).1.length most.toNat)).map fun(i:Nat)=>V2 c.number (i:Int) ((sY (nB c).1.length most.toNat:Nat):Int) (fV (nB c).1) (iJ (nB c).1 most.toNat i),0)
 else([],(nB c).2)
end Go.Proofs.YtioafciifiggaaaGreatDoor
namespace Go.Proofs.YtioafciifiggaaaGreatDoor
open Go.Proofs Go.AL
set_option maxRecDepth 100000
set_option maxHeartbeats 1000000
attribute [local irreducible] cH AW b9 dR eH hold
attribute [local irreducible] jI
theorem Iu(src:List Int)(hb:∀x∈src,aV x)(hl:src.length<=100000)(id:Nat):l6 Tryz.prog 280 [.ptr id 0 0] id (kW src) (lL (iQ src)) (.aU [zV (aP src).1,zV (iQ src).2.2]) 200:=by
 refine mstart Tryz.func280 Tryz.ntmps280 ?_;intro N G aB jL hG;have c1:=Af src hb hl id;obtain⟨⟨x,r,e⟩,hX⟩:∃X,aP src=X:=⟨_,rfl⟩;have hL:iQ src=if e=0 then(if 65536<x then(0,[],5)else(x,r,e))else(0,[],e):=by unfold iQ;rw[hX]
 rw[hX]at c1;rw[hX,hL];clear hX hL hb;unfold lL kW at*;simp only[]at*;by_cases g:e=0
 ·subst g
  rw[if_pos rfl]at c1;rw[if_pos rfl];by_cases g2:65536<x
  ·rw[if_pos g2,if_neg (by decide)]
   refine bW ?_;exact kO
  ·rw[if_neg g2,if_pos rfl]
   refine bW ?_;exact kO
 ·rw[if_neg g]at c1
  rw[if_neg g,if_neg g];refine bW ?_;exact kO
theorem ba0(src:List Int)(hb:∀x∈src,aV x)(hl:src.length<=100000)(id:Nat):l6 Tryz.prog 281 [.ptr id 0 0] id (kW src) (if(aP src).2.2=0 then lL (aP (aP src).2.1)else none) (.aU (if(aP src).2.2=0 then [zV (aP src).1,zV (aP (aP src).2.1).1,zV (aP (aP src).2.1).2.2]else [zV 0,zV 0,zV (aP src).2.2])) 300:=by
 refine mstart Tryz.func281 Tryz.ntmps281 ?_;intro N G aB jL hG;have c1:=Af src hb hl id;have hle:=tQ hb;have c2:=Af (aP src).2.1 hle.1 (by omega) id
 generalize aP (aP src).2.1=Y at*;generalize aP src=X at*;obtain⟨x,r,e⟩:=X;obtain⟨y,r2,e2⟩:=Y;clear hb hle;unfold lL kW at*;simp only[]at*;by_cases g:e=0
 ·subst g
  rw[if_pos rfl]at*;rw[if_pos rfl];by_cases g2:e2=0
  ·subst g2
   rw[if_pos rfl]at*;refine bW ?_;exact kO
  ·rw[if_neg g2]at*
   refine bW ?_;exact kO
 ·rw[if_neg g]at*
  rw[if_neg g];refine bW ?_;exact kO
theorem ba1(src:List Int)(n:Nat)(hn:n<=100000)(hl:src.length<=100000)(id:Nat):l6 Tryz.prog 304 [.ptr id 0 0,zV n] id (kW src) (if src.length<n then none else some (kW (src.drop n))) (.aU (if src.length<n then [.snap (aA aN []),zV 10]else [.snap (aA aN (src.take n)),zV 0])) 50:=by
 refine mstart Tryz.func304 Tryz.ntmps304 ?_;intro N G aB jL hG;unfold kW at*;by_cases g:src.length<n
 ·rw[if_pos g,if_pos g]
  refine bW ?_;exact kO
 ·rw[if_neg g,if_neg g]
  have e3:(src.drop n).take (src.length-n)=src.drop n:=eD (by rw[eF];omega)
  refine bW ?_;exact kO
end Go.Proofs.YtioafciifiggaaaGreatDoor
