/- Staging. No condition. -/
import Derived.Test.YtioafciifiggaaaGreatDoorL0
import Derived.Test.YtioafciifiggaaaGreatDoorAk
import Derived.Test.YtioafciifiggaaaGreatDoorLg
set_option linter.all false
namespace Go.Proofs.YtioafciifiggaaaGreatDoor
open Go.Proofs Go.AL
set_option maxRecDepth 100000
set_option maxHeartbeats 1000000
attribute [local irreducible] cH AW b9 dR eH hold
attribute [local irreducible] jI
def uO:Nat->Nat->AV
 |0,_=> .c (.slice none 0 0)
 |k+1,id=> .own id 0 (k+1)
def wM(t:TypeId)(s:Nat)(rows:List (List AV)):Nat->Nat->List (Nat×Option aI)
 |0,_=> []
 |k+1,id=> [(id,some (.cells t s rows true true))]
@[go_sem] theorem Xy(id:Nat):uO 0 id= .c (.slice none 0 0):=rfl
@[go_sem] theorem cB3(k id:Nat):uO (k+1) id= .own id 0 (k+1):=rfl
@[go_sem] theorem Xz(t:TypeId)(s:Nat)(rows:List (List AV))(id:Nat):wM t s rows 0 id=[]:=rfl
@[go_sem] theorem cB4(t:TypeId)(s:Nat)(rows:List (List AV))(k id:Nat):wM t s rows (k+1) id=[(id,some (.cells t s rows true true))]:=rfl
theorem ba2(src:List Int)(hb:∀x∈src,aV x)(hl:src.length<=100000)(id:Nat):l6 Tryz.prog 244 [.ptr id 0 0,.fn (.func 212) [] []] id (kW src) (lL (eI aP src)) (.aU [.snap (aA bD (eI aP src).1),zV (eI aP src).2.2]) 10000000:=by
 refine mstart Tryz.func244 Tryz.ntmps244 ?_;intro N G aB jL hG;have c1:=Iu src hb hl id;have hM:eI aP src=if(iQ src).2.2=0 then rK aP (iQ src).1.toNat (iQ src).2.1 []else([],[],(iQ src).2.2):=rfl
 have hle:=Ac src hb;have xU:=Io hb;generalize eI aP src=M at*;by_cases g:(iQ src).2.2=0
 ·obtain⟨i1,i2,i3,i4⟩:=xU g
  rw[if_pos g]at hM;rw[i1,g]at c1;obtain⟨s,hs⟩:∃s,(iQ src).2.1=s:=⟨_,rfl⟩;obtain⟨n,hn⟩:∃n:Nat,(iQ src).1=n:=⟨_,(aF8 i2).symm⟩;unfold lL at c1;rw[if_pos g,hs,hn]at c1;rw[hn,hs,mE]at hM;rw[hs]at hle;rw[hn]at i3;clear i1 i2 i4 xU g hn hs hb;unfold kW at*;refine bW ?_;refine P2 (α:=(List Int×List Int)×Nat) (G:=G) n (fun k a=> [(20,true,zV k),(19,true,zV n),(8,true,uO k a.2),(1,true,.fn (.func 212) [] []),(0,true,.ptr id 0 0)]) (fun k a=>(id,some (.cells 376 1 [[.snap (aA aN a.1.1)]] true false))::wM 3 1 (aA bD a.1.2) k a.2) (fun k m a=>(N<=m/\m<=N+300+110*k)/\((∀x∈a.1.1,aV x)/\a.1.1.length<=src.length)/\a.1.2.length=k/\rK aP (n-k) a.1.1 a.1.2=M/\(0<k->N<=a.2/\a.2<m)) ⟨N+250,((s,[]),0),⟨⟨by omega,by omega⟩,hle,rfl,hM.symm,fun h=>by omega⟩,qC⟩ (fun k m a hk hR=> ?_) (fun m a hR=> ?_)
  ·obtain⟨⟨s',out⟩,V3⟩:=a
   obtain⟨⟨h1,DA⟩,⟨h2,h3⟩,h4,h5,h6⟩:=hR;simp only[]at h1 DA h2 h3 h4 h5 h6⊢;obtain⟨f,hf⟩:∃f,n-k=f+1:=⟨n-k-1,by omega⟩
   rw[hf,IL]at h5;have c2:=Af s' h2 (by omega) id
   have cW:=Im s' h2;have sR:n-(k+1)=f:=by omega
   clear c1 hM hle;generalize aP s'=X at*;obtain⟨x,r,e⟩:=X;simp only[]at*;unfold lL kW at c2;simp only[]at c2;have DB:(out++[x]).length=k+1:=by simp[h4]
   by_cases g:e=0
   ·subst g
    rw[if_pos rfl]at c2 h5;have h7:bB (rK aP (n-(k+1)) r (out++[x])=M):=⟨by rw[sR];exact h5⟩
    have h8:bB ((∀x∈r,aV x)/\r.length<=src.length):=⟨cW.1,by omega⟩
    clear h5 hf sR h2 cW;cases k with
    |zero=>
     have h9:out=[]:=jQ h4;subst h9;clear h6;refine bW ?_;exact⟨m+102,((r,[x]),m+100+1),⟨⟨by omega,by omega⟩,h8.out,DB,h7.out,fun _=>⟨by simp only[];omega,by simp only[];omega⟩⟩,qC⟩
    |succ j=>
     obtain⟨h9,dY⟩:=h6 (by omega)
     refine bW ?_;exact⟨m+102,((r,out++[x]),m+100+1),⟨⟨by omega,by omega⟩,h8.out,DB,h7.out,fun _=>⟨by simp only[];omega,by simp only[];omega⟩⟩,qC⟩
   ·rw[if_neg g]at c2 h5
    subst h5;unfold lL;rw[if_neg g];clear h2 cW hf sR DB;cases k with
    |zero=>
     refine bW ?_;exact kO
    |succ j=>
     obtain⟨h9,dY⟩:=h6 (by omega)
     refine bW ?_;exact kO
  ·obtain⟨⟨s',out⟩,V3⟩:=a
   obtain⟨⟨h1,DA⟩,⟨h2,h3⟩,h4,h5,h6⟩:=hR;simp only[]at h1 DA h2 h3 h4 h5 h6⊢;rw[CM,P1]at h5;subst h5;unfold lL kW;rw[if_pos rfl];clear c1 hM hle h2;cases n with
   |zero=>
    have h9:out=[]:=jQ h4;subst h9;refine bW ?_;exact kO
   |succ j=>
    obtain⟨h9,dY⟩:=h6 (by omega)
    have oC:out.take (j+1)=out:=eD (by omega)
    refine bW ?_;exact kO
 ·rw[if_neg g]at hM
  subst hM;unfold lL at*;rw[if_neg g]at c1;rw[if_neg g];clear hle xU hb;generalize (iQ src).2.2=e at*;unfold kW at*;refine bW ?_;exact kO
theorem ba3{l:List Int}(h:8<=l.length):∃x0 x1 x2 x3 x4 x5 x6 x7 r,l=x0::x1::x2::x3::x4::x5::x6::x7::r:=by
 rcases l with _|⟨x0,_|⟨x1,_|⟨x2,_|⟨x3,_|⟨x4,_|⟨x5,_|⟨x6,_|⟨x7,r⟩⟩⟩⟩⟩⟩⟩⟩
 case cons.cons.cons.cons.cons.cons.cons.cons=>exact⟨x0,x1,x2,x3,x4,x5,x6,x7,r,rfl⟩
 all_goals (simp only[dK,fJ]at h;omega)
theorem ba4(src:List Int)(hl:src.length<=100000)(id:Nat):l6 Tryz.prog 297 [.ptr id 0 0] id (kW src) (lL (pL src)) (.aU [.agg (aS (pL src).1),zV (pL src).2.2]) 100:=by
 refine mstart Tryz.func297 Tryz.ntmps297 ?_;intro N G aB jL hG;have c1:=ba1 src 8 (by decide) hl id
 unfold pL lL kW at*;by_cases g:src.length<8
 ·rw[if_pos g,if_pos g]at c1
  rw[if_pos g,if_neg (by decide)]
  refine bW ?_;exact kO
 ·rw[if_neg g,if_neg g]at c1
  rw[if_neg g,if_pos rfl];obtain⟨x0,x1,x2,x3,x4,x5,x6,x7,r,rfl⟩:=ba3 (by omega:8<=src.length)
  have e1:(x0::x1::x2::x3::x4::x5::x6::x7::r).take 8=[x0,x1,x2,x3,x4,x5,x6,x7]:=rfl;have e2:(x0::x1::x2::x3::x4::x5::x6::x7::r).drop 8=r:=rfl;have e3:aS (Xl (x0::x1::x2::x3::x4::x5::x6::x7::r))=[uV x0,uV x1,uV x2,uV x3,uV x4,uV x5,uV x6,uV x7]:=rfl;have e4:(aA aN [x0,x1,x2,x3,x4,x5,x6,x7]).flatten=[uV x0,uV x1,uV x2,uV x3,uV x4,uV x5,uV x6,uV x7]:=rfl;have e5:([x0,x1,x2,x3,x4,x5,x6,x7]:List Int).take 8=[x0,x1,x2,x3,x4,x5,x6,x7]:=rfl
  simp only[e1,e2,e3]at c1⊢;clear e1 e2 e3 g hl;refine bW ?_;exact kO
theorem ba5(src:List Int)(hb:∀x∈src,aV x)(hl:src.length<=100000)(id:Nat):l6 Tryz.prog 296 [.ptr id 0 0,.fn (.func 297) [] []] id (kW src) (lL (eI pL src)) (.aU [.snap (aA aS (eI pL src).1),zV (eI pL src).2.2]) 10000000:=by
 refine mstart Tryz.func296 Tryz.ntmps296 ?_;intro N G aB jL hG;have c1:=Iu src hb hl id;have hM:eI pL src=if(iQ src).2.2=0 then rK pL (iQ src).1.toNat (iQ src).2.1 []else([],[],(iQ src).2.2):=rfl
 have hle:=Ac src hb;have xU:=Io hb;generalize eI pL src=M at*;by_cases g:(iQ src).2.2=0
 ·obtain⟨i1,i2,i3,i4⟩:=xU g
  rw[if_pos g]at hM;rw[i1,g]at c1;obtain⟨s,hs⟩:∃s,(iQ src).2.1=s:=⟨_,rfl⟩;obtain⟨n,hn⟩:∃n:Nat,(iQ src).1=n:=⟨_,(aF8 i2).symm⟩;unfold lL at c1;rw[if_pos g,hs,hn]at c1;rw[hn,hs,mE]at hM;rw[hs]at hle;rw[hn]at i3;clear i1 i2 i4 xU g hn hs hb;unfold kW at*;refine bW ?_;refine P2 (α:=(List Int×List aH)×Nat) (G:=G) n (fun k a=> [(20,true,zV k),(19,true,zV n),(8,true,uO k a.2),(1,true,.fn (.func 297) [] []),(0,true,.ptr id 0 0)]) (fun k a=>(id,some (.cells 376 1 [[.snap (aA aN a.1.1)]] true false))::wM 124 8 (aA aS a.1.2) k a.2) (fun k m a=>(N<=m/\m<=N+300+110*k)/\((∀x∈a.1.1,aV x)/\a.1.1.length<=src.length)/\a.1.2.length=k/\rK pL (n-k) a.1.1 a.1.2=M/\(0<k->N<=a.2/\a.2<m)) ⟨N+250,((s,[]),0),⟨⟨by omega,by omega⟩,hle,rfl,hM.symm,fun h=>by omega⟩,qC⟩ (fun k m a hk hR=> ?_) (fun m a hR=> ?_)
  ·obtain⟨⟨s',out⟩,V3⟩:=a
   obtain⟨⟨h1,DA⟩,⟨h2,h3⟩,h4,h5,h6⟩:=hR;simp only[]at h1 DA h2 h3 h4 h5 h6⊢;obtain⟨f,hf⟩:∃f,n-k=f+1:=⟨n-k-1,by omega⟩
   rw[hf,IL]at h5;have c2:=(fun s (h:∀x∈s,aV x) hl id=>ba4 s hl id) s' h2 (by omega) id
   have cW:=Xn s' h2;have sR:n-(k+1)=f:=by omega
   clear c1 hM hle;generalize pL s'=X at*;obtain⟨x,r,e⟩:=X;simp only[]at*;unfold lL kW at c2;simp only[]at c2;have DB:(out++[x]).length=k+1:=by simp[h4]
   by_cases g:e=0
   ·subst g
    rw[if_pos rfl]at c2 h5;have h7:bB (rK pL (n-(k+1)) r (out++[x])=M):=⟨by rw[sR];exact h5⟩
    have h8:bB ((∀x∈r,aV x)/\r.length<=src.length):=⟨cW.1,by omega⟩
    clear h5 hf sR h2 cW;cases k with
    |zero=>
     have h9:out=[]:=jQ h4;subst h9;clear h6;refine bW ?_;exact⟨m+104,((r,[x]),m+100+1+1+1),⟨⟨by omega,by omega⟩,h8.out,DB,h7.out,fun _=>⟨by simp only[];omega,by simp only[];omega⟩⟩,qC⟩
    |succ j=>
     obtain⟨h9,dY⟩:=h6 (by omega)
     refine bW ?_;exact⟨m+104,((r,out++[x]),m+100+1+1+1),⟨⟨by omega,by omega⟩,h8.out,DB,h7.out,fun _=>⟨by simp only[];omega,by simp only[];omega⟩⟩,qC⟩
   ·rw[if_neg g]at c2 h5
    subst h5;unfold lL;rw[if_neg g];clear h2 cW hf sR DB;cases k with
    |zero=>
     refine bW ?_;exact kO
    |succ j=>
     obtain⟨h9,dY⟩:=h6 (by omega)
     refine bW ?_;exact kO
  ·obtain⟨⟨s',out⟩,V3⟩:=a
   obtain⟨⟨h1,DA⟩,⟨h2,h3⟩,h4,h5,h6⟩:=hR;simp only[]at h1 DA h2 h3 h4 h5 h6⊢;rw[CM,P1]at h5;subst h5;unfold lL kW;rw[if_pos rfl];clear c1 hM hle h2;cases n with
   |zero=>
    have h9:out=[]:=jQ h4;subst h9;refine bW ?_;exact kO
   |succ j=>
    obtain⟨h9,dY⟩:=h6 (by omega)
    have oC:out.take (j+1)=out:=eD (by omega)
    refine bW ?_;exact kO
 ·rw[if_neg g]at hM
  subst hM;unfold lL at*;rw[if_neg g]at c1;rw[if_neg g];clear hle xU hb;generalize (iQ src).2.2=e at*;unfold kW at*;refine bW ?_;exact kO
theorem ba6(src:List Int)(hb:∀x∈src,aV x)(hl:src.length<=100000)(id:Nat):l6 Tryz.prog 282 [.ptr id 0 0] id (kW src) (lL (eI pL src)) (.aU [.snap (aA aS (eI pL src).1),zV (eI pL src).2.2]) 10000000:=by
 refine mstart Tryz.func282 Tryz.ntmps282 ?_;intro N G aB jL hG;have c1:=ba5 src hb hl id;generalize eI pL src=M at*;obtain⟨x,r,e⟩:=M;unfold lL kW at*;simp only[]at*;clear hb;by_cases g:e=0
 ·rw[if_pos g]at*
  refine bW ?_;exact kO
 ·rw[if_neg g]at*
  refine bW ?_;exact kO
theorem ba7(src:List Int)(hb:∀x∈src,aV x)(hl:src.length<=100000)(id:Nat):l6 Tryz.prog 248 [.ptr id 0 0] id (kW src) (lL (jK src)) (.aU [.agg (bJ (jK src).1),zV (jK src).2.2]) 20000000:=by
 refine mstart Tryz.func248 Tryz.ntmps248 ?_;intro N G aB jL hG;have c1:=ba0 src hb hl id;have h1:=tQ hb;have h2:=tQ h1.1;have c2:=ba6 (aP (aP src).2.1).2.1 h2.1 (by omega) id
 unfold jK;generalize eI pL (aP (aP src).2.1).2.1=Z at*;generalize aP (aP src).2.1=Y at*;generalize aP src=X at*;obtain⟨x,r,e⟩:=X;obtain⟨y,r2,e2⟩:=Y;obtain⟨z,r3,e3⟩:=Z;clear hb h1 h2;unfold lL kW bJ at*;simp only[]at*;by_cases g:e=0
 ·subst g
  rw[if_pos rfl,if_pos rfl]at c1;by_cases g2:e2=0
  ·subst g2
   rw[if_pos rfl]at c1;rw[if_pos rfl,if_pos rfl];simp only[];by_cases g3:e3=0
   ·rw[if_pos g3]at*
    refine bW ?_;exact kO
   ·rw[if_neg g3]at*
    refine bW ?_;exact kO
  ·rw[if_neg g2]at c1
   rw[if_pos rfl,if_neg g2];simp only[];rw[if_neg g2];refine bW ?_;exact kO
 ·rw[if_neg g,if_neg g]at c1
  rw[if_neg g];simp only[];rw[if_neg g];refine bW ?_;exact kO
theorem ba8:∃d,∀(src:List Int) (hb:∀x∈src,aV x) (hl:src.length<=100000) (id:Nat),l6 Tryz.prog 248 [.ptr id 0 0] id (kW src) (lL (jK src)) (.aU [.agg (bJ (jK src).1),zV (jK src).2.2]) d:=⟨_,ba7⟩
theorem ba9(dW dL:Nat)(hdL:1000+(dW*65536+10*65536)<=dL)(hW:∀(src:List Int) (hb:∀x∈src,aV x) (hl:src.length<=100000) (id:Nat),l6 Tryz.prog 248 [.ptr id 0 0] id (kW src) (lL (jK src)) (.aU [.agg (bJ (jK src).1),zV (jK src).2.2]) dW)(src:List Int)(hb:∀x∈src,aV x)(hl:src.length<=100000)(id:Nat):l6 Tryz.prog 247 [.ptr id 0 0,.fn (.func 248) [] []] id (kW src) (lL (eI jK src)) (.aU [.snap (aA bJ (eI jK src).1),zV (eI jK src).2.2]) dL:=by
 refine mstart Tryz.func247 Tryz.ntmps247 ?_;intro N G aB jL hG;have c1:=Iu src hb hl id;have hM:eI jK src=if(iQ src).2.2=0 then rK jK (iQ src).1.toNat (iQ src).2.1 []else([],[],(iQ src).2.2):=rfl
 have hle:=Ac src hb;have xU:=Io hb;generalize eI jK src=M at*;by_cases g:(iQ src).2.2=0
 ·obtain⟨i1,i2,i3,i4⟩:=xU g
  rw[if_pos g]at hM;rw[i1,g]at c1;obtain⟨s,hs⟩:∃s,(iQ src).2.1=s:=⟨_,rfl⟩;obtain⟨n,hn⟩:∃n:Nat,(iQ src).1=n:=⟨_,(aF8 i2).symm⟩;unfold lL at c1;rw[if_pos g,hs,hn]at c1;rw[hn,hs,mE]at hM;rw[hs]at hle;rw[hn]at i3;clear i1 i2 i4 xU g hn hs hb;unfold kW at*;refine bW ?_;refine P2 (α:=(List Int×List eW)×Nat) (G:=G) n (fun k a=> [(20,true,zV k),(19,true,zV n),(8,true,uO k a.2),(1,true,.fn (.func 248) [] []),(0,true,.ptr id 0 0)]) (fun k a=>(id,some (.cells 376 1 [[.snap (aA aN a.1.1)]] true false))::wM 126 3 (aA bJ a.1.2) k a.2) (fun k m a=>(N<=m/\m<=N+300+(dW*k+10*k))/\((∀x∈a.1.1,aV x)/\a.1.1.length<=src.length)/\a.1.2.length=k/\rK jK (n-k) a.1.1 a.1.2=M/\(0<k->N<=a.2/\a.2<m)) ⟨N+250,((s,[]),0),⟨⟨by omega,by omega⟩,hle,rfl,hM.symm,fun h=>by omega⟩,qC⟩ (fun k m a hk hR=> ?_) (fun m a hR=> ?_)
  ·obtain⟨⟨s',out⟩,V3⟩:=a
   obtain⟨⟨h1,DA⟩,⟨h2,h3⟩,h4,h5,h6⟩:=hR;simp only[]at h1 DA h2 h3 h4 h5 h6⊢;obtain⟨f,hf⟩:∃f,n-k=f+1:=⟨n-k-1,by omega⟩
   rw[hf,IL]at h5;have c2:=hW s' h2 (by omega) id
   have cW:=Xo s' h2;have sR:n-(k+1)=f:=by omega
   clear c1 hM hle;generalize jK s'=X at*;obtain⟨⟨v,st,d⟩,r,e⟩:=X;unfold bJ at c2;simp only[]at c2;have hmul:dW*(k+1)=dW*k+dW:=Nat.mul_succ dW k;have GL:dW*(k+1)<=dW*65536:=Nat.mul_le_mul_left _ (by omega)
   simp only[]at*;unfold lL kW at c2;simp only[]at c2;have DB:(out++[(v,st,d)]).length=k+1:=by simp[h4]
   by_cases g:e=0
   ·subst g
    rw[if_pos rfl]at c2 h5;have h7:bB (rK jK (n-(k+1)) r (out++[(v,st,d)])=M):=⟨by rw[sR];exact h5⟩
    have h8:bB ((∀x∈r,aV x)/\r.length<=src.length):=⟨cW.1,by omega⟩
    clear h5 hf sR h2 cW;have jS:aA bJ out++[[zV v,zV st,.snap (aA aS d)]]=aA bJ (out++[(v,st,d)]):=sP (f:=bJ) out (v,st,d);cases k with
    |zero=>
     have h9:out=[]:=jQ h4;subst h9;clear h6;refine bW ?_;exact⟨m+dW+4,((r,[(v,st,d)]),m+dW+1+1+1),⟨⟨by omega,by omega⟩,h8.out,DB,h7.out,fun _=>⟨by simp only[];omega,by simp only[];omega⟩⟩,qC⟩
    |succ j=>
     obtain⟨h9,dY⟩:=h6 (by omega)
     refine bW ?_;exact⟨m+dW+4,((r,out++[(v,st,d)]),m+dW+1+1+1),⟨⟨by omega,by omega⟩,h8.out,DB,h7.out,fun _=>⟨by simp only[];omega,by simp only[];omega⟩⟩,qC⟩
   ·rw[if_neg g]at c2 h5
    subst h5;unfold lL;rw[if_neg g];clear h2 cW hf sR DB;cases k with
    |zero=>
     refine bW ?_;exact kO
    |succ j=>
     obtain⟨h9,dY⟩:=h6 (by omega)
     refine bW ?_;exact kO
  ·obtain⟨⟨s',out⟩,V3⟩:=a
   obtain⟨⟨h1,DA⟩,⟨h2,h3⟩,h4,h5,h6⟩:=hR;simp only[]at h1 DA h2 h3 h4 h5 h6⊢;rw[CM,P1]at h5;subst h5;unfold lL kW;rw[if_pos rfl];clear c1 hM hle h2;have rN:dW*n<=dW*65536:=Nat.mul_le_mul_left _ (by omega)
   cases n with
   |zero=>
    have h9:out=[]:=jQ h4;subst h9;refine bW ?_;exact kO
   |succ j=>
    obtain⟨h9,dY⟩:=h6 (by omega)
    have oC:out.take (j+1)=out:=eD (by omega)
    refine bW ?_;exact kO
 ·rw[if_neg g]at hM
  subst hM;unfold lL at*;rw[if_neg g]at c1;rw[if_neg g];clear hle xU hb;generalize (iQ src).2.2=e at*;unfold kW at*;refine bW ?_;exact kO
theorem bb0:∃d,∀(src:List Int) (hb:∀x∈src,aV x) (hl:src.length<=100000) (id:Nat),l6 Tryz.prog 247 [.ptr id 0 0,.fn (.func 248) [] []] id (kW src) (lL (eI jK src)) (.aU [.snap (aA bJ (eI jK src).1),zV (eI jK src).2.2]) d:=by
 obtain⟨dW,hW⟩:=ba8;exact⟨_,fun src hb hl id=>ba9 dW _ (cE _) hW src hb hl id⟩
theorem bb1:∃d,∀(src:List Int) (hb:∀x∈src,aV x) (hl:src.length<=100000) (id:Nat),l6 Tryz.prog 244 [.ptr id 0 0,.fn (.func 212) [] []] id (kW src) (lL (eI aP src)) (.aU [.snap (aA bD (eI aP src).1),zV (eI aP src).2.2]) d:=⟨_,ba2⟩
theorem Ya{α:Type}{one:List Int->α×List Int×Int}:∀(f:Nat) (src:List Int) (out:List α),(rK one f src out).2.2≠0->(rK one f src out).1=[]/\(rK one f src out).2.1=[]
 |0,src,out,h=>by rw[P1]at h;exact absurd rfl h
 |f+1,src,out,h=>by
  rw[IL]at h⊢;split at h
  ·rename_i g
   rw[if_pos g];exact Ya f _ _ h
  ·rename_i g
   rw[if_neg g];exact⟨rfl,rfl⟩
theorem Yb{α:Type}{one:List Int->α×List Int×Int}(src:List Int)(h:(eI one src).2.2≠0):(eI one src).1=[]/\(eI one src).2.1=[]:=by
 unfold eI at h⊢;split at h
 ·rename_i g
  rw[if_pos g];exact Ya _ _ _ h
 ·rename_i g
  rw[if_neg g];exact⟨rfl,rfl⟩
theorem bb2(src:List Int)(hb:∀x∈src,aV x)(hl:src.length<=100000):PC 207 [.snap (aA aN src)] (.aU [.snap (aA bD (eI aP src).1),.snap (aA aN (eI aP src).2.1),zV (eI aP src).2.2]):=by
 refine bI Tryz.func207 Tryz.ntmps207 (by simp only[go_sem]) ?_
 obtain⟨d,hd⟩:=bb1;have c1:=hd src hb hl 0;have hle:=Ad Im src hb;have he:(eI aP src).2.2≠0->(eI aP src).1=[]/\(eI aP src).2.1=[]:=Yb src;generalize eI aP src=M at*;obtain⟨x,r,e⟩:=M;simp only[]at hle;have c2:=BL r (by omega)
 clear hb hle hd;unfold lL kW at*;simp only[]at*;refine bW ?_;refine kA Tryz.func242 Tryz.ntmps242 ?_;refine bW ?_;refine kA Tryz.func243 Tryz.ntmps243 ?_;by_cases g:e=0
 ·subst g
  rw[if_pos rfl]at c1;clear he;refine bW ?_;exact aC
 ·rw[if_neg g]at c1
  obtain⟨rfl,rfl⟩:=he g;refine bW ?_;exact aC
theorem bb3(src:List Int)(hb:∀x∈src,aV x)(hl:src.length<=100000):PC 208 [.snap (aA aN src)] (.aU [.snap (aA bJ (eI jK src).1),.snap (aA aN (eI jK src).2.1),zV (eI jK src).2.2]):=by
 refine bI Tryz.func208 Tryz.ntmps208 (by simp only[go_sem]) ?_
 obtain⟨d,hd⟩:=bb0;have c1:=hd src hb hl 0;have hle:=Ad Xo src hb;have he:(eI jK src).2.2≠0->(eI jK src).1=[]/\(eI jK src).2.1=[]:=Yb src;generalize eI jK src=M at*;obtain⟨x,r,e⟩:=M;simp only[]at hle;have c2:=BL r (by omega)
 clear hb hle hd;unfold lL kW at*;simp only[]at*;refine bW ?_;refine kA Tryz.func245 Tryz.ntmps245 ?_;refine bW ?_;refine kA Tryz.func246 Tryz.ntmps246 ?_;by_cases g:e=0
 ·subst g
  rw[if_pos rfl]at c1;clear he;refine bW ?_;exact aC
 ·rw[if_neg g]at c1
  obtain⟨rfl,rfl⟩:=he g;refine bW ?_;exact aC
end Go.Proofs.YtioafciifiggaaaGreatDoor
namespace Go.Proofs.YtioafciifiggaaaGreatDoor
open Go.Proofs Go.AL
set_option maxRecDepth 100000
set_option maxHeartbeats 1000000
attribute [local irreducible] cH AW b9 dR eH hold
abbrev P3(v:mR):AV:= .c (.int .u32 (nV v))
theorem bb4(v:mR):bits .and .u32 (nV v) 1=nV v % 2:=by
 have h:=bits_mask .u32 32 (by decide) (fun n h0 h1=>by rw[IntKind.wrap_u32];omega) 1 (by decide) (nV v) (V0 v).1 (V0 v).2
 simpa using h
theorem bb5(v:mR):nV v % 2=if v.getLsbD 0 then 1 else 0:=by
 unfold nV;rw[BitVec.getLsbD,Nat.testBit_zero];by_cases h:v.toNat % 2=1
 ·simp[h];omega
 ·have:v.toNat % 2=0:=by omega
  simp[this];omega
theorem bb6(v:mR):bits .xor .u32 ((nV v).fdiv (2 ^ min 1 32)) (IntKind.u32.wrap (2197175160*(nV v % 2)))=nV (D6 v):=by
 have h1:=Xg v 1;rw[show min 1 32=1 from rfl,bb5,h1]
 unfold D6;cases v.getLsbD 0
 ·have h2:IntKind.u32.wrap (2197175160*(if false=true then 1 else 0))=nV 0#32:=by decide
  rw[h2,Ab];simp
 ·have h2:IntKind.u32.wrap (2197175160*(if true=true then 1 else 0))=nV Xh:=by decide
  rw[h2,Ab];simp
theorem Yc{b:Int}(h:aV b):∃n:Nat,b=n/\n<256:=by
 obtain⟨h0,h1⟩:=h;obtain⟨n,rfl⟩:=BA h0;exact⟨n,rfl,by omega⟩
theorem bb7(v:mR):bits .xor .u32 IntKind.u32.max (nV v)=nV (~~~ v):=by
 have h:(IntKind.u32.max:Int)=nV (BitVec.allOnes 32):=by decide
 rw[h,Ab,BitVec.allOnes_xor]
theorem Yd(v:mR):bits .xor .u32 (if IntKind.u32.signed=true then-1 else IntKind.u32.max) (nV v)=nV (~~~ v):=bb7 v
def kX(k:Nat):List AV:=(List.range 256).map fun i=>P3 (if i<k then nK 8 (BitVec.ofNat 32 i)else 0#32)
theorem DC(k:Nat):(kX k).length=256:=by simp[kX]
theorem Ye:List.replicate 256 (AV.c (.int .u32 0))=kX 0:=by kernel_rfl
theorem Ai{k i:Nat}(h:i<256):(kX k)[i]? =some (P3 (if i<k then nK 8 (BitVec.ofNat 32 i)else 0#32)):=by
 simp[kX,h]
theorem bb8{k:Nat}(h:k<256):(kX k).set k (P3 (nK 8 (BitVec.ofNat 32 k)))=kX (k+1):=by
 apply BE;intro i;rw[aF9];by_cases hi:i<256
 ·by_cases he:k=i
  ·subst he
   rw[if_pos rfl,if_pos (by rw[DC];exact h),Ai hi,if_pos (by omega)]
  ·rw[if_neg he,Ai hi,Ai hi]
   by_cases h3:i<k
   ·rw[if_pos h3,if_pos (by omega)]
   ·rw[if_neg h3,if_neg (by omega)]
 ·rw[if_neg (by omega),zL (by rw[DC];omega),zL (by rw[DC];omega)]
theorem Aj(k:Nat):∀x∈kX k,bK x:=fun x hx=>by
 simp only[kX,kV]at hx;obtain⟨i,_,rfl⟩:=hx;exact .c _
theorem Yf(k:Nat):(kX k).all AV.one=true:=by
 rw[gK];intro x hx;simp only[kX,kV]at hx;obtain⟨i,_,rfl⟩:=hx;rfl
theorem bb9(k:Nat)(G:Nat->Option aI):(kX k).map (sA G)=kX k:=by
 simp only[kX,I1];rfl
theorem bc0(v:mR):nK 0 v=v:=rfl
attribute [local irreducible] kX nK
theorem bc1:PC 194 [] (.agg (kX 256)):=by
 refine bI Tryz.func194 Tryz.ntmps194 (eV.2 (Aj 256)) ?_;have t0:=Ye;have tl:=DC;refine aG ?_;refine fK (α:=Unit) 256 (fun k _=> [(5,true,zV k),(1,true,.ptr 1 0 0),(0,true,.ptr 0 0 0)]) (fun k _=> [(0,some (.cells 304 256 [kX 0] true false)),(1,some (.cells 304 256 [kX k] true false))]) (fun k m _=>2<=m) ⟨1000,(),by omega,uG rfl (uG rfl (uG rfl (holds_nil (by decide) (sQ rfl (sQ rfl BH)))))⟩ (fun k m _ hk hm=> ?_) (fun m _ hm=> ?_)
 ·have hw:IntKind.u32.wrap (k:Int)=nV (BitVec.ofNat 32 k):=by
   rw[IntKind.wrap_u32];unfold nV;rw[YX];omega
  have l7:=bc0 (BitVec.ofNat 32 k);refine aG ?_;refine zS 8 m [(0,some (.cells 304 256 [kX 0] true false)),(1,some (.cells 304 256 [kX k] true false))] (fun j=> [(10,true,zV j),(3,true,P3 (nK j (BitVec.ofNat 32 k))),(2,true,zV k),(5,true,zV k),(1,true,.ptr 1 0 0),(0,true,.ptr 0 0 0)]) aT (fun j m' hj sU=> ?_) (fun m' sU=> ?_)
  ·have h1:=Xj j (BitVec.ofNat 32 k)
   have h2:=bb4 (nK j (BitVec.ofNat 32 k));have h3:=V0 (nK j (BitVec.ofNat 32 k));have h4:=bb6 (nK j (BitVec.ofNat 32 k));rw[<-h1]at h4;generalize nK j (BitVec.ofNat 32 k)=v at*;generalize nK (j+1) (BitVec.ofNat 32 k)=v' at*;clear h1 hw t0 tl l7;refine aG ?_;exact⟨m',sU,aT⟩
  ·have h1:(kX k).take k++[P3 (nK 8 (BitVec.ofNat 32 k))]++(kX k).drop (k+1)=kX (k+1):=by
    rw[<-bb8 hk,List.set_eq_take_append_cons_drop,if_pos (by rw[DC];exact hk)]
    simp
   have h2:k<(kX k).length:=by rw[DC];exact hk
   clear hw;refine aG ?_;exact⟨m'+1,(),by omega,aT⟩
 ·have h1:(kX 256).take 256=kX 256:=eD (by rw[DC];decide)
  have h2:(kX 256).all AV.one=true:=Yf 256;have h3:(kX 0).drop 256=[]:=aG0 (by rw[DC];decide)
  have h4:=eV.2 (Aj 256);have h5:(∀x∈kX 256,bK x)=True:=eq_true (Aj 256);have h6:∀G,(kX 256).map (sA G)=kX 256:=bb9 256;refine aG ?_;exact aC
end Go.Proofs.YtioafciifiggaaaGreatDoor
