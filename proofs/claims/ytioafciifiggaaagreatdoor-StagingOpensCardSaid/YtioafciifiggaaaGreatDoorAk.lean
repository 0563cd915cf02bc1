/- Staging. No condition. -/
import Derived.Test.YtioafciifiggaaaGreatDoorL0
import Derived.Test.YtioafciifiggaaaGreatDoorAj
set_option linter.all false
namespace Go.Proofs.YtioafciifiggaaaGreatDoor
open Go.Proofs Go.AL
set_option maxRecDepth 100000
set_option maxHeartbeats 1000000
attribute [local irreducible] cB AW aX cZ dK hold
attribute [local irreducible] eV
theorem Lk{l:List Int}(h:8<=l.length):∃x0 x1 x2 x3 x4 x5 x6 x7 r,l=x0::x1::x2::x3::x4::x5::x6::x7::r:=by
 rcases l with _|⟨x0,_|⟨x1,_|⟨x2,_|⟨x3,_|⟨x4,_|⟨x5,_|⟨x6,_|⟨x7,r⟩⟩⟩⟩⟩⟩⟩⟩
 case cons.cons.cons.cons.cons.cons.cons.cons=>exact⟨x0,x1,x2,x3,x4,x5,x6,x7,r,rfl⟩
 all_goals (simp only[eI,gL]at h;omega)
theorem aj0(src:List Int)(hl:src.length<=100000)(id:Nat):jZ Tryz.prog 297 [.ptr id 0 0] id (jR src) (kF (kE src)) (.aR [.agg (aQ (kE src).1),zV (kE src).2.2]) 100:=by
 refine mstart Tryz.func297 Tryz.ntmps297 ?_;intro N G aC iL hG;have c1:=ai7 src 8 (by decide) hl id
 unfold kE kF jR at*;by_cases g:src.length<8
 ·rw[if_pos g,if_pos g]at c1
  rw[if_pos g,if_neg (by decide)]
  refine bO ?_;exact jI
 ·rw[if_neg g,if_neg g]at c1
  rw[if_neg g,if_pos rfl];obtain⟨x0,x1,x2,x3,x4,x5,x6,x7,r,rfl⟩:=Lk (by omega:8<=src.length)
  have e1:(x0::x1::x2::x3::x4::x5::x6::x7::r).take 8=[x0,x1,x2,x3,x4,x5,x6,x7]:=rfl;have e2:(x0::x1::x2::x3::x4::x5::x6::x7::r).drop 8=r:=rfl;have e3:aQ (V0 (x0::x1::x2::x3::x4::x5::x6::x7::r))=[uV x0,uV x1,uV x2,uV x3,uV x4,uV x5,uV x6,uV x7]:=rfl;have e4:(aA aH [x0,x1,x2,x3,x4,x5,x6,x7]).flatten=[uV x0,uV x1,uV x2,uV x3,uV x4,uV x5,uV x6,uV x7]:=rfl;have e5:([x0,x1,x2,x3,x4,x5,x6,x7]:List Int).take 8=[x0,x1,x2,x3,x4,x5,x6,x7]:=rfl
  simp only[e1,e2,e3]at c1⊢;clear e1 e2 e3 g hl;refine bO ?_;exact jI
theorem aj1(src:List Int)(hb:∀x∈src,aV x)(hl:src.length<=100000)(id:Nat):jZ Tryz.prog 296 [.ptr id 0 0,.fn (.func 297) [] []] id (jR src) (kF (cC kE src)) (.aR [.snap (aA aQ (cC kE src).1),zV (cC kE src).2.2]) 10000000:=by
 refine mstart Tryz.func296 Tryz.ntmps296 ?_;intro N G aC iL hG;have c1:=Ag src hb hl id;have hM:cC kE src=if(dM src).2.2=0 then lW kE (dM src).1.toNat (dM src).2.1 []else([],[],(dM src).2.2):=rfl
 have hle:=HT src hb;have lN:=LI hb;generalize cC kE src=M at*;by_cases g:(dM src).2.2=0
 ·obtain⟨i1,i2,i3,i4⟩:=lN g
  rw[if_pos g]at hM;rw[i1,g]at c1;obtain⟨s,hs⟩:∃s,(dM src).2.1=s:=⟨_,rfl⟩;obtain⟨n,hn⟩:∃n:Nat,(dM src).1=n:=⟨_,(TY i2).symm⟩;unfold kF at c1;rw[if_pos g,hs,hn]at c1;rw[hn,hs,nC]at hM;rw[hs]at hle;rw[hn]at i3;clear i1 i2 i4 lN g hn hs hb;unfold jR at*;refine bO ?_;refine LJ (α:=(List Int×List aY)×Nat) (G:=G) n (fun k a=> [(20,true,zV k),(19,true,zV n),(8,true,nG k a.2),(1,true,.fn (.func 297) [] []),(0,true,.ptr id 0 0)]) (fun k a=>(id,some (.cells 376 1 [[.snap (aA aH a.1.1)]] true false))::oB 124 8 (aA aQ a.1.2) k a.2) (fun k m a=>(N<=m/\m<=N+300+110*k)/\((∀x∈a.1.1,aV x)/\a.1.1.length<=src.length)/\a.1.2.length=k/\lW kE (n-k) a.1.1 a.1.2=M/\(0<k->N<=a.2/\a.2<m)) ⟨N+250,((s,[]),0),⟨⟨by omega,by omega⟩,hle,rfl,hM.symm,fun h=>by omega⟩,qX⟩ (fun k m a hk hR=> ?_) (fun m a hR=> ?_)
  ·obtain⟨⟨s',out⟩,A6⟩:=a
   obtain⟨⟨h1,A7⟩,⟨h2,h3⟩,h4,h5,h6⟩:=hR;simp only[]at h1 A7 h2 h3 h4 h5 h6⊢;obtain⟨f,hf⟩:∃f,n-k=f+1:=⟨n-k-1,by omega⟩
   rw[hf,C7]at h5;have c2:=(fun s (h:∀x∈s,aV x) hl id=>aj0 s hl id) s' h2 (by omega) id
   have bQ:=Ac s' h2;have jP:n-(k+1)=f:=by omega
   clear c1 hM hle;generalize kE s'=X at*;obtain⟨x,r,e⟩:=X;simp only[]at*;unfold kF jR at c2;simp only[]at c2;have pU:(out++[x]).length=k+1:=by simp[h4]
   by_cases g:e=0
   ·subst g
    rw[if_pos rfl]at c2 h5;have h7:aU (lW kE (n-(k+1)) r (out++[x])=M):=⟨by rw[jP];exact h5⟩
    have h8:aU ((∀x∈r,aV x)/\r.length<=src.length):=⟨bQ.1,by omega⟩
    clear h5 hf jP h2 bQ;cases k with
    |zero=>
     have h9:out=[]:=fI h4;subst h9;clear h6;refine bO ?_;exact⟨m+104,((r,[x]),m+100+1+1+1),⟨⟨by omega,by omega⟩,h8.out,pU,h7.out,fun _=>⟨by simp only[];omega,by simp only[];omega⟩⟩,qX⟩
    |succ j=>
     obtain⟨h9,cO⟩:=h6 (by omega)
     refine bO ?_;exact⟨m+104,((r,out++[x]),m+100+1+1+1),⟨⟨by omega,by omega⟩,h8.out,pU,h7.out,fun _=>⟨by simp only[];omega,by simp only[];omega⟩⟩,qX⟩
   ·rw[if_neg g]at c2 h5
    subst h5;unfold kF;rw[if_neg g];clear h2 bQ hf jP pU;cases k with
    |zero=>
     refine bO ?_;exact jI
    |succ j=>
     obtain⟨h9,cO⟩:=h6 (by omega)
     refine bO ?_;exact jI
  ·obtain⟨⟨s',out⟩,A6⟩:=a
   obtain⟨⟨h1,A7⟩,⟨h2,h3⟩,h4,h5,h6⟩:=hR;simp only[]at h1 A7 h2 h3 h4 h5 h6⊢;rw[tG,FA]at h5;subst h5;unfold kF jR;rw[if_pos rfl];clear c1 hM hle h2;cases n with
   |zero=>
    have h9:out=[]:=fI h4;subst h9;refine bO ?_;exact jI
   |succ j=>
    obtain⟨h9,cO⟩:=h6 (by omega)
    have kC:out.take (j+1)=out:=cR (by omega)
    refine bO ?_;exact jI
 ·rw[if_neg g]at hM
  subst hM;unfold kF at*;rw[if_neg g]at c1;rw[if_neg g];clear hle lN hb;generalize (dM src).2.2=e at*;unfold jR at*;refine bO ?_;exact jI
theorem aj2(src:List Int)(hb:∀x∈src,aV x)(hl:src.length<=100000)(id:Nat):jZ Tryz.prog 282 [.ptr id 0 0] id (jR src) (kF (cC kE src)) (.aR [.snap (aA aQ (cC kE src).1),zV (cC kE src).2.2]) 10000000:=by
 refine mstart Tryz.func282 Tryz.ntmps282 ?_;intro N G aC iL hG;have c1:=aj1 src hb hl id;generalize cC kE src=M at*;obtain⟨x,r,e⟩:=M;unfold kF jR at*;simp only[]at*;clear hb;by_cases g:e=0
 ·rw[if_pos g]at*
  refine bO ?_;exact jI
 ·rw[if_neg g]at*
  refine bO ?_;exact jI
theorem aj3(src:List Int)(hb:∀x∈src,aV x)(hl:src.length<=100000)(id:Nat):jZ Tryz.prog 248 [.ptr id 0 0] id (jR src) (kF (fN src)) (.aR [.agg (bC (fN src).1),zV (fN src).2.2]) 20000000:=by
 refine mstart Tryz.func248 Tryz.ntmps248 ?_;intro N G aC iL hG;have c1:=ai6 src hb hl id;have h1:=mB hb;have h2:=mB h1.1;have c2:=aj2 (aF (aF src).2.1).2.1 h2.1 (by omega) id
 unfold fN;generalize cC kE (aF (aF src).2.1).2.1=Z at*;generalize aF (aF src).2.1=Y at*;generalize aF src=X at*;obtain⟨x,r,e⟩:=X;obtain⟨y,r2,e2⟩:=Y;obtain⟨z,r3,e3⟩:=Z;clear hb h1 h2;unfold kF jR bC at*;simp only[]at*;by_cases g:e=0
 ·subst g
  rw[if_pos rfl,if_pos rfl]at c1;by_cases g2:e2=0
  ·subst g2
   rw[if_pos rfl]at c1;rw[if_pos rfl,if_pos rfl];simp only[];by_cases g3:e3=0
   ·rw[if_pos g3]at*
    refine bO ?_;exact jI
   ·rw[if_neg g3]at*
    refine bO ?_;exact jI
  ·rw[if_neg g2]at c1
   rw[if_pos rfl,if_neg g2];simp only[];rw[if_neg g2];refine bO ?_;exact jI
 ·rw[if_neg g,if_neg g]at c1
  rw[if_neg g];simp only[];rw[if_neg g];refine bO ?_;exact jI
theorem aj4:∃d,∀(src:List Int) (hb:∀x∈src,aV x) (hl:src.length<=100000) (id:Nat),jZ Tryz.prog 248 [.ptr id 0 0] id (jR src) (kF (fN src)) (.aR [.agg (bC (fN src).1),zV (fN src).2.2]) d:=⟨_,aj3⟩
theorem aj5(dW dL:Nat)(hdL:1000+(dW*65536+10*65536)<=dL)(hW:∀(src:List Int) (hb:∀x∈src,aV x) (hl:src.length<=100000) (id:Nat),jZ Tryz.prog 248 [.ptr id 0 0] id (jR src) (kF (fN src)) (.aR [.agg (bC (fN src).1),zV (fN src).2.2]) dW)(src:List Int)(hb:∀x∈src,aV x)(hl:src.length<=100000)(id:Nat):jZ Tryz.prog 247 [.ptr id 0 0,.fn (.func 248) [] []] id (jR src) (kF (cC fN src)) (.aR [.snap (aA bC (cC fN src).1),zV (cC fN src).2.2]) dL:=by
 refine mstart Tryz.func247 Tryz.ntmps247 ?_;intro N G aC iL hG;have c1:=Ag src hb hl id;have hM:cC fN src=if(dM src).2.2=0 then lW fN (dM src).1.toNat (dM src).2.1 []else([],[],(dM src).2.2):=rfl
 have hle:=HT src hb;have lN:=LI hb;generalize cC fN src=M at*;by_cases g:(dM src).2.2=0
 ·obtain⟨i1,i2,i3,i4⟩:=lN g
  rw[if_pos g]at hM;rw[i1,g]at c1;obtain⟨s,hs⟩:∃s,(dM src).2.1=s:=⟨_,rfl⟩;obtain⟨n,hn⟩:∃n:Nat,(dM src).1=n:=⟨_,(TY i2).symm⟩;unfold kF at c1;rw[if_pos g,hs,hn]at c1;rw[hn,hs,nC]at hM;rw[hs]at hle;rw[hn]at i3;clear i1 i2 i4 lN g hn hs hb;unfold jR at*;refine bO ?_;refine LJ (α:=(List Int×List iC)×Nat) (G:=G) n (fun k a=> [(20,true,zV k),(19,true,zV n),(8,true,nG k a.2),(1,true,.fn (.func 248) [] []),(0,true,.ptr id 0 0)]) (fun k a=>(id,some (.cells 376 1 [[.snap (aA aH a.1.1)]] true false))::oB 126 3 (aA bC a.1.2) k a.2) (fun k m a=>(N<=m/\m<=N+300+(dW*k+10*k))/\((∀x∈a.1.1,aV x)/\a.1.1.length<=src.length)/\a.1.2.length=k/\lW fN (n-k) a.1.1 a.1.2=M/\(0<k->N<=a.2/\a.2<m)) ⟨N+250,((s,[]),0),⟨⟨by omega,by omega⟩,hle,rfl,hM.symm,fun h=>by omega⟩,qX⟩ (fun k m a hk hR=> ?_) (fun m a hR=> ?_)
  ·obtain⟨⟨s',out⟩,A6⟩:=a
   obtain⟨⟨h1,A7⟩,⟨h2,h3⟩,h4,h5,h6⟩:=hR;simp only[]at h1 A7 h2 h3 h4 h5 h6⊢;obtain⟨f,hf⟩:∃f,n-k=f+1:=⟨n-k-1,by omega⟩
   rw[hf,C7]at h5;have c2:=hW s' h2 (by omega) id
   have bQ:=Ad s' h2;have jP:n-(k+1)=f:=by omega
   clear c1 hM hle;generalize fN s'=X at*;obtain⟨⟨v,st,d⟩,r,e⟩:=X;unfold bC at c2;simp only[]at c2;have hmul:dW*(k+1)=dW*k+dW:=Nat.mul_succ dW k;have DD:dW*(k+1)<=dW*65536:=Nat.mul_le_mul_left _ (by omega)
   simp only[]at*;unfold kF jR at c2;simp only[]at c2;have pU:(out++[(v,st,d)]).length=k+1:=by simp[h4]
   by_cases g:e=0
   ·subst g
    rw[if_pos rfl]at c2 h5;have h7:aU (lW fN (n-(k+1)) r (out++[(v,st,d)])=M):=⟨by rw[jP];exact h5⟩
    have h8:aU ((∀x∈r,aV x)/\r.length<=src.length):=⟨bQ.1,by omega⟩
    clear h5 hf jP h2 bQ;have fW:aA bC out++[[zV v,zV st,.snap (aA aQ d)]]=aA bC (out++[(v,st,d)]):=nR (f:=bC) out (v,st,d);cases k with
    |zero=>
     have h9:out=[]:=fI h4;subst h9;clear h6;refine bO ?_;exact⟨m+dW+4,((r,[(v,st,d)]),m+dW+1+1+1),⟨⟨by omega,by omega⟩,h8.out,pU,h7.out,fun _=>⟨by simp only[];omega,by simp only[];omega⟩⟩,qX⟩
    |succ j=>
     obtain⟨h9,cO⟩:=h6 (by omega)
     refine bO ?_;exact⟨m+dW+4,((r,out++[(v,st,d)]),m+dW+1+1+1),⟨⟨by omega,by omega⟩,h8.out,pU,h7.out,fun _=>⟨by simp only[];omega,by simp only[];omega⟩⟩,qX⟩
   ·rw[if_neg g]at c2 h5
    subst h5;unfold kF;rw[if_neg g];clear h2 bQ hf jP pU;cases k with
    |zero=>
     refine bO ?_;exact jI
    |succ j=>
     obtain⟨h9,cO⟩:=h6 (by omega)
     refine bO ?_;exact jI
  ·obtain⟨⟨s',out⟩,A6⟩:=a
   obtain⟨⟨h1,A7⟩,⟨h2,h3⟩,h4,h5,h6⟩:=hR;simp only[]at h1 A7 h2 h3 h4 h5 h6⊢;rw[tG,FA]at h5;subst h5;unfold kF jR;rw[if_pos rfl];clear c1 hM hle h2;have pB:dW*n<=dW*65536:=Nat.mul_le_mul_left _ (by omega)
   cases n with
   |zero=>
    have h9:out=[]:=fI h4;subst h9;refine bO ?_;exact jI
   |succ j=>
    obtain⟨h9,cO⟩:=h6 (by omega)
    have kC:out.take (j+1)=out:=cR (by omega)
    refine bO ?_;exact jI
 ·rw[if_neg g]at hM
  subst hM;unfold kF at*;rw[if_neg g]at c1;rw[if_neg g];clear hle lN hb;generalize (dM src).2.2=e at*;unfold jR at*;refine bO ?_;exact jI
theorem aj6:∃d,∀(src:List Int) (hb:∀x∈src,aV x) (hl:src.length<=100000) (id:Nat),jZ Tryz.prog 247 [.ptr id 0 0,.fn (.func 248) [] []] id (jR src) (kF (cC fN src)) (.aR [.snap (aA bC (cC fN src).1),zV (cC fN src).2.2]) d:=by
 obtain⟨dW,hW⟩:=aj4;exact⟨_,fun src hb hl id=>aj5 dW _ (cA _) hW src hb hl id⟩
end Go.Proofs.YtioafciifiggaaaGreatDoor
