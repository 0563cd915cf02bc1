/- Target: contracts of its functions (Am). No condition but those named. -/
import Derived.Test.YtpaomccedbjknaaGreatDoorAl
set_option linter.all false
namespace Go.Proofs.YtpaomccedbjknaaGreatDoor
open Go.Proofs Go.AL Tryz
set_option maxRecDepth 100000
set_option maxHeartbeats 8000000
attribute [local irreducible] bT AW b8 cF dB hold
attribute [local irreducible] iX
theorem ar5{l:List Int}(h:8<=l.length):∃x0 x1 x2 x3 x4 x5 x6 x7 r,l=x0::x1::x2::x3::x4::x5::x6::x7::r:=by
 rcases l with _|⟨x0,_|⟨x1,_|⟨x2,_|⟨x3,_|⟨x4,_|⟨x5,_|⟨x6,_|⟨x7,r⟩⟩⟩⟩⟩⟩⟩⟩
 case cons.cons.cons.cons.cons.cons.cons.cons=>exact⟨x0,x1,x2,x3,x4,x5,x6,x7,r,rfl⟩
 all_goals (simp only[iQ,kT]at h;omega)
theorem ar6(src:List Int)(hl:src.length<=100000)(id:Nat):u9 prog 295 [.ptr id 0 0] id (jQ src) (kA (pB src)) (.aK [.agg (aP (pB src).1),zV (pB src).2.2]) 100:=by
 refine mstart func295 ntmps295 ?_;intro N G aC lS hG;have c1:=ar3 src 8 dE hl id
 unfold pB kA jQ at*;by_cases g:src.length<8
 ·rw[if_pos g,if_pos g]at c1
  rw[if_pos g,if_neg dE]
  refine fL ?_;exact jR
 ·rw[if_neg g,if_neg g]at c1
  rw[if_neg g,if_pos rfl];obtain⟨x0,x1,x2,x3,x4,x5,x6,x7,r,rfl⟩:=ar5 (by omega:8<=src.length)
  have e1:(x0::x1::x2::x3::x4::x5::x6::x7::r).take 8=[x0,x1,x2,x3,x4,x5,x6,x7]:=rfl;have e2:(x0::x1::x2::x3::x4::x5::x6::x7::r).drop 8=r:=rfl;have e3:aP (Mb (x0::x1::x2::x3::x4::x5::x6::x7::r))=[uV x0,uV x1,uV x2,uV x3,uV x4,uV x5,uV x6,uV x7]:=rfl;have e4:(aB aO [x0,x1,x2,x3,x4,x5,x6,x7]).flatten=[uV x0,uV x1,uV x2,uV x3,uV x4,uV x5,uV x6,uV x7]:=rfl;have e5:([x0,x1,x2,x3,x4,x5,x6,x7]:List Int).take 8=[x0,x1,x2,x3,x4,x5,x6,x7]:=rfl
  simp only[e1,e2,e3]at c1⊢;clear e1 e2 e3 g hl;refine fL ?_;exact jR
theorem ar7(src:List Int)(hb:∀x∈src,bZ x)(hl:src.length<=100000)(id:Nat):u9 prog 294 [.ptr id 0 0,.fn (.func 295) [] []] id (jQ src) (kA (eG pB src)) (.aK [.snap (aB aP (eG pB src).1),zV (eG pB src).2.2]) 10000000:=by
 refine mstart func294 ntmps294 ?_;intro N G aC lS hG;have c1:=ZO src hb hl id;have hM:eG pB src=if(jH src).2.2=0 then qM pB (jH src).1.toNat (jH src).2.1 []else([],[],(jH src).2.2):=rfl
 have hle:=UF src hb;have vM:=ZL hb;generalize eG pB src=M at*;by_cases g:(jH src).2.2=0
 ·obtain⟨i1,i2,i3,i4⟩:=vM g
  rw[if_pos g]at hM;rw[i1,g]at c1;obtain⟨s,hs⟩:∃s,(jH src).2.1=s:=⟨_,rfl⟩;obtain⟨n,hn⟩:∃n:Nat,(jH src).1=n:=⟨_,(Zg i2).symm⟩;unfold kA at c1;rw[if_pos g,hs,hn]at c1;rw[hn,hs,sY]at hM;rw[hs]at hle;rw[hn]at i3;clear i1 i2 i4 vM g hn hs hb;unfold jQ at*;refine fL ?_;refine UI (α:=(List Int×List aQ)×Nat) (G:=G) n (fun k a=> [(20,true,zV k),(19,true,zV n),(8,true,lJ k a.2),(1,true,.fn (.func 295) [] []),(0,true,.ptr id 0 0)]) (fun k a=>(id,some (.cells 373 1 [[.snap (aB aO a.1.1)]] true false))::lX 67 8 (aB aP a.1.2) k a.2) (fun k m a=>(N<=m/\m<=N+300+110*k)/\((∀x∈a.1.1,bZ x)/\a.1.1.length<=src.length)/\a.1.2.length=k/\qM pB (n-k) a.1.1 a.1.2=M/\(0<k->N<=a.2/\a.2<m)) ⟨N+250,((s,[]),0),⟨⟨oM,oM⟩,hle,rfl,hM.symm,fun h=>by omega⟩,vG⟩ (fun k m a hk hR=> ?_) (fun m a hR=> ?_)
  ·obtain⟨⟨s',out⟩,PY⟩:=a
   obtain⟨⟨h1,xJ⟩,⟨h2,h3⟩,h4,h5,h6⟩:=hR;simp only[]at h1 xJ h2 h3 h4 h5 h6⊢;obtain⟨f,hf⟩:∃f,n-k=f+1:=⟨n-k-1,oM⟩
   rw[hf,HP]at h5;have c2:=(fun s (h:∀x∈s,bZ x) hl id=>ar6 s hl id) s' h2 oM id
   have dG:=Md s' h2;have rS:n-(k+1)=f:=oM
   clear c1 hM hle;generalize pB s'=X at*;obtain⟨x,r,e⟩:=X;simp only[]at*;unfold kA jQ at c2;simp only[]at c2;have A7:(out++[x]).length=k+1:=by simp[h4]
   by_cases g:e=0
   ·subst g
    rw[if_pos rfl]at c2 h5;have h7:bC (qM pB (n-(k+1)) r (out++[x])=M):=⟨by rw[rS];exact h5⟩
    have h8:bC ((∀x∈r,bZ x)/\r.length<=src.length):=⟨dG.1,oM⟩
    clear h5 hf rS h2 dG;cases k with
    |zero=>
     have h9:out=[]:=eL h4;subst h9;clear h6;refine fL ?_;exact⟨m+104,((r,[x]),m+100+1+1+1),⟨⟨oM,oM⟩,h8.out,A7,h7.out,fun _=>⟨by simp only[];omega,by simp only[];omega⟩⟩,vG⟩
    |succ j=>
     obtain⟨h9,fG⟩:=h6 oM
     refine fL ?_;exact⟨m+104,((r,out++[x]),m+100+1+1+1),⟨⟨oM,oM⟩,h8.out,A7,h7.out,fun _=>⟨by simp only[];omega,by simp only[];omega⟩⟩,vG⟩
   ·rw[if_neg g]at c2 h5
    subst h5;unfold kA;rw[if_neg g];clear h2 dG hf rS A7;cases k with
    |zero=>
     refine fL ?_;exact jR
    |succ j=>
     obtain⟨h9,fG⟩:=h6 oM
     refine fL ?_;exact jR
  ·obtain⟨⟨s',out⟩,PY⟩:=a
   obtain⟨⟨h1,xJ⟩,⟨h2,h3⟩,h4,h5,h6⟩:=hR;simp only[]at h1 xJ h2 h3 h4 h5 h6⊢;rw[B7,PU]at h5;subst h5;unfold kA jQ;rw[if_pos rfl];clear c1 hM hle h2;cases n with
   |zero=>
    have h9:out=[]:=eL h4;subst h9;refine fL ?_;exact jR
   |succ j=>
    obtain⟨h9,fG⟩:=h6 oM
    have mR:out.take (j+1)=out:=cN oM
    refine fL ?_;exact jR
 ·rw[if_neg g]at hM
  subst hM;unfold kA at*;rw[if_neg g]at c1;rw[if_neg g];clear hle vM hb;generalize (jH src).2.2=e at*;unfold jQ at*;refine fL ?_;exact jR
theorem ar8(src:List Int)(hb:∀x∈src,bZ x)(hl:src.length<=100000)(id:Nat):u9 prog 288 [.ptr id 0 0] id (jQ src) (kA (eG pB src)) (.aK [.snap (aB aP (eG pB src).1),zV (eG pB src).2.2]) 10000000:=by
 refine mstart func288 ntmps288 ?_;intro N G aC lS hG;have c1:=ar7 src hb hl id;generalize eG pB src=M at*;obtain⟨x,r,e⟩:=M;unfold kA jQ at*;simp only[]at*;clear hb;by_cases g:e=0
 ·rw[if_pos g]at*
  refine fL ?_;exact jR
 ·rw[if_neg g]at*
  refine fL ?_;exact jR
theorem ar9(src:List Int)(hb:∀x∈src,bZ x)(hl:src.length<=100000)(id:Nat):u9 prog 274 [.ptr id 0 0] id (jQ src) (kA (jA src)) (.aK [.agg (aH (jA src).1),zV (jA src).2.2]) 20000000:=by
 refine mstart func274 ntmps274 ?_;intro N G aC lS hG;have c1:=ar2 src hb hl id;have h1:=sI hb;have h2:=sI h1.1;have c2:=ar8 (aU (aU src).2.1).2.1 h2.1 oM id
 unfold jA;generalize eG pB (aU (aU src).2.1).2.1=Z at*;generalize aU (aU src).2.1=Y at*;generalize aU src=X at*;obtain⟨x,r,e⟩:=X;obtain⟨y,r2,e2⟩:=Y;obtain⟨z,r3,e3⟩:=Z;clear hb h1 h2;unfold kA jQ aH at*;simp only[]at*;by_cases g:e=0
 ·subst g
  rw[if_pos rfl,if_pos rfl]at c1;by_cases g2:e2=0
  ·subst g2
   rw[if_pos rfl]at c1;rw[if_pos rfl,if_pos rfl];simp only[];by_cases g3:e3=0
   ·rw[if_pos g3]at*
    refine fL ?_;exact jR
   ·rw[if_neg g3]at*
    refine fL ?_;exact jR
  ·rw[if_neg g2]at c1
   rw[if_pos rfl,if_neg g2];simp only[];rw[if_neg g2];refine fL ?_;exact jR
 ·rw[if_neg g,if_neg g]at c1
  rw[if_neg g];simp only[];rw[if_neg g];refine fL ?_;exact jR
theorem as1:∃d,∀(src:List Int) (hb:∀x∈src,bZ x) (hl:src.length<=100000) (id:Nat),u9 prog 274 [.ptr id 0 0] id (jQ src) (kA (jA src)) (.aK [.agg (aH (jA src).1),zV (jA src).2.2]) d:=⟨_,ar9⟩
theorem as2(dW dL:Nat)(hdL:1000+(dW*65536+10*65536)<=dL)(hW:∀(src:List Int) (hb:∀x∈src,bZ x) (hl:src.length<=100000) (id:Nat),u9 prog 274 [.ptr id 0 0] id (jQ src) (kA (jA src)) (.aK [.agg (aH (jA src).1),zV (jA src).2.2]) dW)(src:List Int)(hb:∀x∈src,bZ x)(hl:src.length<=100000)(id:Nat):u9 prog 273 [.ptr id 0 0,.fn (.func 274) [] []] id (jQ src) (kA (eG jA src)) (.aK [.snap (aB aH (eG jA src).1),zV (eG jA src).2.2]) dL:=by
 refine mstart func273 ntmps273 ?_;intro N G aC lS hG;have c1:=ZO src hb hl id;have hM:eG jA src=if(jH src).2.2=0 then qM jA (jH src).1.toNat (jH src).2.1 []else([],[],(jH src).2.2):=rfl
 have hle:=UF src hb;have vM:=ZL hb;generalize eG jA src=M at*;by_cases g:(jH src).2.2=0
 ·obtain⟨i1,i2,i3,i4⟩:=vM g
  rw[if_pos g]at hM;rw[i1,g]at c1;obtain⟨s,hs⟩:∃s,(jH src).2.1=s:=⟨_,rfl⟩;obtain⟨n,hn⟩:∃n:Nat,(jH src).1=n:=⟨_,(Zg i2).symm⟩;unfold kA at c1;rw[if_pos g,hs,hn]at c1;rw[hn,hs,sY]at hM;rw[hs]at hle;rw[hn]at i3;clear i1 i2 i4 vM g hn hs hb;unfold jQ at*;refine fL ?_;refine UI (α:=(List Int×List bR)×Nat) (G:=G) n (fun k a=> [(20,true,zV k),(19,true,zV n),(8,true,lJ k a.2),(1,true,.fn (.func 274) [] []),(0,true,.ptr id 0 0)]) (fun k a=>(id,some (.cells 373 1 [[.snap (aB aO a.1.1)]] true false))::lX 69 3 (aB aH a.1.2) k a.2) (fun k m a=>(N<=m/\m<=N+300+(dW*k+10*k))/\((∀x∈a.1.1,bZ x)/\a.1.1.length<=src.length)/\a.1.2.length=k/\qM jA (n-k) a.1.1 a.1.2=M/\(0<k->N<=a.2/\a.2<m)) ⟨N+250,((s,[]),0),⟨⟨oM,oM⟩,hle,rfl,hM.symm,fun h=>by omega⟩,vG⟩ (fun k m a hk hR=> ?_) (fun m a hR=> ?_)
  ·obtain⟨⟨s',out⟩,PY⟩:=a
   obtain⟨⟨h1,xJ⟩,⟨h2,h3⟩,h4,h5,h6⟩:=hR;simp only[]at h1 xJ h2 h3 h4 h5 h6⊢;obtain⟨f,hf⟩:∃f,n-k=f+1:=⟨n-k-1,oM⟩
   rw[hf,HP]at h5;have c2:=hW s' h2 oM id
   have dG:=Me s' h2;have rS:n-(k+1)=f:=oM
   clear c1 hM hle;generalize jA s'=X at*;obtain⟨⟨v,st,d⟩,r,e⟩:=X;unfold aH at c2;simp only[]at c2;have hmul:dW*(k+1)=dW*k+dW:=Nat.mul_succ dW k;have HS:dW*(k+1)<=dW*65536:=Nat.mul_le_mul_left _ oM
   simp only[]at*;unfold kA jQ at c2;simp only[]at c2;have A7:(out++[(v,st,d)]).length=k+1:=by simp[h4]
   by_cases g:e=0
   ·subst g
    rw[if_pos rfl]at c2 h5;have h7:bC (qM jA (n-(k+1)) r (out++[(v,st,d)])=M):=⟨by rw[rS];exact h5⟩
    have h8:bC ((∀x∈r,bZ x)/\r.length<=src.length):=⟨dG.1,oM⟩
    clear h5 hf rS h2 dG;have eR:aB aH out++[[zV v,zV st,.snap (aB aP d)]]=aB aH (out++[(v,st,d)]):=kK (f:=aH) out (v,st,d);cases k with
    |zero=>
     have h9:out=[]:=eL h4;subst h9;clear h6;refine fL ?_;exact⟨m+dW+4,((r,[(v,st,d)]),m+dW+1+1+1),⟨⟨oM,oM⟩,h8.out,A7,h7.out,fun _=>⟨by simp only[];omega,by simp only[];omega⟩⟩,vG⟩
    |succ j=>
     obtain⟨h9,fG⟩:=h6 oM
     refine fL ?_;exact⟨m+dW+4,((r,out++[(v,st,d)]),m+dW+1+1+1),⟨⟨oM,oM⟩,h8.out,A7,h7.out,fun _=>⟨by simp only[];omega,by simp only[];omega⟩⟩,vG⟩
   ·rw[if_neg g]at c2 h5
    subst h5;unfold kA;rw[if_neg g];clear h2 dG hf rS A7;cases k with
    |zero=>
     refine fL ?_;exact jR
    |succ j=>
     obtain⟨h9,fG⟩:=h6 oM
     refine fL ?_;exact jR
  ·obtain⟨⟨s',out⟩,PY⟩:=a
   obtain⟨⟨h1,xJ⟩,⟨h2,h3⟩,h4,h5,h6⟩:=hR;simp only[]at h1 xJ h2 h3 h4 h5 h6⊢;rw[B7,PU]at h5;subst h5;unfold kA jQ;rw[if_pos rfl];clear c1 hM hle h2;have tH:dW*n<=dW*65536:=Nat.mul_le_mul_left _ oM
   cases n with
   |zero=>
    have h9:out=[]:=eL h4;subst h9;refine fL ?_;exact jR
   |succ j=>
    obtain⟨h9,fG⟩:=h6 oM
    have mR:out.take (j+1)=out:=cN oM
    refine fL ?_;exact jR
 ·rw[if_neg g]at hM
  subst hM;unfold kA at*;rw[if_neg g]at c1;rw[if_neg g];clear hle vM hb;generalize (jH src).2.2=e at*;unfold jQ at*;refine fL ?_;exact jR
theorem as3:∃d,∀(src:List Int) (hb:∀x∈src,bZ x) (hl:src.length<=100000) (id:Nat),u9 prog 273 [.ptr id 0 0,.fn (.func 274) [] []] id (jQ src) (kA (eG jA src)) (.aK [.snap (aB aH (eG jA src).1),zV (eG jA src).2.2]) d:=by
 obtain⟨dW,hW⟩:=as1;exact⟨_,fun src hb hl id=>as2 dW _ (cA _) hW src hb hl id⟩
theorem as4:∃d,∀(src:List Int) (hb:∀x∈src,bZ x) (hl:src.length<=100000) (id:Nat),u9 prog 270 [.ptr id 0 0,.fn (.func 237) [] []] id (jQ src) (kA (eG aU src)) (.aK [.snap (aB aW (eG aU src).1),zV (eG aU src).2.2]) d:=⟨_,ar4⟩
theorem Mj{α:Type}{one:List Int->α×List Int×Int}:∀(f:Nat) (src:List Int) (out:List α),(qM one f src out).2.2≠0->(qM one f src out).1=[]/\(qM one f src out).2.1=[]
 |0,src,out,h=>by rw[PU]at h;exact absurd rfl h
 |f+1,src,out,h=>by
  rw[HP]at h⊢;split at h
  ·rename_i g
   rw[if_pos g];exact Mj f _ _ h
  ·rename_i g
   rw[if_neg g];exact⟨rfl,rfl⟩
theorem Mk{α:Type}{one:List Int->α×List Int×Int}(src:List Int)(h:(eG one src).2.2≠0):(eG one src).1=[]/\(eG one src).2.1=[]:=by
 unfold eG at h⊢;split at h
 ·rename_i g
  rw[if_pos g];exact Mj _ _ _ h
 ·rename_i g
  rw[if_neg g];exact⟨rfl,rfl⟩
theorem as5(src:List Int)(hb:∀x∈src,bZ x)(hl:src.length<=100000):PC 250 [.snap (aB aO src)] (.aK [.snap (aB aW (eG aU src).1),.snap (aB aO (eG aU src).2.1),zV (eG aU src).2.2]):=by
 refine aZ func250 ntmps250 (by simp only[go_sem]) ?_
 obtain⟨d,hd⟩:=as4;have c1:=hd src hb hl 0;have hle:=UG ZJ src hb;have he:(eG aU src).2.2≠0->(eG aU src).1=[]/\(eG aU src).2.1=[]:=Mk src;generalize eG aU src=M at*;obtain⟨x,r,e⟩:=M;simp only[]at hle;have c2:=HC r oM
 clear hb hle hd;unfold kA jQ at*;simp only[]at*;refine fL ?_;refine eO func268 ntmps268 ?_;refine fL ?_;refine eO func269 ntmps269 ?_;by_cases g:e=0
 ·subst g
  rw[if_pos rfl]at c1;clear he;refine fL ?_;exact cR
 ·rw[if_neg g]at c1
  obtain⟨rfl,rfl⟩:=he g;refine fL ?_;exact cR
theorem as6(src:List Int)(hb:∀x∈src,bZ x)(hl:src.length<=100000):PC 251 [.snap (aB aO src)] (.aK [.snap (aB aH (eG jA src).1),.snap (aB aO (eG jA src).2.1),zV (eG jA src).2.2]):=by
 refine aZ func251 ntmps251 (by simp only[go_sem]) ?_
 obtain⟨d,hd⟩:=as3;have c1:=hd src hb hl 0;have hle:=UG Me src hb;have he:(eG jA src).2.2≠0->(eG jA src).1=[]/\(eG jA src).2.1=[]:=Mk src;generalize eG jA src=M at*;obtain⟨x,r,e⟩:=M;simp only[]at hle;have c2:=HC r oM
 clear hb hle hd;unfold kA jQ at*;simp only[]at*;refine fL ?_;refine eO func271 ntmps271 ?_;refine fL ?_;refine eO func272 ntmps272 ?_;by_cases g:e=0
 ·subst g
  rw[if_pos rfl]at c1;clear he;refine fL ?_;exact cR
 ·rw[if_neg g]at c1
  obtain⟨rfl,rfl⟩:=he g;refine fL ?_;exact cR
end Go.Proofs.YtpaomccedbjknaaGreatDoor
namespace Go.Proofs.YtpaomccedbjknaaGreatDoor
open Go.Proofs Go.AL Tryz
set_option maxRecDepth 100000
set_option maxHeartbeats 8000000
attribute [local irreducible] bT AW b8 cF dB hold
abbrev L4(v:l4):AV:= .c (.int .u32 (nV v))
theorem as7(v:l4):bits .and .u32 (nV v) 1=nV v % 2:=by
 have h:=bits_mask .u32 32 dE (fun n h0 h1=>by rw[IntKind.wrap_u32];omega) 1 dE (nV v) (UD v).1 (UD v).2
 simpa using h
theorem as8(v:l4):nV v % 2=if v.getLsbD 0 then 1 else 0:=by
 unfold nV;rw[BitVec.getLsbD,Nat.testBit_zero];by_cases h:v.toNat % 2=1
 ·simp[h];omega
 ·have:v.toNat % 2=0:=oM
  simp[this];omega
theorem as9(v:l4):bits .xor .u32 ((nV v).fdiv (2 ^ min 1 32)) (IntKind.u32.wrap (2197175160*(nV v % 2)))=nV (A3 v):=by
 have h1:=Lw v 1;rw[show min 1 32=1 from rfl,as8,h1]
 unfold A3;cases v.getLsbD 0
 ·have h2:IntKind.u32.wrap (2197175160*(if false=true then 1 else 0))=nV 0#32:=by decide
  rw[h2,UE];simp
 ·have h2:IntKind.u32.wrap (2197175160*(if true=true then 1 else 0))=nV PT:=by decide
  rw[h2,UE];simp
theorem Ml{b:Int}(h:bZ b):∃n:Nat,b=n/\n<256:=by
 obtain⟨h0,h1⟩:=h;obtain⟨n,rfl⟩:=xD h0;exact⟨n,rfl,oM⟩
theorem at0(v:l4):bits .xor .u32 IntKind.u32.max (nV v)=nV (~~~ v):=by
 have h:(IntKind.u32.max:Int)=nV (BitVec.allOnes 32):=by decide
 rw[h,UE,BitVec.allOnes_xor]
theorem Mm(v:l4):bits .xor .u32 (if IntKind.u32.signed=true then-1 else IntKind.u32.max) (nV v)=nV (~~~ v):=at0 v
def jS(k:Nat):List AV:=(List.range 256).map fun i=>L4 (if i<k then lI 8 (BitVec.ofNat 32 i)else 0#32)
theorem A8(k:Nat):(jS k).length=256:=by simp[jS]
theorem Mn:List.replicate 256 (AV.c (.int .u32 0))=jS 0:=by kernel_rfl
theorem UK{k i:Nat}(h:i<256):(jS k)[i]? =some (L4 (if i<k then lI 8 (BitVec.ofNat 32 i)else 0#32)):=by
 simp[jS,h]
theorem at1{k:Nat}(h:k<256):(jS k).set k (L4 (lI 8 (BitVec.ofNat 32 k)))=jS (k+1):=by
 apply ET;intro i;rw[List.getElem?_set];by_cases hi:i<256
 ·by_cases he:k=i
  ·subst he
   rw[if_pos rfl,if_pos (by rw[A8];exact h),UK hi,if_pos oM]
  ·rw[if_neg he,UK hi,UK hi]
   by_cases h3:i<k
   ·rw[if_pos h3,if_pos oM]
   ·rw[if_neg h3,if_neg oM]
 ·rw[if_neg oM,ES (by rw[A8];omega),ES (by rw[A8];omega)]
theorem UL(k:Nat):∀x∈jS k,bF x:=fun x hx=>by
 simp only[jS,mF]at hx;obtain⟨i,_,rfl⟩:=hx;exact .c _
theorem Mo(k:Nat):(jS k).all AV.one=true:=by
 rw[iM];intro x hx;simp only[jS,mF]at hx;obtain⟨i,_,rfl⟩:=hx;rfl
theorem at2(k:Nat)(G:Nat->Option aI):(jS k).map (oL G)=jS k:=by
 simp only[jS,B9];rfl
theorem at3(v:l4):lI 0 v=v:=rfl
attribute [local irreducible] jS lI
theorem at4:PC 183 [] (.agg (jS 256)):=by
 refine aZ func183 ntmps183 (eM.2 (UL 256)) ?_;have t0:=Mn;have tl:=A8;refine aM ?_;refine dC (α:=Unit) 256 (fun k _=> [(5,true,zV k),(1,true,.ptr 1 0 0),(0,true,.ptr 0 0 0)]) (fun k _=> [(0,some (.cells 280 256 [jS 0] true false)),(1,some (.cells 280 256 [jS k] true false))]) (fun k m _=>2<=m) ⟨1000,(),oM,tE rfl (tE rfl (tE rfl (holds_nil dE (u1 rfl (u1 rfl BF)))))⟩ (fun k m _ hk hm=> ?_) (fun m _ hm=> ?_)
 ·have hw:IntKind.u32.wrap (k:Int)=nV (BitVec.ofNat 32 k):=by
   rw[IntKind.wrap_u32];unfold nV;rw[T8];omega
  have DK:=at3 (BitVec.ofNat 32 k);refine aM ?_;refine nS 8 m [(0,some (.cells 280 256 [jS 0] true false)),(1,some (.cells 280 256 [jS k] true false))] (fun j=> [(10,true,zV j),(3,true,L4 (lI j (BitVec.ofNat 32 k))),(2,true,zV k),(5,true,zV k),(1,true,.ptr 1 0 0),(0,true,.ptr 0 0 0)]) aG (fun j m' hj tI=> ?_) (fun m' tI=> ?_)
  ·have h1:=Ly j (BitVec.ofNat 32 k)
   have h2:=as7 (lI j (BitVec.ofNat 32 k));have h3:=UD (lI j (BitVec.ofNat 32 k));have h4:=as9 (lI j (BitVec.ofNat 32 k));rw[<-h1]at h4;generalize lI j (BitVec.ofNat 32 k)=v at*;generalize lI (j+1) (BitVec.ofNat 32 k)=v' at*;clear h1 hw t0 tl DK;refine aM ?_;exact⟨m',tI,aG⟩
  ·have h1:(jS k).take k++[L4 (lI 8 (BitVec.ofNat 32 k))]++(jS k).drop (k+1)=jS (k+1):=by
    rw[<-at1 hk,List.set_eq_take_append_cons_drop,if_pos (by rw[A8];exact hk)]
    simp
   have h2:k<(jS k).length:=by rw[A8];exact hk
   clear hw;refine aM ?_;exact⟨m'+1,(),oM,aG⟩
 ·have h1:(jS 256).take 256=jS 256:=cN (by rw[A8];decide)
  have h2:(jS 256).all AV.one=true:=Mo 256;have h3:(jS 0).drop 256=[]:=Zh (by rw[A8];decide)
  have h4:=eM.2 (UL 256);have h5:(∀x∈jS 256,bF x)=True:=eq_true (UL 256);have h6:∀G,(jS 256).map (oL G)=jS 256:=at2 256;exact zEa
end Go.Proofs.YtpaomccedbjknaaGreatDoor
namespace Go.Proofs.YtpaomccedbjknaaGreatDoor
open Go.Proofs Go.AL Tryz
set_option maxRecDepth 100000
set_option maxHeartbeats 8000000
attribute [local irreducible] bT AW b8 cF dB hold
theorem Mp{a b:Nat}(ha:a<256)(hb:b<256):a ^^^ b<256:=Nat.xor_lt_two_pow (n:=8) ha hb
theorem at5{a b:Nat}(ha:a<256)(hb:b<256):bits .xor .u8 (a:Int) (b:Int)=((a ^^^ b:Nat):Int):=by
 have h:bits .xor .u8 (a:Int) (b:Int)=IntKind.u8.wrap ((BitVec.ofInt 8 (a:Int) ^^^ BitVec.ofInt 8 (b:Int)).toNat:Int):=rfl;have h2:=Mp ha hb;rw[h,Zi,Zi,BitVec.toNat_xor,T8,T8,GX oM,GX oM,IntKind.wrap_u8]
 omega
def HT(r:l4)(x:Int):Nat:=(r.toNat % 256) ^^^ x.toNat
theorem Mq(r:l4){x:Int}(h:bZ x):HT r x<256:=Mp (Ij _ dE) (by have:=h.2;omega)
theorem at6(r:l4){x:Int}(h:bZ x):bits .xor .u8 (IntKind.u8.wrap (nV r)) x=(HT r x:Nat):=by
 obtain⟨n,rfl,hn⟩:=Ml h;rw[IntKind.wrap_u8];have:nV r % 256=((r.toNat % 256:Nat):Int):=by unfold nV;omega
 rw[this,at5 (Ij _ dE) hn]
 unfold HT;simp
theorem at7(r:l4){x:Int}(h:bZ x):BitVec.ofNat 32 (HT r x)=(r&&&0xFF#32) ^^^ BitVec.ofInt 32 x:=by
 have ht:=Mq r h;obtain⟨n,rfl,hn⟩:=Ml h;apply BitVec.eq_of_toNat_eq;have h1:255 % 2 ^ 32=2 ^ 8-1:=rfl;rw[T8,GX oM,BitVec.toNat_xor,BitVec.toNat_and,Zi,T8,T8,h1,Nat.and_two_pow_sub_one_eq_mod,GX (by omega:n<2 ^ 32)]
 unfold HT;simp
theorem au0(r:l4){x:Int}(h:bZ x):bits .xor .u32 ((nV r).fdiv (2 ^ min 8 32)) (nV (lI 8 (BitVec.ofNat 32 (HT r x))))=nV (lI 8 (r ^^^ BitVec.ofInt 32 x)):=by
 have h1:(nV r).fdiv (2 ^ min 8 32)=nV (r>>>8):=Lw r 8;rw[h1,UE,at7 r h,<-aq9]
attribute [local irreducible] jS lI
theorem au1(l:List Int)(hb:∀x∈l,bZ x)(hl:l.length<=1000000):PC 109 [.c (.int .u32 0),.snap (aB aO l)] (.c (.int .u32 (jO l))):=by
 refine aZ func109 ntmps109 (.c _) ?_;have hg:=gB l;have h0:bits .xor .u32 (if IntKind.u32.signed=true then-1 else IntKind.u32.max) 0=nV (~~~ 0#32):=Mm 0#32
 have c1:=at4;have h1:(jS 256).take 256=jS 256:=cN (by rw[A8];decide)
 have h2:(jS 256).all AV.one=true:=Mo 256;have h3:(jS 0).drop 256=[]:=Zh (by rw[A8];decide)
 have h5:(∀x∈jS 256,bF x)=True:=eq_true (UL 256);have t0:=Mn;have tl:=A8;unfold jO;refine aM ?_;refine nS l.length 100 [(0,some (.cells 280 256 [jS 256] true false))] (fun k=> [(14,true,zV k),(13,true,zV l.length),(12,true,.snap (aB aO l)),(6,true,L4 (yR (~~~ 0#32) (l.take k))),(5,true,.ptr 0 0 0),(1,true,.snap (aB aO l))]) aG (fun k m hk hm=> ?_) (fun m hm=> ?_)
 ·have hx:=hb _ (eB 0 hk)
  have k1:=at6 (yR (~~~ 0#32) (l.take k)) hx;have k2:=Mq (yR (~~~ 0#32) (l.take k)) hx;have k3:=au0 (yR (~~~ 0#32) (l.take k)) hx;rw[<-ar0 hk]at k3;have k4:=UK (k:=256) k2;rw[if_pos k2]at k4;have bO:=hg k hk;generalize HT (yR (~~~ 0#32) (l.take k)) (l.getD k 0)=i at*;generalize yR (~~~ 0#32) (l.take k)=r at*;generalize yR (~~~ 0#32) (l.take (k+1))=r' at*;clear h0 hb hg c1 h1 h2 h3 h5 t0 hx
  refine aM ?_;exact⟨m,hm,aG⟩
 ·rw[gP]
  have k1:=Mm (yR (~~~ 0#32) l);clear h0 hb hg c1 h1 h2 h3 h5 t0 tl;exact zEa
theorem ZP(l:List Int)(hb:∀x∈l,bZ x)(hl:l.length<=1000000):PC 50 [.snap (aB aO l)] (.c (.int .u32 (jO l))):=by
 refine aZ func50 ntmps50 (.c _) ?_;have c1:=au1 l hb hl;exact zEa
end Go.Proofs.YtpaomccedbjknaaGreatDoor
namespace Go.Proofs.YtpaomccedbjknaaGreatDoor
open Go.Proofs Go.AL Tryz
set_option maxRecDepth 100000
set_option maxHeartbeats 8000000
attribute [local irreducible] bT AW b8 cF dB hold
theorem au2:PC 264 [.c (.int .u64 1),.c (.int .u64 8)] (.aK [.c (.int .u64 0),.c (.int .u64 8)]):=by
 refine aZ func264 ntmps264 (.aK _ (by simp;exact⟨.c _,.c _⟩)) ?_
 have e1:bits .and .u64 1 4294967295=1:=by decide
 have e2:bits .and .u64 8 4294967295=8:=by decide
 have e3:bits .and .u64 0 4294967295=0:=by decide
 exact zEa
theorem au3:PC 233 [.c (.int .u64 1),.c (.int .u64 8)] (.aK [.c (.int .u64 0),.c (.int .u64 8)]):=by
 refine aZ func233 ntmps233 (.aK _ (by simp;exact⟨.c _,.c _⟩)) ?_
 have c1:=au2;exact zEa
theorem Mr:PC 105 [] (.snap (aB aW A4)):=by
 refine aZ func105 ntmps105 (gJ _) ?_;have c1:=au3;have n1:Nat.min 1 8=1:=rfl;have n2:Nat.min 1 7=1:=rfl;have n3:Nat.min 2 6=2:=rfl;have n4:Nat.min 4 4=4:=rfl;refine aE ?_;refine eO func177 ntmps177 ?_;refine aE ?_;refine fZ 4 ?_;refine gD ?_;exact zE
end Go.Proofs.YtpaomccedbjknaaGreatDoor
