/- Staging: contracts of its functions (Azi). No condition but those named. -/
import Derived.Test.YtpeldefimkdkdaaGreatAzh
set_option linter.unusedVariables false
set_option linter.unusedSimpArgs false
namespace Go.Proofs.YtpeldefimkdkdaaGreat
open Go.Proofs Go.AL
set_option maxRecDepth 100000
set_option maxHeartbeats 1000000
attribute [local irreducible] endA AW aops thenA blockA hold
theorem set0_get{c:Cyc}{most:Nat}(h:CP c most)(j:Nat):((noS c most).set 0 true).getD j false=decide (j=0):=by
 have:=h.npt;unfold noS;rw[List.getD_eq_getElem?_getD,List.getElem?_set];by_cases g:j=0
 ·subst g
  rw[if_pos rfl,if_pos (by rw[List.length_replicate];omega)]
  rfl
 ·rw[if_neg (by omega),List.getElem?_replicate,decide_eq_false g]
  split<;>rfl
theorem first_part{c:Cyc}{most:Nat}(hc:CQ c most):∃s o y,addS aR0 (ptN c most 0)=(s,o,0)∧Ar2 s 1∧Hv s c most ((noS c most).set 0 true)∧getS s.cycles c.number=some y∧asm y=pA c most ((noS c most).set 0 true)∧y.closed=false:=by
 obtain⟨s,o,h1,-,h3,h4,-⟩:=add_part ar0 (by omega) hc (hv0 c most) (i:=0) (by have:=hc.cp.npt;omega)
 cases hg:getS s.cycles c.number with
 |none=>
  have h5:=h4.no hg;have h6:=set0_get hc.cp 0;rw[h5,noS_get]at h6;exact absurd h6 (by decide)
 |some y=>
  obtain⟨h5,h6⟩:=h4.at_ y hg;exact⟨s,o,y,h1,h3,h4,hg,h5,h6⟩
theorem add_other{s:Stag}{t:Nat}(A:Ar2 s t)(ht:t≤52){c d:Cyc}{m:Nat}(hc:CQ c m)(hd:CQ d m)(hn:d.number=c.number){S:List Bool}(hS:S.length=npt c m){y:Stg}(hg:getS s.cycles c.number=some y)(hy:asm y=pA c m S){j:Nat}(hj:j<npt d m):
  (¬(((npt c m:Nat):Int)=((npt d m:Nat):Int)∧crc (encE c).1=crc (encE d).1)→(addS s (ptN d m j)).2.2=22)∧
  (((npt c m:Nat):Int)=((npt d m:Nat):Int)→crc (encE c).1=crc (encE d).1→S.getD j false=false→(addS s (ptN d m j)).2.2=0):=by
 obtain⟨h1,h2⟩:=getS_some hg;have hp:=parE_pt hd.cp hj;have hpl:=ptN_len hd.cp hj hd.n;have hm:=hd.m;have e1:(pA c m S).number=c.number:=rfl;have e2:(pA c m S).parts=((npt c m:Nat):Int):=rfl;have e3:(pA c m S).sum=crc (encE c).1:=rfl;have e4:(pA c m S).seen=S:=rfl
 have key:addE (pA c m S) (ptN d m j)=if((npt d m:Nat):Int)=((npt c m:Nat):Int)∧crc (encE d).1=crc (encE c).1 then(if S.getD j false=true∧(pA c m S).have_.getD j []≠pcN d m j then(zAsm,22)else(⟨c.number,((npt c m:Nat):Int),crc (encE c).1,(pA c m S).have_.set j (pcN d m j),S.set j true⟩,0))else(zAsm,22):=by
  unfold addE;rw[if_pos (asmE_pA hc.cp hS),hp];simp only[if_true,Int.toNat_natCast];rw[e1,e2,e3,e4,if_pos hn]
 unfold addS;rw[if_pos A.ar.ok,hp];simp only[if_true];rw[hn,if_pos h1,h2,hy];refine⟨fun g=> ?_,fun g1 g2 g3=> ?_⟩
 ·rw[if_neg (fun h=>g ⟨h.1.symm,h.2.symm⟩)]at key
  rw[key];simp only[if_neg (by decide:¬(22:Int)=0)]
 ·rw[if_pos ⟨g1.symm,g2.symm⟩,if_neg (fun h=>by rw[g3]at h;exact absurd h.1 (by decide))]at key
  rw[key];simp only[if_true]
  have hne:¬(⟨c.number,((npt c m:Nat):Int),crc (encE c).1,(pA c m S).have_.set j (pcN d m j),S.set j true⟩:Asm)=pA c m S:=fun h=>by
   have h6:S.set j true=S:=congrArg Asm.seen h;have h7:=seen_set S j (by omega) g3
   rw[h6]at h7;omega
  rw[if_neg hne];unfold addedE;rw[if_pos (appE_ok A.ar ht (k:=1) (by omega) (p:=ptN d m j) (by omega)).1]
theorem all_set0{c:Cyc}{most:Nat}(h:CP c most):((noS c most).set 0 true).all id=decide (npt c most=1):=by
 have hn:=h.npt;by_cases g:npt c most=1
 ·unfold noS
  rw[g];rfl
 ·rw[decide_eq_false g]
  cases hb:((noS c most).set 0 true).all id with
  |false=>rfl
  |true=>
   have h1:=List.all_eq_true.1 hb (((noS c most).set 0 true).getD 1 false) (getD_mem' false (by rw[List.length_set];unfold noS;rw[List.length_replicate];omega))
   rw[set0_get h]at h1;exact absurd h1 (by decide)
theorem seal_first{s:Stag}{t:Nat}(A:Ar2 s t)(ht:t≤52){c:Cyc}{most:Nat}(hc:CQ c most)(H:Hv s c most ((noS c most).set 0 true)):((sealS s c.number).2.2==0)=((npt c most:Int)==1):=by
 obtain⟨h1,h2⟩:=seal_part A ht hc H;rw[all_set0 hc.cp]at h1 h2;by_cases g:npt c most=1
 ·obtain⟨o,h3,-⟩:=h2 (decide_eq_true g)
  rw[h3,g];rfl
 ·have g2:((npt c most:Int)==1)=false:=by simpa using(by omega:¬(npt c most:Int)=1)
  rw[g2];rcases h1 (decide_eq_false g)with h|h<;>(rw[h];rfl)
end Go.Proofs.YtpeldefimkdkdaaGreat
namespace Go.Proofs.YtpeldefimkdkdaaGreat
open Go.Proofs Go.AL
set_option maxRecDepth 100000
set_option maxHeartbeats 8000000
attribute [local irreducible] endA AW aops thenA blockA hold
attribute [local irreducible] numG
def withN(d c:Cyc):Cyc:=⟨d.base,c.number,d.time,d.pos,d.writes⟩
theorem withB{c d:Cyc}(h:CyB d):CyB (withN d c):=⟨h.pos,h.wr,h.one,h.b⟩
theorem law6_p(c d:Cyc)(x:List Int)(hc:CyB c)(hd:CyB d)(hx:∀b∈x,ByteOK b)(hxl:x.length≤9223372036854775807):PC 6 [.agg (encC c),.agg (encC d),.snap (encL byteRow x)] (bV true):=by
 refine pstart Tryz.func6 Tryz.ntmps6 (.c _) ?_;have c9:=awake_p;have c0:PC 23 [.agg (encC c)] (bV (fewC c)):=fewC_p c hc.pos hc.wr hc.one;have c1:PC 23 [.agg (encC (withN d c))] (bV (fewC (withN d c))):=fewC_p (withN d c) hd.pos hd.wr hd.one;cases hf:fewC c with
 |false=>
  rw[hf]at c0;clear c1 hc hd hx;obtain⟨b1,n1,t1,p1,w1⟩:=c;obtain⟨b2,n2,t2,p2,w2⟩:=d;unfold encC at*;simp only[]at*;refine zgo2 ?_;exact zfin
 |true=>
 rw[hf]at c0;cases hf2:fewC (withN d c)with
 |false=>
  rw[hf2]at c1;clear hc hd hx;obtain⟨b1,n1,t1,p1,w1⟩:=c;obtain⟨b2,n2,t2,p2,w2⟩:=d;unfold encC withN at*;simp only[]at*;refine zgo2 ?_;exact zfin
 |true=>
 rw[hf2]at c1;by_cases g:20<x.length
 ·have g':(20:Int)<x.length:=by omega
  clear hc hd hx hf hf2;obtain⟨b1,n1,t1,p1,w1⟩:=c;obtain⟨b2,n2,t2,p2,w2⟩:=d;unfold encC withN at*;simp only[]at*;refine zgo2 ?_;exact zfin
 have g':¬(20:Int)<x.length:=by omega
 have c2:=few_split hc hf 12;have c3:=few_split (withB (c:=c) hd) hf2 12;have c4:=sformat_p 0 1200;rw[fR0.1,fR0.2]at c4;unfold aR0 at c4;generalize (sfmE 0 1200).2.1=O at c4
 --an early end
 by_cases b1:(splE c 12).2=0∧(splE (withN d c) 12).2=0∧(splE c 12).1.length≤12∧(splE (withN d c) 12).1.length≤12∧(splE c 12).1.length≠0
 rotate_left
 ·clear hc hd hx hf hf2 hxl g
  generalize splE c 12=R1 at*;generalize splE (withN d c) 12=R2 at*;obtain⟨ps,e1⟩:=R1;obtain⟨qs,e2⟩:=R2;obtain⟨b1',n1,t1,p1,w1⟩:=c;obtain⟨b2,n2,t2,p2,w2⟩:=d;simp only[]at b1;unfold encC withN encSt at*;simp only[]at*;have f0:((0:Int) !=0)=false:=rfl;by_cases k1:e1=0
  rotate_left
  ·have l1:(e1 !=0)=true:=by simpa using k1
   clear b1 k1;refine zgo2 ?_;exact zfin
  have l1:(e1 !=0)=false:=by simpa using k1
  by_cases k2:e2=0
  rotate_left
  ·have l2:(e2 !=0)=true:=by simpa using k2
   clear b1 k1 k2;refine zgo2 ?_;exact zfin
  have l2:(e2 !=0)=false:=by simpa using k2
  by_cases k3:ps.length≤12
  rotate_left
  ·have l3:(12:Int)<ps.length:=by omega
   clear b1 k1 k2 k3;refine zgo2 ?_;exact zfin
  have l3:¬(12:Int)<ps.length:=by omega
  by_cases k4:qs.length≤12
  rotate_left
  ·have l4:(12:Int)<qs.length:=by omega
   clear b1 k1 k2 k3 k4;refine zgo2 ?_;exact zfin
  have l4:¬(12:Int)<qs.length:=by omega
  have k5:ps.length=0:=by
   rcases Nat.eq_zero_or_pos ps.length with h|h
   ·exact h
   ·exact absurd ⟨k1,k2,k3,k4,by omega⟩ b1
  have l5:((ps.length:Int)==0)=true:=by simp[k5]
  clear b1 k1 k2 k3 k4 k5;refine zgo2 ?_;exact zfin
 obtain⟨z1,z2,z3,z4,z5⟩:=b1;have hw:(withN d c).number=c.number:=rfl;have hdB:=withB (c:=c) hd;generalize hd':withN d c=d' at*;obtain⟨q1,r1⟩:=split_cq hc (most:=12) (by decide) (by decide) z1 (by show(splE c 12).1.length≤127;omega)
 obtain⟨q2,r2⟩:=split_cq hdB (most:=12) (by decide) (by decide) z2 (by show(splE d' 12).1.length≤127;omega)
 have r1:(splE c 12).1=(List.range (npt c 12)).map (ptN c 12):=r1;have r2:(splE d' 12).1=(List.range (npt d' 12)).map (ptN d' 12):=r2;rw[r1,z1]at c2;rw[r2,z2]at c3;rw[r1]at z3;rw[r2]at z4;simp only[List.length_map,List.length_range]at z3 z4;have hN1:=q1.cp.npt;have hN2:=q2.cp.npt;obtain⟨s1,o1,y,a1,a2,a3,a4,a5,a6⟩:=first_part q1;have hsL:=a2.ar.len;have pl1:=ptN_len q1.cp (i:=0) (by omega) q1.n
 have k1:=stadd_p aR0 (ptN c 12 0) ar0.ar.len (ptN_ok q1) (by omega)
 rw[a1]at k1;unfold aR0 at k1;have k2:=qparse_p (ptN c 12 0) (ptN_ok q1) (by omega)
 rw[parE_pt q1.cp (by omega)]at k2
 have k3:=stseal_p s1 c.number hsL;have k4:∀j,j<npt d' 12→PC 17 [.agg (encSt s1),.snap (encL byteRow (ptN d' 12 j))] (.tup [.agg (encSt (addS s1 (ptN d' 12 j)).1),.snap (encL opRow (addS s1 (ptN d' 12 j)).2.1),zV (addS s1 (ptN d' 12 j)).2.2]):=fun j hj=>stadd_p s1 (ptN d' 12 j) hsL (ptN_ok q2) (by have:=ptN_len q2.cp hj q2.n;omega)
 have k5:∀j,j<npt d' 12→PC 29 [.snap (encL byteRow (ptN d' 12 j))] (.tup [.agg [zV c.number,zV (j:Int),zV (npt d' 12),zV (crc (encE d').1),.snap (encL byteRow (pcN d' 12 j))],zV 0]):=fun j hj=>by
  have h:=qparse_p (ptN d' 12 j) (ptN_ok q2) (by have:=ptN_len q2.cp hj q2.n;omega)
  rw[parE_pt q2.cp hj,hw]at h;exact h
 have f1:∀j,j<npt d' 12→_:=fun j hj=>add_other a2 (by omega) q1 q2 hw (by simp[noS]) a4 a5 hj
 have f2:∀j,((noS c 12).set 0 true).getD j false=decide (j=0):=set0_get q1.cp;simp only[f2]at f1;have f3:=seal_first a2 (by omega) q1 a3
 have p1:(encL byteL ((List.range (npt c 12)).map (ptN c 12)))[0]? =some [.snap (encL byteRow (ptN c 12 0))]:=by
  rw[encL_get [] (by simpa using(by omega:0<npt c 12))]
  simp[byteL,List.getD_eq_getElem?_getD,show 0<npt c 12 by omega]
 have p2:∀j,j<npt d' 12→(encL byteL ((List.range (npt d' 12)).map (ptN d' 12)))[j]? =some [.snap (encL byteRow (ptN d' 12 j))]:=fun j hj=>by
  rw[encL_get [] (by simpa using hj)]
  simp[byteL,List.getD_eq_getElem?_getD,hj]
 have m1:(encL byteL ((List.range (npt c 12)).map (ptN c 12))).length=npt c 12:=by simp[encL]
 have m2:(encL byteL ((List.range (npt d' 12)).map (ptN d' 12))).length=npt d' 12:=by simp[encL]
 generalize (List.range (npt c 12)).map (ptN c 12)=P1 at*;generalize (List.range (npt d' 12)).map (ptN d' 12)=P2 at*;have z3':¬(12:Int)<npt c 12:=by omega
 have z4':¬(12:Int)<npt d' 12:=by omega
 have f0:((0:Int) !=0)=false:=rfl;have u1:((npt c 12:Int)==0)=false:=by simpa using(by omega:¬(npt c 12:Int)=0)
 generalize (addS s1)=AD at*;generalize sealS s1 c.number=SE at*;generalize (ptN c 12 0)=B0 at*;generalize (ptN d' 12)=BB at*;generalize (pcN c 12 0)=C0 at*;generalize (pcN d' 12)=CC at*;generalize npt c 12=N1 at*;generalize npt d' 12=N2 at*;generalize crc (encE c).1=R1 at*;generalize crc (encE d').1=R2 at*;clear a1 a2 a3 a4 a5 a6 hsL pl1 f2 r1 r2 q1 q2 z1 z2 hdB hc hd hf hf2 y;obtain⟨⟨js,jc,jh,jt,jf,jz⟩,l⟩:=s1
 obtain⟨⟨⟨es,ec,eh,et,ef,ez⟩,el⟩,eo,ee⟩:=SE;obtain⟨b1',n1,t1,p1',w1⟩:=c;obtain⟨b2,n2,t2,p2',w2⟩:=d;subst hd';unfold encC withN encSt at*;simp only[]at*;refine zgo2 ?_;have hgx:=gB x;have hgb:=fun k (hk:k<x.length)=>hx _ (getD_mem' 0 hk)
 refine zfor1 x.length 100 [(0,some (.cells 34 5 [[zV b1',zV n1,zV t1,AV.snap (encL intRow p1'),AV.snap (encL opRow w1)]] true false)),(3,some (.cells 29 7 [[zV js,zV jc,zV jh,zV jt,zV jf,AV.snap (encL intRow jz),AV.snap (encL stgRow l)]] true false)),(16,some (.cells 68 5 [[zV n1,zV 0,zV N1,zV R1,AV.snap (encL byteRow C0)]] true false))] (fun k=> [(108,true,zV k),(107,true,zV x.length),(106,true,.snap (encL byteRow x)),(15,true,zV 0),(14,true,.ptr 16 0 0),(11,true,.ptr 3 0 0),(9,true,.snap (encL byteL P2)),(7,true,.snap (encL byteL P1)),(3,true,.ptr 0 0 0)]) zholds (fun k m hk hm=> ?_) (fun m hm=> ?_)
 ·have hb:=hgb k hk
  have hgk:=hgx k hk
  obtain⟨j,hjN,hj⟩:∃j:Nat,j<N2∧(x.getD k 0).tmod (N2:Int)=(j:Int):=by
   have i1:=Int.emod_lt_of_pos (x.getD k 0) (show(0:Int)<N2 by omega)
   have i2:=Int.emod_nonneg (x.getD k 0) (show(N2:Int)≠0 by omega)
   refine⟨((x.getD k 0) % (N2:Int)).toNat,by omega,?_⟩
   rw[Int.tmod_eq_emod_of_nonneg hb.1];omega
  have a2:=p2 j hjN;have a4:=k4 j hjN;have a5:=k5 j hjN;obtain⟨i1,i2⟩:=f1 j hjN;clear p2 k4 k5 f1 hgx hgb;generalize AD (BB j)=A at*;generalize BB j=B at*;generalize CC j=C at*;obtain⟨⟨⟨as_,ac,ah,at_,af,az⟩,al⟩,ao,ae⟩:=A;simp only[]at*;generalize x.getD k 0=v at*;have hv0:=hb.1;have hv1:=hb.2;have y1:IntKind.i64.wrap v=v:=IntWalk.i64_in _ (by omega)
  have y2:¬(N2:Int)=0:=by omega
  clear hb hx z5 c0 c1 c2 c3 c4 r1 r2 hw u1 f3 k1 k3;by_cases s1:(N1:Int)=N2
  ·have d1:((N1:Int)==(N2:Int))=true:=by simpa using s1
   by_cases s2:R1=R2
   ·have d2:(R1==R2)=true:=by simpa using s2
    by_cases s3:j=0
    ·have d3:((j:Int) !=0)=false:=by simp[s3]
     clear i1 i2 s1 s2 s3;refine zgo2 ?_;exact⟨m+60,by omega,zholds⟩
    ·have d3:((j:Int) !=0)=true:=by simp[s3]
     have d4:=i2 s1 s2 (decide_eq_false s3);subst d4;clear i1 i2 s1 s2 s3;refine zgo2 ?_;exact⟨m+60,by omega,zholds⟩
   ·have d2:(R1==R2)=false:=by simpa using s2
    have d4:=i1 (fun h=>s2 h.2)
    subst d4;clear i1 i2 s1 s2;refine zgo2 ?_;exact⟨m+60,by omega,zholds⟩
  ·have d1:((N1:Int)==(N2:Int))=false:=by simpa using s1
   have d4:=i1 (fun h=>s1 h.1)
   subst d4;clear i1 i2 s1;refine zgo2 ?_;exact⟨m+60,by omega,zholds⟩
 ·clear p2 k4 k5 f1 hgx hgb
  by_cases u2:(N1:Int)=1
  ·have d1:((N1:Int)==1)=true:=by simpa using u2
   rw[d1]at f3;refine zgo2 ?_;exact zfin
  ·have d1:((N1:Int)==1)=false:=by simpa using u2
   rw[d1]at f3;refine zgo2 ?_;exact zfin
end Go.Proofs.YtpeldefimkdkdaaGreat
namespace Go.Proofs.YtpeldefimkdkdaaGreat
open Go.Proofs Go.AL
set_option maxRecDepth 100000
set_option maxHeartbeats 1000000
attribute [local irreducible] endA AW aops thenA blockA hold
theorem Hv.keep{s s':Stag}{c:Cyc}{m:Nat}{S:List Bool}(H:Hv s c m S)(h:getS s'.cycles c.number=getS s.cycles c.number):Hv s' c m S:=⟨H.len,fun y hy=>H.at_ y (by rw[←h];exact hy),fun hn=>H.no (by rw[←h];exact hn)⟩
structure Two(c:Cyc)(m:Nat)(d:Cyc)(s:Stag)(S:List Bool)(t:Nat):Prop where
 ar:Ar2 s t
 one:Hv s c m S
 two:∃U,Hv s d 10 U
theorem two_part{c:Cyc}{m:Nat}{d:Cyc}{s:Stag}{S:List Bool}{t:Nat}(T:Two c m d s S t)(ht:t≤52)(hc:CQ c m)(hne:d.number≠c.number){i:Nat}(hi:i<npt c m):
  ∃s' o,addS s (ptN c m i)=(s',o,0)∧(o=[]↔S.getD i false=true)∧Two c m d s' (S.set i true) (t+1):=by
 obtain⟨s',o,h1,h2,h3,h4,h5⟩:=add_part T.ar ht hc T.one hi;obtain⟨U,hU⟩:=T.two;exact⟨s',o,h1,h2,h3,h4,U,hU.keep (h5 _ hne)⟩
theorem two_noise{c:Cyc}{m:Nat}{d:Cyc}{s:Stag}{S:List Bool}{t:Nat}(T:Two c m d s S t)(ht:t≤52)(hd:CQ d 10)(hne:d.number≠c.number){i:Nat}(hi:i<npt d 10):
  ∃s' o,addS s (ptN d 10 i)=(s',o,0)∧Two c m d s' S (t+1):=by
 obtain⟨U,hU⟩:=T.two;obtain⟨s',o,h1,h2,h3,h4,h5⟩:=add_part T.ar ht hd hU hi;exact⟨s',o,h1,h3,T.one.keep (h5 _ (Ne.symm hne)),_,h4⟩
theorem two_seal{c:Cyc}{m:Nat}{d:Cyc}{s:Stag}{S:List Bool}{t:Nat}(T:Two c m d s S t)(ht:t≤52)(hc:CQ c m):
  (S.all id=true→(sealS s c.number).2.2=0)∧(S.all id=false→(sealS s c.number).2.2=15∨(sealS s c.number).2.2=7):=by
 obtain⟨h1,h2⟩:=seal_part T.ar ht hc T.one;refine⟨fun h=> ?_,h1⟩
 obtain⟨o,h3,-⟩:=h2 h;rw[h3]
theorem two0{c d:Cyc}{m:Nat}:Two c m d aR0 (noS c m) 0:=⟨ar0,hv0 c m,_,hv0 d 10⟩
theorem set_all{S:List Bool}{k:Nat}(h:∀j,j<k→S.getD j false=true)(hk:k<S.length):∀j,j<k+1→(S.set k true).getD j false=true:=fun j hj=>by
 rw[List.getD_eq_getElem?_getD,List.getElem?_set];by_cases g:k=j
 ·rw[if_pos g,if_pos (by omega)]
  rfl
 ·rw[if_neg g,←List.getD_eq_getElem?_getD]
  exact h j (by omega)
theorem all_ofD{S:List Bool}(h:∀j,j<S.length→S.getD j false=true):S.all id=true:=List.all_eq_true.2 fun b hb=>by
 obtain⟨j,hj,rfl⟩:=List.mem_iff_getElem.1 hb;have:=h j hj;simpa[hj]using this
theorem small_cq{n:Int}(h1:n≤100000)(he:(splE (smC n) 10).2=0):CQ (smC n) 10∧(splE (smC n) 10).1=(List.range (npt (smC n) 10)).map (ptN (smC n) 10)∧npt (smC n) 10≤6:=by
 have h3:=sm_len n h1
 have h0:(encE (smC n)).2=0:=by
  unfold splE at he;split at he
  ·assumption
  ·exact he
 have hc:CP (smC n) 10:=⟨h0,by decide,by decide⟩
 obtain⟨-,-,e3,-⟩:=dec_enc h0
 have hn:npt (smC n) 10≤6:=by
  unfold npt nParts;rw[e3];omega
 have h4:=splE_pt hc
 obtain⟨q1,q2⟩:=split_cq (smB n) (most:=10) (by decide) (by decide) he (by
  have h5:splE (smC n) ((10:Nat):Int)=_:=h4;rw[h5];simp only[List.length_map,List.length_range]
  omega)
 exact⟨q1,q2,hn⟩
def ptX(c:Cyc)(m:Nat)(d:Cyc)(i:Nat):List Int:=if i<npt c m then ptN c m i else ptN d 10 (i-npt c m)
theorem two_any{c:Cyc}{m:Nat}{d:Cyc}{s:Stag}{S:List Bool}{t:Nat}(T:Two c m d s S t)(ht:t≤52)(hc:CQ c m)(hd:CQ d 10)(hne:d.number≠c.number){i:Nat}(hi:i<npt c m+npt d 10):
  ∃s' o,addS s (ptX c m d i)=(s',o,0)∧(i<npt c m→(o=[]↔S.getD i false=true))∧Two c m d s' (if i<npt c m then S.set i true else S) (t+1):=by
 unfold ptX;by_cases g:i<npt c m
 ·rw[if_pos g,if_pos g]
  obtain⟨s',o,h1,h2,h3⟩:=two_part T ht hc hne g;exact⟨s',o,h1,fun _=>h2,h3⟩
 ·rw[if_neg g,if_neg g]
  obtain⟨s',o,h1,h3⟩:=two_noise T ht hd hne (i:=i-npt c m) (by omega)
  exact⟨s',o,h1,fun h=>absurd h g,h3⟩
theorem ptX_ok{c:Cyc}{m:Nat}{d:Cyc}(hc:CQ c m)(hd:CQ d 10)(i:Nat):∀x∈ptX c m d i,ByteOK x:=by
 unfold ptX;split
 ·exact ptN_ok hc
 ·exact ptN_ok hd
theorem ptX_len{c:Cyc}{m:Nat}{d:Cyc}(hc:CQ c m)(hd:CQ d 10){i:Nat}(hi:i<npt c m+npt d 10):(ptX c m d i).length≤79:=by
 have h1:=hc.m;unfold ptX;split
 ·rename_i g
  have:=ptN_len hc.cp g hc.n;omega
 ·have:=ptN_len hd.cp (i:=i-npt c m) (by omega) hd.n
  omega
theorem ptX_get{c:Cyc}{m:Nat}{d:Cyc}{i:Nat}(hi:i<npt c m+npt d 10):(encL byteL ((List.range (npt c m)).map (ptN c m)++(List.range (npt d 10)).map (ptN d 10)))[i]? =some [.snap (encL byteRow (ptX c m d i))]:=by
 rw[encL_get [] (by simpa using hi)]
 unfold ptX;by_cases g:i<npt c m
 ·rw[if_pos g]
  have e:((List.range (npt c m)).map (ptN c m)++(List.range (npt d 10)).map (ptN d 10)).getD i []=ptN c m i:=by
   rw[List.getD_eq_getElem?_getD,List.getElem?_append_left (by simpa using g)]
   simp[g]
  rw[e];rfl
 ·rw[if_neg g]
  have h3:i-npt c m<npt d 10:=by omega
  have e:((List.range (npt c m)).map (ptN c m)++(List.range (npt d 10)).map (ptN d 10)).getD i []=ptN d 10 (i-npt c m):=by
   rw[List.getD_eq_getElem?_getD,List.getElem?_append_right (by simpa using g)]
   simp[h3]
  rw[e];rfl
theorem boolSet(S:List Bool)(i:Nat)(b:Bool):(encL boolRow S).set i [bV b]=encL boolRow (S.set i b):=by
 unfold encL;rw[List.map_set];rfl
end Go.Proofs.YtpeldefimkdkdaaGreat
