/- Staging: contracts of its functions (Azj). No condition but those named. -/
import Derived.Test.YtpeldefimkdkdaaGreatAzi
import Derived.KernelRfl
set_option linter.unusedVariables false
set_option linter.unusedSimpArgs false
namespace Go.Proofs.YtpeldefimkdkdaaGreat
open Go.Proofs Go.AL
set_option maxRecDepth 100000
set_option maxHeartbeats 8000000
attribute [local irreducible] endA AW aops thenA blockA hold
attribute [local irreducible] numG
theorem cloneBB_o(l:List (List Int))(h:l≠[])(hl:l.length≤1000000):OCall Tryz.prog 27 [.snap (encL byteL l)] 46 1 (encL byteL l):=by
 refine ostart Tryz.func27 Tryz.ntmps27 (by simp only[go_sem]) (encL_ids l) ?_
 have h1:=isEmpty_f h;refine zgo ?_;exact⟨1,by simp only[go_sem],by simp only[go_sem]⟩
theorem bools_expo(G:Nat→Option Blk)(k:Nat)(l:List Bool):(encL boolRow l).map (fun row=>row.map (expoD G k))=encL boolRow l:=encL_expoD (fun a x hx=>by simp[boolRow]at hx;exact⟨_,hx⟩) G k l
theorem bools_take{l:List Bool}{n:Nat}(h:l.length=n):(encL boolRow l).take n=encL boolRow l:=List.take_of_length_le (by rw[encL_len];omega)
theorem tmod_rng(a:Int){n:Int}(h:0<n): -n<a.tmod n∧a.tmod n<n:=by
 have h1:=Int.natAbs_tmod a n;have h2:a.natAbs % n.natAbs<n.natAbs:=Nat.mod_lt _ (by omega)
 omega
theorem law5_p(c:Cyc)(q:Int)(x:List Int)(hc:CyB c)(hq:ByteOK q)(hx:∀b∈x,ByteOK b)(hxl:x.length≤9223372036854775807):PC 5 [.agg (encC c),uV q,.snap (encL byteRow x)] (bV true):=by
 refine pstart Tryz.func5 Tryz.ntmps5 (.c _) ?_;have c9:=awake_p;have c0:PC 23 [.agg (encC c)] (bV (fewC c)):=fewC_p c hc.pos hc.wr hc.one;cases hf:fewC c with
 |false=>
  rw[hf]at c0;clear hc hx;obtain⟨b1,n1,t1,p1,w1⟩:=c;unfold encC at*;simp only[]at*;refine zgo2 ?_;exact zfin
 |true=>
 rw[hf]at c0;by_cases g:40<x.length
 ·have g':(40:Int)<x.length:=by omega
  clear hc hx hf;obtain⟨b1,n1,t1,p1,w1⟩:=c;unfold encC at*;simp only[]at*;refine zgo2 ?_;exact zfin
 have g':¬(40:Int)<x.length:=by omega
 have hq0:=hq.1;have hq1:=hq.2;have hqr:=Int.emod_lt_of_pos q (show(0:Int)<60 by decide)
 have hqp:=Int.emod_nonneg q (show(60:Int)≠0 by decide)
 obtain⟨m,hm⟩:∃m:Nat,q % 60+8=(m:Int):=⟨(q % 60+8).toNat,by omega⟩
 have hm1:8≤m∧m≤67:=by omega
 have c2:=few_split hc hf m;have c4:=sformat_p 0 1200;rw[fR0.1,fR0.2]at c4;unfold aR0 at c4;generalize (sfmE 0 1200).2.1=O at c4;have f0:((0:Int) !=0)=false:=rfl;have nr:=tmod_rng c.number (n:=1000) (by decide)
 obtain⟨n',hn'⟩:∃n',c.number.tmod 1000+2=n':=⟨_,rfl⟩;have w3:IntKind.i64.wrap (c.number.tmod 1000+2)=n':=by rw[IntWalk.i64_in _ (by omega),hn']
 have c5:=small_p n' (by omega) (by omega)
 have c6:=few_split (smB n') (smF n') 10;have dn:(smC n').number=n':=rfl;have hdc:(smC n').number=n':=rfl;have hnb:n'≤100000:=by omega
 clear hn'
 --an early end
 by_cases k1:(splE c m).2=0
 rotate_left
 ·have l1:((splE c m).2 !=0)=true:=by simpa using k1
  clear hc hx hf g hxl k1 c5 c6 c4;generalize splE c m=R at*;obtain⟨ps,e⟩:=R;obtain⟨b1,n1,t1,p1,w1⟩:=c;unfold encC at*;simp only[]at*;refine zgo2 ?_;exact zfin
 by_cases k2:(splE c m).1.length≤12
 rotate_left
 ·have l2:(12:Int)<(splE c m).1.length:=by omega
  rw[k1]at c2;clear hc hx hf g hxl k1 c5 c6 c4 k2;generalize (splE c m).1=ps at*;obtain⟨b1,n1,t1,p1,w1⟩:=c;unfold encC at*;simp only[]at*;refine zgo2 ?_;exact zfin
 obtain⟨q1,r1⟩:=split_cq hc (most:=m) (by omega) hm1.2 k1 (by omega)
 rw[r1,k1]at c2;rw[r1]at k2;simp only[List.length_map,List.length_range]at k2;have hN1:=q1.cp.npt;have m1:(encL byteL ((List.range (npt c m)).map (ptN c m))).length=npt c m:=by simp[encL]
 have z3':¬(12:Int)<npt c m:=by omega
 have u3:((npt c m:Int)==0)=false:=by simpa using(by omega:¬(npt c m:Int)=0)
 by_cases k3:(splE (smC n') 10).2=0
 rotate_left
 ·have l3:((splE (smC n') 10).2 !=0)=true:=by simpa using k3
  clear hc hx hf g hxl k1 q1 r1 k3 hN1 k2;generalize splE (smC n') 10=R at*;generalize npt c m=N1 at*;generalize (List.range N1).map (ptN c m)=P1 at*;obtain⟨ps,e⟩:=R;obtain⟨b1,n1,t1,p1,w1⟩:=c;have e1:=encC_sm n';rw[e1]at c5 c6;unfold encC encSt at*;simp only[]at*;refine zgo2 ?_;exact zfin
 obtain⟨q2,r2,hN2⟩:=small_cq (n:=n') hnb k3;rw[r2,k3]at c6;have hN2':=q2.cp.npt;have m2:(encL byteL ((List.range (npt (smC n') 10)).map (ptN (smC n') 10))).length=npt (smC n') 10:=by simp[encL]
 have u4:((npt (smC n') 10:Int)==0)=false:=by simpa using(by omega:¬(npt (smC n') 10:Int)=0)
 by_cases k4:n'=c.number
 ·have l4:(n'==c.number)=true:=by simpa using k4
  clear hc hx hf g hxl k1 q1 r1 k3 hN1 k2 q2 r2 hN2 hN2' k4;generalize npt c m=N1 at*;generalize (List.range N1).map (ptN c m)=P1 at*;generalize npt (smC n') 10=N2 at*;generalize (List.range N2).map (ptN (smC n') 10)=P2 at*;obtain⟨b1,n1,t1,p1,w1⟩:=c;have e1:=encC_sm n';rw[e1]at c5 c6;unfold encC encSt at*;simp only[]at*;refine zgo2 ?_;exact zfin
 have l4:(n'==c.number)=false:=by simpa using k4
 have e1:=encC_sm n';rw[e1]at c5 c6;clear e1;have hcn:c.number=c.number:=rfl;have bd:0<c.number:=by have:=q1.cp.num;omega
 rw[Int.tmod_eq_emod_of_nonneg (by omega)]at w3 nr
 have hT:=two0 (c:=c) (m:=m) (d:=smC n');unfold aR0 at hT;have hfew:=few_out hf;have hlx:x.length≤40:=by omega
 have hne:(smC n').number≠c.number:=k4;have hbyt:=fun i=>ptX_ok (c:=c) (m:=m) (d:=smC n') q1 q2 i
 have hlen:=fun i (hi:i<npt c m+npt (smC n') 10)=>ptX_len q1 q2 hi
 have hget:=fun i (hi:i<npt c m+npt (smC n') 10)=>ptX_get (c:=c) (m:=m) (d:=smC n') hi
 have hP1:(List.range (npt c m)).map (ptN c m)≠[]:=by
  intro h;have:=congrArg List.length h;simp at this;omega
 have cc:=cloneBB_o _ hP1 (by simp;omega)
 have hS0:(noS c m).length=npt c m:=by simp[noS]
 have hmk:List.replicate (npt c m) [bV false]=encL boolRow (noS c m):=by
  unfold noS encL;rw[List.map_replicate];rfl
 have hgx:=gB x;have hgb:=fun k (hk:k<x.length)=>hx _ (getD_mem' 0 hk)
 have hg1:∀k,k<npt c m→(encL byteL ((List.range (npt c m)).map (ptN c m)))[k]? =some [.snap (encL byteRow (ptN c m k))]:=fun j hj=>by
  rw[encL_get [] (by simpa using hj)]
  simp[byteL,List.getD_eq_getElem?_getD,hj]
 have hbyt1:=fun i (hi:i<npt c m)=>ptN_ok (c:=c) (most:=m) (i:=i) q1
 have hlen1:=fun i (hi:i<npt c m)=>ptN_len q1.cp hi q1.n
 have hjoin:encL byteL ((List.range (npt c m)).map (ptN c m))++encL byteL ((List.range (npt (smC n') 10)).map (ptN (smC n') 10))=encL byteL ((List.range (npt c m)).map (ptN c m)++(List.range (npt (smC n') 10)).map (ptN (smC n') 10)):=encL_app _ _;obtain⟨C,hC⟩:∃C,C=c:=⟨_,rfl⟩;rw[←hC]at hT hne q1;have hnpt:npt C m=npt c m:=by rw[hC]
 obtain⟨D,hD⟩:∃D,D=smC n':=⟨_,rfl⟩;rw[←hD]at hT hne q2;have hnpt2:npt D 10=npt (smC n') 10:=by rw[hD]
 have hPT:ptX C m D=ptX c m (smC n'):=by rw[hC,hD]
 have hPN:ptN C m=ptN c m:=by rw[hC]
 have hCn:C.number=c.number:=by rw[hC]
 have hno:noS C m=noS c m:=by rw[hC]
 rw[hno]at hT;clear hc hx hf k1 k3 k4 g hxl
 replace hT:=Lat.mk hT
 generalize npt c m=N1 at*;generalize npt (smC n') 10=N2 at*;generalize (List.range N1).map (ptN c m)=P1 at*;generalize (List.range N2).map (ptN (smC n') 10)=P2 at*;generalize ptX c m (smC n')=PT at*;generalize ptN c m=PN at*;generalize noS c m=S0 at*;obtain⟨b1,n1,t1,p1,w1⟩:=c;unfold encC encSt at*;simp only[]at*;refine zgo2 ?_
 refine zfor (α:=Stag×List Bool) x.length (fun k a=> [(102,true,zV k),(101,true,zV x.length),(100,true,.snap (encL byteRow x)),(15,true,.own 5 0 N1),(13,true,.snap (encL byteL P2)),(9,true,.ptr 1 0 0),(7,true,.snap (encL byteL P1)),(3,true,.ptr 0 0 0)])
  (fun k a=> [(0,some (.cells 34 5 [[zV b1,zV n1,zV t1,.snap (encL intRow p1),.snap (encL opRow w1)]] true false)),(1,some (.cells 29 7 [[zV a.1.j.start,zV a.1.j.count,zV a.1.j.head,zV a.1.j.tail,zV a.1.j.first,.snap (encL intRow a.1.j.sizes),.snap (encL stgRow a.1.cycles)]] true false)),(5,some (.cells 4 1 (encL boolRow a.2) true true))])
  (fun k mm a=>6≤mm∧a.2.length=N1∧Two C m D a.1 a.2 k) ⟨100,(⟨⟨0,1200,0,0,1,[]⟩,[]⟩,S0),⟨by omega,hS0,hT.out⟩,zholds⟩ (fun k mm a hk hR=> ?_) (fun mm a hR=> ?_)
 ·obtain⟨s,S⟩:=a
  obtain⟨hm,hSl,hR⟩:=hR;simp only[]at hSl hR;have hb:=hgb k hk;have hgk:=hgx k hk;generalize x.getD k 0=v at*;have hv0:=hb.1;have hv1:=hb.2
  obtain⟨ii,hiN,hj⟩:∃ii:Nat,ii<N1+N2∧v % ((N1:Int)+N2)=(ii:Int):=by
   have i1:=Int.emod_lt_of_pos v (show(0:Int)<(N1:Int)+N2 by omega)
   have i2:=Int.emod_nonneg v (show(N1:Int)+N2≠0 by omega)
   exact⟨(v % ((N1:Int)+N2)).toNat,by omega,by omega⟩
  have hj':v.tmod ((N1:Int)+N2)=(ii:Int):=by rw[Int.tmod_eq_emod_of_nonneg hv0];exact hj
  have y1:IntKind.i64.wrap v=v:=IntWalk.i64_in _ (by omega)
  have y2:IntKind.i64.wrap ((N1:Int)+N2)=(N1:Int)+N2:=IntWalk.i64_in _ (by omega)
  have y3:¬((N1:Int)+N2)=0:=by omega
  obtain⟨s',o,h1,h2,h3⟩:=two_any hR (by omega) q1 q2 hne (i:=ii) (by rw[hnpt,hnpt2];exact hiN)
  rw[hnpt]at h2 h3;rw[hPT]at h1;have k1:=stadd_p s (PT ii) hR.ar.ar.len (hbyt ii) (by have:=hlen ii hiN;omega)
  rw[h1]at k1;have k2:=stseal_p s' n1 h3.ar.ar.len;have k3:=two_seal h3 (by omega) q1
  rw[hCn]at k3;have hgi:=hget ii hiN;clear hget hgb hgx hR hb hlen hbyt c0 c2 c4 c5 c6 hT;generalize sealS s' n1=E at*;obtain⟨⟨⟨es,ec,eh,et,ef,ez⟩,el⟩,eo,ee⟩:=E;obtain⟨⟨js,jc,jh,jt,jf,jz⟩,l⟩:=s;obtain⟨⟨js',jc',jh',jt',jf',jz'⟩,l'⟩:=s';unfold encSt at*;simp only[]at*;by_cases gi:ii<N1
  ·rw[if_pos gi]at h3 k3
   have h2:=h2 gi;have gi':(ii:Int)<N1:=by omega
   have hset:=boolSet S ii true;have hSl':(S.set ii true).length=N1:=by rw[List.length_set];exact hSl
   have cK:FC 28 [.snap (encL boolRow (S.set ii true)),bV false] (bV (!((S.set ii true).all id))):=FCall.ofK (bcont_p _ (by omega)) rfl
   have hSi:(encL boolRow S)[ii]? =some [bV (S.getD ii false)]:=by
    rw[encL_get false (by omega)]
    rfl
   have hoe:((o.length:Int)==0)=S.getD ii false:=by
    cases hb2:S.getD ii false with
    |true=>rw[h2.2 hb2];rfl
    |false=>
     have:o≠[]:=fun h=>by rw[h2.1 h]at hb2;cases hb2
     have:o.length≠0:=fun h=>this (List.eq_nil_of_length_eq_zero h)
     simpa using(by omega:¬(o.length:Int)=0)
   have hxx:(S.getD ii false==S.getD ii false)=true:=by simp
   replace h3:=Lat.mk h3
   replace k3:=Lat.mk k3
   clear h2;have hbx:=fun G k=>bools_expo G k (S.set ii true)
   have htk:=bools_take hSl';generalize S.getD ii false=sb at*;generalize hSS:S.set ii true=S' at*;generalize S'.all id=al at*;cases al with
   |true=>
    have he:=k3.out.1 rfl;subst he;refine zgo2 ?_;exact⟨mm+60,(⟨⟨js',jc',jh',jt',jf',jz'⟩,l'⟩,S'),⟨by omega,hSl',h3.out⟩,zholds⟩
   |false=>
    rcases k3.out.2 rfl with he|he
    ·subst he
     refine zgo2 ?_;exact⟨mm+60,(⟨⟨js',jc',jh',jt',jf',jz'⟩,l'⟩,S'),⟨by omega,hSl',h3.out⟩,zholds⟩
    ·subst he
     refine zgo2 ?_;exact⟨mm+60,(⟨⟨js',jc',jh',jt',jf',jz'⟩,l'⟩,S'),⟨by omega,hSl',h3.out⟩,zholds⟩
  ·rw[if_neg gi]at h3 k3
   have gi':¬(ii:Int)<N1:=by omega
   have cK:FC 28 [.snap (encL boolRow S),bV false] (bV (!(S.all id))):=FCall.ofK (bcont_p _ (by omega)) rfl
   replace h3:=Lat.mk h3
   replace k3:=Lat.mk k3
   clear h2;have hbx:=fun G k=>bools_expo G k S
   have htk:=bools_take hSl;generalize S.all id=al at*;cases al with
   |true=>
    have he:=k3.out.1 rfl;subst he;refine zgo2 ?_;exact⟨mm+60,(⟨⟨js',jc',jh',jt',jf',jz'⟩,l'⟩,S),⟨by omega,hSl,h3.out⟩,zholds⟩
   |false=>
    rcases k3.out.2 rfl with he|he
    ·subst he
     refine zgo2 ?_;exact⟨mm+60,(⟨⟨js',jc',jh',jt',jf',jz'⟩,l'⟩,S),⟨by omega,hSl,h3.out⟩,zholds⟩
    ·subst he
     refine zgo2 ?_;exact⟨mm+60,(⟨⟨js',jc',jh',jt',jf',jz'⟩,l'⟩,S),⟨by omega,hSl,h3.out⟩,zholds⟩
 ·obtain⟨s,S⟩:=a
  obtain⟨hm,hSl,hR⟩:=hR;simp only[]at hSl hR;clear hget hgb hgx hlen hbyt c0 c2 c4 c5 c6 cc hT;generalize x.length=T0 at*;obtain⟨⟨js,jc,jh,jt,jf,jz⟩,l⟩:=s;simp only[]at*;refine zgo2 ?_
  refine zfor (α:=Stag×List Bool) N1 (fun k a=> [(184,true,zV k),(183,true,zV N1),(182,true,.snap (encL byteL P1)),(9,true,.ptr 1 0 0),(3,true,.ptr 0 0 0)])
   (fun k a=> [(0,some (.cells 34 5 [[zV b1,zV n1,zV t1,.snap (encL intRow p1),.snap (encL opRow w1)]] true false)),(1,some (.cells 29 7 [[zV a.1.j.start,zV a.1.j.count,zV a.1.j.head,zV a.1.j.tail,zV a.1.j.first,.snap (encL intRow a.1.j.sizes),.snap (encL stgRow a.1.cycles)]] true false))])
   (fun k mm a=>6≤mm∧a.2.length=N1∧(∀j,j<k→a.2.getD j false=true)∧Two C m D a.1 a.2 (T0+k)) ⟨mm+100,(⟨⟨js,jc,jh,jt,jf,jz⟩,l⟩,S),⟨by omega,hSl,fun j hj=>by omega,hR⟩,zholds⟩ (fun k m3 a hk hR=> ?_) (fun m3 a hR=> ?_)
  ·obtain⟨s,S⟩:=a
   obtain⟨hm,hSl,hall,hR⟩:=hR;simp only[]at hSl hall hR;obtain⟨s',o,h1,h2,h3⟩:=two_part hR (by omega) q1 hne (i:=k) (by rw[hnpt];exact hk)
   rw[hPN]at h1;have kk:=stadd_p s (PN k) hR.ar.ar.len (hbyt1 k hk) (by have:=hlen1 k hk;omega)
   rw[h1]at kk;have hgk:=hg1 k hk;have hl2:(S.set k true).length=N1:=by rw[List.length_set];exact hSl
   have ha2:=Lat.mk (set_all hall (by omega))
   replace h3:=Lat.mk h3
   clear hR hall h1 h2 hg1 hbyt1 hlen1;generalize S.set k true=S2 at*;obtain⟨⟨js,jc,jh,jt,jf,jz⟩,l⟩:=s;obtain⟨⟨js',jc',jh',jt',jf',jz'⟩,l'⟩:=s';unfold encSt at*;simp only[]at*;refine zgo2 ?_;exact⟨m3+60,(⟨⟨js',jc',jh',jt',jf',jz'⟩,l'⟩,S2),⟨by omega,hl2,ha2.out,h3.out⟩,zholds⟩
  ·obtain⟨s,S⟩:=a
   obtain⟨hm,hSl,hall,hR⟩:=hR;simp only[]at hSl hall hR;have hA:=all_ofD (S:=S) (fun j hj=>hall j (by omega))
   obtain⟨o,e1,e2,e3,e4,e5⟩:=(seal_part hR.ar (by omega) q1 hR.one).2 hA
   rw[hCn]at e1 e2 e3 e4 e5;have cA:=stcyc_p s n1 hR.ar.ar.len;have cB:=stseal_p s n1 hR.ar.ar.len;have cC:=stcyc_p (sealS s n1).1 n1 e3.len;have cD:=sealed_p (sealS s n1).1 e3.len;rw[e2]at cA;rw[e1]at cB;rw[e4,hC]at cC;rw[e5]at cD;have hl1:encL intRow [n1]=[[zV n1]]:=rfl;rw[hl1]at cD;have cE:=sameCy_p ⟨b1,n1,t1,p1,w1⟩ (by have:=hfew.1;simp only[]at this⊢;omega) (by have:=hfew.2.1;simp only[]at this⊢;omega) (fun o ho=>by have:=hfew.2.2 o ho;omega)
   have cF:FC 13 [.snap [[zV n1]],.snap [[zV n1]]] (bV true):=FCall.ofK (eqI_p [n1] (by simp)) rfl
   clear hR hall hA e1 e2 e3 e4 e5 hg1 hbyt1 hlen1 hl1;generalize (stcE s n1).1=U at*;generalize (sealS s n1).1=V at*;obtain⟨ub,un,ut,up,uw⟩:=U;obtain⟨⟨vs,vc,vh,vt,vf,vz⟩,vl⟩:=V;obtain⟨⟨js,jc,jh,jt,jf,jz⟩,l⟩:=s;unfold encSt encC at*;simp only[]at*;refine zgo2 ?_;refine zdrawY ?_;refine zgo2 ?_;exact zfin
end Go.Proofs.YtpeldefimkdkdaaGreat
namespace Go.Proofs.YtpeldefimkdkdaaGreat
open Go.Proofs Go.AL
open Go.ChangeShapes Go.WideShapes Go.RowKit
def shSec:List Sh:=[shU,shU,shU,shU,shU,shU,shU,shU]
def shOp:List Sh:=[shI,shI,.sl shSec]
def shC:List Sh:=[shI,shI,shI,.sl [shI],.sl shOp]
theorem open_sec(r:List AV)(h:CfR shSec r):∃s:Sec,(∀y∈secB s,ByteOK y)∧r=encSec s:=by
 obtain⟨a0,r,rfl,h0,g0⟩:=h.uncons;obtain⟨a1,r,rfl,h1,g1⟩:=g0.uncons;obtain⟨a2,r,rfl,h2,g2⟩:=g1.uncons;obtain⟨a3,r,rfl,h3,g3⟩:=g2.uncons;obtain⟨a4,r,rfl,h4,g4⟩:=g3.uncons;obtain⟨a5,r,rfl,h5,g5⟩:=g4.uncons;obtain⟨a6,r,rfl,h6,g6⟩:=g5.uncons;obtain⟨a7,r,rfl,h7,g7⟩:=g6.uncons;obtain rfl:=g7.unnil;obtain⟨n0,rfl,w0⟩:=h0.unint;obtain⟨n1,rfl,w1⟩:=h1.unint;obtain⟨n2,rfl,w2⟩:=h2.unint;obtain⟨n3,rfl,w3⟩:=h3.unint
 obtain⟨n4,rfl,w4⟩:=h4.unint;obtain⟨n5,rfl,w5⟩:=h5.unint;obtain⟨n6,rfl,w6⟩:=h6.unint;obtain⟨n7,rfl,w7⟩:=h7.unint;refine⟨((n0,n1,n2,n3),(n4,n5,n6,n7)),fun x hx=> ?_,rfl⟩
 simp only[secB,List.mem_cons,List.not_mem_nil,or_false]at hx;rcases hx with rfl|rfl|rfl|rfl|rfl|rfl|rfl|rfl
 ·exact u8_of w0
 ·exact u8_of w1
 ·exact u8_of w2
 ·exact u8_of w3
 ·exact u8_of w4
 ·exact u8_of w5
 ·exact u8_of w6
 ·exact u8_of w7
theorem open_secs{a:AV}(h:CfS (.sl shSec) a):∃l:List Sec,(∀s∈l,(∀y∈secB s,ByteOK y))∧l.length≤maxLen∧a= .snap (encL encSec l):=sl_enc open_sec h
theorem open_opr(r:List AV)(h:CfR shOp r):∃o:Wrt,((∀s∈o.2.2,(∀y∈secB s,ByteOK y))∧o.2.2.length≤maxLen)∧r=opRow o:=by
 obtain⟨a0,r,rfl,h0,g0⟩:=h.uncons;obtain⟨a1,r,rfl,h1,g1⟩:=g0.uncons;obtain⟨a2,r,rfl,h2,g2⟩:=g1.uncons;obtain rfl:=g2.unnil;obtain⟨n0,rfl,w0⟩:=h0.unint;obtain⟨n1,rfl,w1⟩:=h1.unint;obtain⟨l,w2,w3,rfl⟩:=open_secs h2;exact⟨(n0,n1,l),⟨w2,w3⟩,rfl⟩
theorem open_ops{a:AV}(h:CfS (.sl shOp) a):∃l:List Wrt,(∀o∈l,(∀s∈o.2.2,(∀y∈secB s,ByteOK y))∧o.2.2.length≤maxLen)∧l.length≤maxLen∧a= .snap (encL opRow l):=sl_enc open_opr h
theorem open_cyc(r:List AV)(h:CfR shC r):∃c:Cyc,CyB c∧r=encC c:=by
 obtain⟨a0,r,rfl,h0,g0⟩:=h.uncons;obtain⟨a1,r,rfl,h1,g1⟩:=g0.uncons;obtain⟨a2,r,rfl,h2,g2⟩:=g1.uncons;obtain⟨a3,r,rfl,h3,g3⟩:=g2.uncons;obtain⟨a4,r,rfl,h4,g4⟩:=g3.uncons;obtain rfl:=g4.unnil;obtain⟨b,rfl⟩:=open_i64 h0;obtain⟨n,rfl⟩:=open_i64 h1;obtain⟨t,rfl⟩:=open_i64 h2;obtain⟨p,_,w0,rfl⟩:=open_ints h3;obtain⟨l,w1,w2,rfl⟩:=open_ops h4;exact⟨⟨b,n,t,p,l⟩,⟨w0,w2,fun w hw=>(w1 w hw).2,fun w hw=>(w1 w hw).1⟩,rfl⟩
theorem open_byte{a:AV}(h:CfS shU a):∃n:Int,ByteOK n∧a=uV n:=by
 obtain⟨n,rfl,hn⟩:=h.unint;exact⟨n,u8_of hn,rfl⟩
theorem shpC:shp Tryz.prog 10 34=some shC:=by kernel_rfl
theorem shpU:shp Tryz.prog 10 5=some [shU]:=by kernel_rfl
end Go.Proofs.YtpeldefimkdkdaaGreat
