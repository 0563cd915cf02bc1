/- Staging: contracts of its functions (Azb). No condition but those named. -/
import Derived.Test.YtioafciifiggaaaGreatDoorAza
import Derived.Test.YtioafciifiggaaaGreatDoorAw
import Derived.Test.YtioafciifiggaaaGreatDoorAy
set_option linter.unusedVariables false
set_option linter.unusedSimpArgs false
namespace Go.Proofs.YtioafciifiggaaaGreatDoor
open Go.Proofs Go.AL
set_option maxRecDepth 100000
set_option maxHeartbeats 8000000
attribute [local irreducible] endA AW aops thenA blockA hold
attribute [local irreducible] numG
structure AsmOK(a:Asm):Prop where
 have_:a.have_.length≤100000
 seen:a.seen.length≤100000
 one:∀x∈a.have_,x.length≤100000∧∀y∈x,ByteOK y
theorem AsmLen.ok{a:Asm}(h:AsmLen a):AsmOK a:=⟨h.have_,h.seen,h.one⟩
theorem addE_OK{a:Asm}{b:List Int}(h:AsmOK a)(hb:∀x∈b,ByteOK x):AsmOK (addE a b).1:=by
 have h0:AsmOK zAsm:=⟨by simp[zAsm],by simp[zAsm],fun x hx=>by simp[zAsm]at hx⟩
 have hok:=parE_ok hb;unfold addE;split
 ·split
  ·rename_i g
   obtain⟨-,-,-,-,-,-,-,-,h9,h10,-⟩:=hok g;split
   ·split
    ·split
     ·exact h0
     ·refine⟨by simp only[List.length_set];exact h.have_,by simp only[List.length_set];exact h.seen,fun x hx=> ?_⟩
      simp only[]at hx;rcases List.mem_or_eq_of_mem_set hx with h1|h1
      ·exact h.one x h1
      ·subst h1
       exact⟨by omega,h10⟩
    ·exact h0
   ·exact h0
  ·exact h0
 ·exact h0
theorem begE_OK{b:List Int}(hb:∀x∈b,ByteOK x):AsmOK (begE b).1:=by
 have h0:AsmOK zAsm:=⟨by simp[zAsm],by simp[zAsm],fun x hx=>by simp[zAsm]at hx⟩
 have hok:=parE_ok hb;unfold begE;split
 ·rename_i g
  obtain⟨-,-,-,-,h5,-,-,-,h9,h10,-⟩:=hok g;refine⟨by simp only[List.length_set,List.length_replicate];omega,by simp only[List.length_set,List.length_replicate];omega,fun x hx=> ?_⟩
  simp only[]at hx;rcases List.mem_or_eq_of_mem_set hx with h1|h1
  ·rw[(List.mem_replicate.1 h1).2]
   exact⟨by simp,fun y hy=>by simp at hy⟩
  ·subst h1
   exact⟨by omega,h10⟩
 ·exact h0
theorem begE_e(b:List Int):(begE b).2=(parE b).2:=by
 unfold begE;split
 ·rename_i h;exact h.symm
 ·rfl
theorem corS_ne{j:Jr}{x:Stg}(h:corS j x=true):x.records≠[]:=fun he=>by
 unfold corS at h;split at h
 ·split at h
  ·exact absurd h (by decide)
  ·rename_i g
   split at h
   ·exact absurd h (by decide)
   ·split at h
    ·rw[he]at h
     have:0=needN x:=by simpa using h
     unfold needN at this;split at this<;>omega
    ·exact absurd h (by decide)
 ·exact absurd h (by decide)
theorem stadd_p(s:Stag)(p:List Int)(hs:StagLen s)(hp:∀x∈p,ByteOK x)(hpl:p.length≤100000):PC 29 [.agg (encSt s),.snap (encL byteRow p)] (.tup [.agg (encSt (addS s p).1),.snap (encL opRow (addS s p).2.1),zV (addS s p).2.2]):=by
 refine pstart Tryz.func29 Tryz.ntmps29 (by simp only[go_sem,encSt]) ?_
 have c1:=stchk_p s hs;have c2:=bheader_p p hp hpl;have c5:=bbeg_p p hp hpl;have c6:=unch_p s hs;have hbo:=begE_OK hp;have hbe:=begE_e p;have hJ:=jnext_p s.j hs.sizes;have hag:∀(x:Stg),StgLen x→AsmOK (addE (asm x) p).1:=fun x hx=>addE_OK hx.asm.ok hp
 have hadd:=fun(x:Stg) (hx:StgLen x)=>badd_p (asm x) p hx.asm hp hpl
 have had2:=fun k x hso=>added_p s k p x hs hso hp hpl
 have hG:= @stgE_G s;have hone:=hs.one;have hl:=hs.cycles;have hzs:encSt zStag=[zV 0,zV 0,zV 0,zV 0,zV 0,.snap (encL intRow []),.snap (encL stgRow [])]:=rfl;obtain⟨M,hM⟩:∃M,addS s p=M:=⟨_,rfl⟩;rw[hM];unfold addS at hM;clear hs;by_cases g1:stgE s=0
 case neg=>
  rw[if_neg g1]at hM;subst hM;obtain⟨⟨js,jc,jh,jt,jf,jz⟩,l⟩:=s;unfold encSt at*;simp only[]at*;generalize stgE ⟨⟨js,jc,jh,jt,jf,jz⟩,l⟩=e at*;clear hG hone hag hadd had2 c2 c5 c6 hJ hbo hbe;refine zgo2 ?_;exact zfin
 rw[if_pos g1]at hM;rw[g1]at c1;obtain⟨hj,-,h3⟩:=hG g1;have hso:=stG_sort h3;have hcor:=stG_cor s.j _ _ _ h3;rw[if_pos hj]at hJ;have hN:jN s.j=s.j.first+s.j.sizes.length:=by unfold jN;rw[if_pos hj]
 rw[hN]at hM;clear hN hG g1 h3 hj
 replace had2:=fun k x=>had2 k x hso
 generalize begE p=B at*;obtain⟨ba,be⟩:=B;simp only[]at hbo hbe c5;subst hbe;by_cases g2:(parE p).2=0
 case neg=>
  rw[if_neg g2]at hM;subst hM;obtain⟨⟨js,jc,jh,jt,jf,jz⟩,l⟩:=s;unfold encSt at*;simp only[]at*;generalize parE p=R at*;obtain⟨⟨n,i,pp,ps,pl⟩,e⟩:=R;clear hone hag hadd had2 c5 c6 hJ hbo;refine zgo2 ?_;exact zfin
 rw[if_pos g2]at hM;rw[g2]at c2 c5;have c4:=sfind_p s.cycles (parE p).1.number hso hl;generalize parE p=R at*;obtain⟨⟨n,pi,pp,ps,pl⟩,e⟩:=R;simp only[]at*;subst g2;by_cases g3:fndB s.cycles n=true
 case neg=>
  rw[if_neg g3]at hM;have g3':fndB s.cycles n=false:=by simpa using g3
  rw[g3']at c4;clear g3 g3' hadd hag hone hcor c6;generalize fndI s.cycles n=i at*;by_cases g4:1024≤s.cycles.length
  ·rw[if_pos g4]at hM
   subst hM;have g4':(1024:Int)≤s.cycles.length:=by omega
   obtain⟨⟨js,jc,jh,jt,jf,jz⟩,l⟩:=s;unfold encSt encJ at*;simp only[]at*;clear had2 hbo c5;refine zgo2 ?_;exact zfin
  ·rw[if_neg g4]at hM
   have g4':¬(1024:Int)≤s.cycles.length:=by omega
   have c7:=staged_p ba [s.j.first+s.j.sizes.length] false hbo.have_ hbo.seen (fun x hx=>(hbo.one x hx).1) (by simp)
   have c8:=had2 1 (stgOf ba [s.j.first+s.j.sizes.length] false)
   have hr1:encL intRow [s.j.first+(s.j.sizes.length:Int)]=[[zV (s.j.first+(s.j.sizes.length:Int))]]:=rfl
   rw[hr1]at c7;rw[hM]at c8;clear had2 hbo hM hr1;obtain⟨⟨⟨ks,kc,kh,kt,kf,kz⟩,kl⟩,ko,ke⟩:=M;rw[stgRow_eq]at c7 c8;unfold stgOf at c7 c8;obtain⟨⟨js,jc,jh,jt,jf,jz⟩,l⟩:=s;obtain⟨bn,bp,bs,bh,bz⟩:=ba;unfold encSt encJ encA at*;simp only[]at*;generalize jf+(jz.length:Int)=N at*;clear g4;refine zgo2 ?_;refine zdrawX ?_;refine zgo2 ?_;exact zfin
 ·rw[if_pos g3]at hM
  obtain⟨hi,-⟩:=fndB_lt g3;rw[g3]at c4;clear g3 c5 hbo;generalize fndI s.cycles n=i at*;have hgi:=gSt s.cycles i hi;have hx:=hone _ (getD_mem' zStg hi);have hxne:=corS_ne (hcor _ (getD_mem' zStg hi));generalize s.cycles.getD i zStg=x at*;have c7:=asm_p x;have c8:=hadd x hx;have hao:=hag x hx;have c9:=same_p (addE (asm x) p).1 (asm x) hao.have_ hx.asm.have_ hao.seen hx.asm.seen (fun y hy=>(hao.one y hy).2) (fun y hy=>(hx.asm.one y hy).2)
  have c10:=cloneI_o x.records hxne (by have:=hx.records;omega)
  have c11:=fun hr=>staged_p (addE (asm x) p).1 (x.records++[s.j.first+s.j.sizes.length]) x.closed hao.have_ hao.seen (fun x hx=>(hao.one x hx).1) hr
  have c12:=had2 1 (stgOf (addE (asm x) p).1 (x.records++[s.j.first+s.j.sizes.length]) x.closed)
  have hrl:=hx.records
  replace c11:=c11 (by rw[List.length_append];simp only[List.length_cons,List.length_nil];have:=hx.records;omega)
  clear hadd hag had2 hone hcor hx hao hxne;generalize addE (asm x) p=A at*;obtain⟨aa,ae⟩:=A;simp only[]at*;by_cases g5:ae=0
  case neg=>
   rw[if_neg g5]at hM;subst hM;obtain⟨⟨js,jc,jh,jt,jf,jz⟩,l⟩:=s;obtain⟨xn,xp,xs,xh,xe,xr,xc⟩:=x;obtain⟨bn,bp,bs,bh,bz⟩:=aa;rw[stgRow_eq]at*;unfold encSt encJ encA asm at*;simp only[]at*;clear c6 c9 c10 c11 c12;refine zgo2 ?_;exact zfin
  rw[if_pos g5]at hM;subst g5;by_cases g6:aa=asm x
  ·rw[if_pos g6]at hM
   subst hM;rw[decide_eq_true g6]at c9;subst g6;obtain⟨⟨js,jc,jh,jt,jf,jz⟩,l⟩:=s;obtain⟨xn,xp,xs,xh,xe,xr,xc⟩:=x;rw[stgRow_eq]at*;unfold encSt encJ encA asm at*;simp only[]at*;clear c10 c11 c12;refine zgo2 ?_;exact zfin
  ·rw[if_neg g6]at hM
   rw[decide_eq_false g6]at c9;rw[hM]at c12;clear g6 hM;obtain⟨⟨⟨ks,kc,kh,kt,kf,kz⟩,kl⟩,ko,ke⟩:=M;rw[stgRow_eq]at c11 c12;unfold stgOf at c11 c12;obtain⟨⟨js,jc,jh,jt,jf,jz⟩,l⟩:=s;obtain⟨xn,xp,xs,xh,xe,xr,xc⟩:=x;obtain⟨bn,bp,bs,bh,bz⟩:=aa;rw[stgRow_eq]at c7 hgi;unfold encSt encJ encA asm at*;simp only[]at*;generalize jf+(jz.length:Int)=N at*;have htk:(xr++[N]).take (xr.length+1)=xr++[N]:=List.take_of_length_le (by simp)
   clear c6;refine zgo2 ?_;refine zdrawX ?_;refine zgo2 ?_;exact zfin
end Go.Proofs.YtioafciifiggaaaGreatDoor
namespace Go.Proofs.YtioafciifiggaaaGreatDoor
open Go.Proofs Go.AL
set_option maxRecDepth 100000
set_option maxHeartbeats 8000000
attribute [local irreducible] endA AW aops thenA blockA hold
attribute [local irreducible] numG
theorem vint_ok(n:Int):∀x∈vint n,ByteOK x:=by unfold vint;exact vg_ok _
theorem stseal_p(s:Stag)(n:Int)(hs:StagLen s):PC 30 [.agg (encSt s),zV n] (.tup [.agg (encSt (sealS s n).1),.snap (encL opRow (sealS s n).2.1),zV (sealS s n).2.2]):=by
 refine pstart Tryz.func30 Tryz.ntmps30 (by simp only[go_sem,encSt]) ?_
 have c1:=stchk_p s hs;have c6:=unch_p s hs;have hJ:=jnext_p s.j hs.sizes;have hvl:(vint n).length≤100000:=by have:=vint_len n;omega
 have had2:=fun x hso=>added_p s 2 (vint n) x hs hso (vint_ok n) hvl
 have hG:= @stgE_G s;have hone:=hs.one;have hl:=hs.cycles;have c3:=putInt_e n;rw[List.nil_append]at c3;obtain⟨M,hM⟩:∃M,sealS s n=M:=⟨_,rfl⟩;rw[hM];unfold sealS at hM;clear hs;by_cases g1:stgE s=0
 case neg=>
  rw[if_neg g1]at hM;subst hM;obtain⟨⟨js,jc,jh,jt,jf,jz⟩,l⟩:=s;unfold encSt at*;simp only[]at*;generalize stgE ⟨⟨js,jc,jh,jt,jf,jz⟩,l⟩=e at*;clear hG hone had2 c3 c6 hJ;refine zgo2 ?_;exact zfin
 rw[if_pos g1]at hM;rw[g1]at c1;obtain⟨hj,-,h3⟩:=hG g1;have hso:=stG_sort h3;have hcor:=stG_cor s.j _ _ _ h3;rw[if_pos hj]at hJ;have hN:jN s.j=s.j.first+s.j.sizes.length:=by unfold jN;rw[if_pos hj]
 rw[hN]at hM;clear hN hG g1 h3 hj
 replace had2:=fun x=>had2 x hso
 have c4:=sfind_p s.cycles n hso hl;by_cases g3:fndB s.cycles n=true
 case neg=>
  rw[if_neg g3]at hM;have g3':fndB s.cycles n=false:=by simpa using g3
  rw[g3']at c4;subst hM;clear g3 g3' hone hcor c3 c6 had2;generalize fndI s.cycles n=i at*;obtain⟨⟨js,jc,jh,jt,jf,jz⟩,l⟩:=s;unfold encSt encJ at*;simp only[]at*;refine zgo2 ?_;exact zfin
 rw[if_pos g3]at hM;obtain⟨hi,-⟩:=fndB_lt g3;rw[g3]at c4;clear g3;generalize fndI s.cycles n=i at*;have hgi:=gSt s.cycles i hi;have hx:=hone _ (getD_mem' zStg hi);have hxne:=corS_ne (hcor _ (getD_mem' zStg hi));generalize s.cycles.getD i zStg=x at*;by_cases g4:x.closed=true
 ·rw[if_pos g4]at hM
  subst hM;obtain⟨⟨js,jc,jh,jt,jf,jz⟩,l⟩:=s;obtain⟨xn,xp,xs,xh,xe,xr,xc⟩:=x;rw[stgRow_eq]at*;unfold encSt encJ at*;simp only[]at*;subst g4;clear had2 hone hcor c3;refine zgo2 ?_;exact zfin
 rw[if_neg g4]at hM;have g4':x.closed=false:=by simpa using g4
 have c7:=asm_p x;have c8:=bcyc_p (asm x) hx.asm;have c10:=cloneI_o x.records hxne (by have:=hx.records;omega)
 have c11:=staged_p (asm x) (x.records++[s.j.first+s.j.sizes.length]) true hx.asm.have_ hx.asm.seen (fun y hy=>(hx.asm.one y hy).1) (by rw[List.length_append];simp only[List.length_cons,List.length_nil];have:=hx.records;omega)
 have c12:=had2 (stgOf (asm x) (x.records++[s.j.first+s.j.sizes.length]) true)
 have hrl:=hx.records;clear had2 hone hcor hx hxne c6 g4;generalize acyE (asm x)=cy at*;obtain⟨⟨cb,cn,ct,cp,cw⟩,ce⟩:=cy;unfold encC at c8;simp only[]at*;by_cases g5:ce=0
 case neg=>
  rw[if_neg g5]at hM;subst hM;obtain⟨⟨js,jc,jh,jt,jf,jz⟩,l⟩:=s;obtain⟨xn,xp,xs,xh,xe,xr,xc⟩:=x;rw[stgRow_eq]at hgi c7;unfold encSt encJ encA asm at*;simp only[]at*;subst g4';clear c3 c10 c11 c12;refine zgo2 ?_;exact zfin
 rw[if_pos g5]at hM;subst g5;rw[hM]at c12;clear hM;obtain⟨⟨⟨ks,kc,kh,kt,kf,kz⟩,kl⟩,ko,ke⟩:=M;rw[stgRow_eq]at c11 c12;unfold stgOf at c11 c12;obtain⟨⟨js,jc,jh,jt,jf,jz⟩,l⟩:=s;obtain⟨xn,xp,xs,xh,xe,xr,xc⟩:=x;rw[stgRow_eq]at c7 hgi;unfold encSt encJ encA asm at*;simp only[]at*;subst g4';generalize jf+(jz.length:Int)=N at*;have htk:(xr++[N]).take (xr.length+1)=xr++[N]:=List.take_of_length_le (by simp)
 have htv:(vint n).take (vint n).length=vint n:=List.take_length;generalize vint n=V at*;refine zgo2 ?_;refine zdrawX ?_;refine zgo2 ?_;exact zfin
end Go.Proofs.YtioafciifiggaaaGreatDoor
namespace Go.Proofs.YtioafciifiggaaaGreatDoor
open Go.Proofs Go.AL
set_option maxRecDepth 100000
set_option maxHeartbeats 8000000
attribute [local irreducible] endA AW aops thenA blockA hold
attribute [local irreducible] numG mixR
def cpT(h:List (List Int)):Nat→Nat→List (Nat×Option Blk)
 |0,_=> [(2,some (.cells 74 1 (mixR h 0) true true))]
 |j+1,dd=> [(2,some (.cells 74 1 ((mixR h j).set j [.own dd 0 (h.getD j []).length]) true true)),(dd,some (.cells 5 1 (encL byteRow (h.getD j [])) true true))]
theorem cpT_s(h:List (List Int))(j dd:Nat):cpT h (j+1) dd=[(2,some (.cells 74 1 ((mixR h j).set j [.own dd 0 (h.getD j []).length]) true true)),(dd,some (.cells 5 1 (encL byteRow (h.getD j [])) true true))]:=rfl
theorem cp_fz{h:List (List Int)}{j dd:Nat}(hj:j<h.length):FzRows dd (encL byteRow (h.getD j [])) ((mixR h j).set j [.own dd 0 (h.getD j []).length]) (mixR h (j+1)):=by
 have hl:=mixR_len (h:=h) (k:=j) (by omega)
 have:=fzset (dd:=dd) (n:=(h.getD j []).length) (j:=j) (A:=(mixR h j).set j [.own dd 0 (h.getD j []).length]) (rows:=encL byteRow (h.getD j [])) (List.getElem?_set_self (by omega)) (by rw[encL_len])
 rw[List.set_set,mixR_set hj]at this;exact this
theorem qcopyA_p(a:Asm)(hA:AsmOK a):PC 94 [.agg (encA a)] (.agg (encA a)):=by
 refine pstartD Tryz.func94 Tryz.ntmps94 (by simp only[go_sem,encA]) ?_
 have hal:=hA.have_;have hsl:=hA.seen;have hol:∀k,k<a.have_.length→(a.have_.getD k []).length≤100000:=fun k hk=>(hA.one _ (getD_mem' [] hk)).1
 clear hA;obtain⟨n,p,s,h,e⟩:=a;unfold encA;simp only[]at*;have hg:=gHb h;have m0:=mixR_0 h
 replace hol:=Lat.mk hol
 refine zgo2 ?_;refine zfor (α:=Nat×List (Nat×Option Blk)) h.length (fun k x=> [(4,true,zV k),(3,true,.own 2 0 h.length),(2,true,.ptr 1 0 0),(1,true,.ptr 0 0 0)]) (fun k x=>(0,some (.cells 161 5 [[zV n,zV p,zV s,.snap (encL byteL h),.snap (encL boolRow e)]] true false))::(1,some (.cells 161 5 [[zV 0,zV 0,zV 0,.c (.slice none 0 0),.c (.slice none 0 0)]] true false))::x.2) (fun k m x=>3≤m∧x.2=cpT h k x.1∧(0<k→3≤x.1∧x.1<m)) ⟨100,(0,cpT h 0 0),⟨by omega,rfl,fun h=>absurd h (by omega)⟩,zholds⟩ (fun k m x hk hR=> ?_) (fun m x hR=> ?_)
 ·obtain⟨dd,TT⟩:=x
  obtain⟨hm,hTT,hid⟩:=hR;simp only[]at hid hTT⊢;subst hTT;cases k with
  |zero=>
   rw[show cpT h 0 dd=[(2,some (.cells 74 1 (mixR h 0) true true))]from rfl]
   have hgk:=hg 0 hk;have hpl:=hol.out 0 hk;have m1:=mixR_get hk;have m3:=mixR_len (h:=h) (k:=0) (by omega)
   have hS:=cpT_s h 0
   replace hS:=Lat.mk hS
   clear hol hg m0;generalize h.getD 0 []=pc at*;generalize mixR h 0=RR at*;refine zgo2 ?_;exact⟨m+100,(m+1,[(2,some (.cells 74 1 (RR.set 0 [.own (m+1) 0 pc.length]) true true)),(m+1,some (.cells 5 1 (encL byteRow pc) true true))]),⟨by omega,(hS.out (m+1)).symm,fun _=>(by omega:3≤m+1∧m+1<m+100)⟩,zholds⟩
  |succ j=>
   obtain⟨i1,i2⟩:=hid (by omega)
   have hfz:=cp_fz (h:=h) (j:=j) (dd:=dd) (by omega)
   rw[cpT_s h j dd];refine aw_fz dd 2 (mixR h (j+1)) zeq zeq (by omega) hfz ?_
   refine aw_less (env:=[(4,true,zV (j+1:Nat)),(3,true,.own 2 0 h.length),(2,true,.ptr 1 0 0),(1,true,.ptr 0 0 0)]) (H:=⟨m,tabG [(0,some (.cells 161 5 [[zV n,zV p,zV s,.snap (encL byteL h),.snap (encL boolRow e)]] true false)),(1,some (.cells 161 5 [[zV 0,zV 0,zV 0,.c (.slice none 0 0),.c (.slice none 0 0)]] true false)),(2,some (.cells 74 1 (mixR h (j+1)) true true))]⟩) zholds ?_;clear hfz hid i1 i2
   have hgk:=hg (j+1) hk;have hpl:=hol.out (j+1) hk;have m1:=mixR_get hk;have m3:=mixR_len (h:=h) (k:=(j+1)) (by omega)
   have hS:=cpT_s h (j+1)
   replace hS:=Lat.mk hS
   clear hol hg m0;generalize h.getD (j+1) []=pc at*;generalize mixR h (j+1)=RR at*;refine zgo2 ?_;exact⟨m+100,(m+1,[(2,some (.cells 74 1 (RR.set (j+1) [.own (m+1) 0 pc.length]) true true)),(m+1,some (.cells 5 1 (encL byteRow pc) true true))]),⟨by omega,(hS.out (m+1)).symm,fun _=>(by omega:3≤m+1∧m+1<m+100)⟩,zholds⟩
 ·obtain⟨dd,TT⟩:=x
  obtain⟨hm,hTT,hid⟩:=hR;simp only[]at hid hTT⊢;subst hTT;rcases Nat.eq_zero_or_pos h.length with h0|h0
  ·have hh0:h=[]:=List.eq_nil_of_length_eq_zero h0
   subst hh0;rw[show cpT [] ([]:List (List Int)).length dd=[(2,some (.cells 74 1 (encL byteL []) true true))]from by rw[←mixR_all []];rfl]
   clear hid h0 hg hol m0;generalize hH:([]:List (List Int))=h at*;clear hH;have n1:(∀row,row∈encL byteL h→∀x,x∈row→NoId x)=True:=eq_true (encL_ids _);have n2:(∀row,row∈encL boolRow e→∀x,x∈row→NoId x)=True:=eq_true (encL_ids _);have x1:=fun G k=>byteLs_expo G k h
   have x2:=fun G k=>boolRows_expo G k e
   have l1:(encL byteL h).length=h.length:=encL_len h;have l2:(encL boolRow e).length=e.length:=encL_len e;have t1:h.take h.length=h:=List.take_length;have t2:e.take e.length=e:=List.take_length;refine zgo2 ?_;exact zfin2
  ·obtain⟨j,hj⟩:∃j,h.length=j+1:=⟨h.length-1,by omega⟩
   obtain⟨i1,i2⟩:=hid h0;have hfz:=cp_fz (h:=h) (j:=j) (dd:=dd) (by omega)
   have hcp:cpT h h.length dd=cpT h (j+1) dd:=by rw[hj]
   rw[hcp,cpT_s h j dd];rw[←hj,mixR_all]at hfz;refine aw_fz dd 2 (encL byteL h) zeq zeq (by omega) hfz ?_
   refine aw_less (env:=[(4,true,zV h.length),(3,true,.own 2 0 h.length),(2,true,.ptr 1 0 0),(1,true,.ptr 0 0 0)]) (H:=⟨m,tabG [(0,some (.cells 161 5 [[zV n,zV p,zV s,.snap (encL byteL h),.snap (encL boolRow e)]] true false)),(1,some (.cells 161 5 [[zV 0,zV 0,zV 0,.c (.slice none 0 0),.c (.slice none 0 0)]] true false)),(2,some (.cells 74 1 (encL byteL h) true true))]⟩) zholds ?_;clear hfz hid i1 i2 hg hol m0 hj hcp
   have n1:(∀row,row∈encL byteL h→∀x,x∈row→NoId x)=True:=eq_true (encL_ids _);have n2:(∀row,row∈encL boolRow e→∀x,x∈row→NoId x)=True:=eq_true (encL_ids _);have x1:=fun G k=>byteLs_expo G k h
   have x2:=fun G k=>boolRows_expo G k e
   have l1:(encL byteL h).length=h.length:=encL_len h;have l2:(encL boolRow e).length=e.length:=encL_len e;have t1:h.take h.length=h:=List.take_length;have t2:e.take e.length=e:=List.take_length;refine zgo2 ?_;exact zfin2
end Go.Proofs.YtioafciifiggaaaGreatDoor
namespace Go.Proofs.YtioafciifiggaaaGreatDoor
open Go.Proofs Go.AL
set_option maxRecDepth 100000
set_option maxHeartbeats 8000000
attribute [local irreducible] endA AW aops thenA blockA hold
attribute [local irreducible] numG
structure StgL2(x:Stg):Prop where
 asm:AsmOK (asm x)
 records:x.records.length≤100000
theorem StgLen.l2{x:Stg}(h:StgLen x):StgL2 x:=⟨h.asm.ok,h.records⟩
theorem qcopyS_p(x:Stg)(hx:StgL2 x):PC 41 [.agg (stgRow x)] (.agg (stgRow x)):=by
 refine pstart Tryz.func41 Tryz.ntmps41 (by rw[stgRow_eq];simp only[go_sem]) ?_
 have c1:=qasm_p x;have c2:=qcopyA_p (asm x) hx.asm;have c3:=with0_p x.records hx.records;have c4:PC 93 [.agg (encA (asm x)),.snap (encL intRow x.records),bV x.closed] (.agg (stgRow x)):=qstaged_p (asm x) x.records x.closed;clear hx;obtain⟨n,p,s,h,e,r,c⟩:=x;rw[stgRow_eq]at*;unfold asm encA at*;simp only[]at*;refine zgo2 ?_;exact zfin
end Go.Proofs.YtioafciifiggaaaGreatDoor
