/- Staging: contracts of its functions (Azc). No condition but those named. -/
import Derived.Test.YtpeldefimkdkdaaGreatAzb
import Derived.Test.YtpeldefimkdkdaaGreatAy
import Derived.Test.YtpeldefimkdkdaaGreatAza
set_option linter.unusedVariables false
set_option linter.unusedSimpArgs false
namespace Go.Proofs.YtpeldefimkdkdaaGreat
open Go.Proofs Go.AL
set_option maxRecDepth 100000
set_option maxHeartbeats 8000000
attribute [local irreducible] endA AW aops thenA blockA hold
attribute [local irreducible] numG
theorem vint_ok(n:Int):∀x∈vint n,ByteOK x:=by unfold vint;exact vg_ok _
theorem stseal_p(s:Stag)(n:Int)(hs:StagLen s):PC 19 [.agg (encSt s),zV n] (.tup [.agg (encSt (sealS s n).1),.snap (encL opRow (sealS s n).2.1),zV (sealS s n).2.2]):=by
 refine pstart Tryz.func19 Tryz.ntmps19 (by simp only[go_sem,encSt]) ?_
 have c1:=stchk_p s hs;have c6:=unch_p s hs;have hJ:=jnext_p s.j hs.sizes;have hvl:(vint n).length≤100000:=by have:=vint_len n;omega
 have had2:=fun x hso=>added_p s 2 (vint n) x hs hso (vint_ok n) hvl
 have hG:= @stgE_G s;have hone:=hs.one;have hl:=hs.cycles;have c3:=putInt_e n;rw[List.nil_append]at c3;obtain⟨M,hM⟩:∃M,sealS s n=M:=⟨_,rfl⟩;rw[hM];unfold sealS at hM;clear hs;by_cases g1:stgE s=0
 case neg=>
  rw[if_neg g1]at hM;subst hM;obtain⟨⟨js,jc,jh,jt,jf,jz⟩,l⟩:=s;unfold encSt at*;simp only[]at*;generalize stgE ⟨⟨js,jc,jh,jt,jf,jz⟩,l⟩=e at*;clear hG hone had2 c3 c6 hJ;refine zgo2 ?_;exact zfin
 rw[if_pos g1]at hM;rw[g1]at c1;obtain⟨hj,-,h3⟩:=hG g1;have hso:=stG_sort h3;have hcor:=stG_cor s.j _ _ _ h3;rw[if_pos hj]at hJ;have hN:jN s.j=s.j.first+s.j.sizes.length:=by unfold jN;rw[if_pos hj]
 rw[hN]at hM;clear hN hG g1 h3 hj
 replace had2:=fun x=>had2 x hso
 have c4:=sfind_p s.cycles n hso hl;by_cases g3:fndB s.cycles n=true
 case neg=>
  rw[if_neg g3]at hM;have g3':fndB s.cycles n=false:=by simpa using g3
  rw[g3']at c4;subst hM;clear g3 g3' hone hcor c3 c6 had2;generalize fndI s.cycles n=i at*;obtain⟨⟨js,jc,jh,jt,jf,jz⟩,l⟩:=s;unfold encSt encJ at*;simp only[]at*;refine zgo2 ?_;exact zfin
 rw[if_pos g3]at hM;obtain⟨hi,-⟩:=fndB_lt g3;rw[g3]at c4;clear g3;generalize fndI s.cycles n=i at*;have hgi:=gSt s.cycles i hi;have hx:=hone _ (getD_mem' zStg hi);have hxne:=corS_ne (hcor _ (getD_mem' zStg hi));generalize s.cycles.getD i zStg=x at*;by_cases g4:x.closed=true
 ·rw[if_pos g4]at hM
  subst hM;obtain⟨⟨js,jc,jh,jt,jf,jz⟩,l⟩:=s;obtain⟨xn,xp,xs,xh,xe,xr,xc⟩:=x;rw[stgRow_eq]at*;unfold encSt encJ at*;simp only[]at*;subst g4;clear had2 hone hcor c3;refine zgo2 ?_;exact zfin
 rw[if_neg g4]at hM;have g4':x.closed=false:=by simpa using g4
 have c7:=asm_p x;have c8:=bcyc_p (asm x) hx.asm;have c10:=cloneI_o x.records hxne (by have:=hx.records;omega)
 have c11:=staged_p (asm x) (x.records++[s.j.first+s.j.sizes.length]) true hx.asm.have_ hx.asm.seen (fun y hy=>(hx.asm.one y hy).1) (by rw[List.length_append];simp only[List.length_cons,List.length_nil];have:=hx.records;omega)
 have c12:=had2 (stgOf (asm x) (x.records++[s.j.first+s.j.sizes.length]) true)
 have hrl:=hx.records;clear had2 hone hcor hx hxne c6 g4;generalize acyE (asm x)=cy at*;obtain⟨⟨cb,cn,ct,cp,cw⟩,ce⟩:=cy;unfold encC at c8;simp only[]at*;by_cases g5:ce=0
 case neg=>
  rw[if_neg g5]at hM;subst hM;obtain⟨⟨js,jc,jh,jt,jf,jz⟩,l⟩:=s;obtain⟨xn,xp,xs,xh,xe,xr,xc⟩:=x;rw[stgRow_eq]at hgi c7;unfold encSt encJ encA asm at*;simp only[]at*;subst g4';clear c3 c10 c11 c12;refine zgo2 ?_;exact zfin
 rw[if_pos g5]at hM;subst g5;rw[hM]at c12;clear hM;obtain⟨⟨⟨ks,kc,kh,kt,kf,kz⟩,kl⟩,ko,ke⟩:=M;rw[stgRow_eq]at c11 c12;unfold stgOf at c11 c12;obtain⟨⟨js,jc,jh,jt,jf,jz⟩,l⟩:=s;obtain⟨xn,xp,xs,xh,xe,xr,xc⟩:=x;rw[stgRow_eq]at c7 hgi;unfold encSt encJ encA asm at*;simp only[]at*;subst g4';generalize jf+(jz.length:Int)=N at*;have htk:(xr++[N]).take (xr.length+1)=xr++[N]:=List.take_of_length_le (by simp)
 have htv:(vint n).take (vint n).length=vint n:=List.take_length;generalize vint n=V at*;refine zgo2 ?_;refine zdrawX ?_;refine zgo2 ?_;exact zfin
end Go.Proofs.YtpeldefimkdkdaaGreat
namespace Go.Proofs.YtpeldefimkdkdaaGreat
open Go.Proofs Go.AL
set_option maxRecDepth 100000
set_option maxHeartbeats 8000000
attribute [local irreducible] endA AW aops thenA blockA hold
attribute [local irreducible] numG mixR
def cpT(h:List (List Int)):Nat→Nat→List (Nat×Option Blk)
 |0,_=> [(2,some (.cells 46 1 (mixR h 0) true true))]
 |j+1,dd=> [(2,some (.cells 46 1 ((mixR h j).set j [.own dd 0 (h.getD j []).length]) true true)),(dd,some (.cells 5 1 (encL byteRow (h.getD j [])) true true))]
theorem cpT_s(h:List (List Int))(j dd:Nat):cpT h (j+1) dd=[(2,some (.cells 46 1 ((mixR h j).set j [.own dd 0 (h.getD j []).length]) true true)),(dd,some (.cells 5 1 (encL byteRow (h.getD j [])) true true))]:=rfl
theorem cp_fz{h:List (List Int)}{j dd:Nat}(hj:j<h.length):FzRows dd (encL byteRow (h.getD j [])) ((mixR h j).set j [.own dd 0 (h.getD j []).length]) (mixR h (j+1)):=by
 have hl:=mixR_len (h:=h) (k:=j) (by omega)
 have:=fzset (dd:=dd) (n:=(h.getD j []).length) (j:=j) (A:=(mixR h j).set j [.own dd 0 (h.getD j []).length]) (rows:=encL byteRow (h.getD j [])) (List.getElem?_set_self (by omega)) (by rw[encL_len])
 rw[List.set_set,mixR_set hj]at this;exact this
theorem qcopyA_p(a:Asm)(hA:AsmOK a):PC 99 [.agg (encA a)] (.agg (encA a)):=by
 refine pstartD Tryz.func99 Tryz.ntmps99 (by simp only[go_sem,encA]) ?_
 have hal:=hA.have_;have hsl:=hA.seen;have hol:∀k,k<a.have_.length→(a.have_.getD k []).length≤100000:=fun k hk=>(hA.one _ (getD_mem' [] hk)).1
 clear hA;obtain⟨n,p,s,h,e⟩:=a;unfold encA;simp only[]at*;have hg:=gHb h;have m0:=mixR_0 h
 replace hol:=Lat.mk hol
 refine zgo2 ?_;refine zfor (α:=Nat×List (Nat×Option Blk)) h.length (fun k x=> [(4,true,zV k),(3,true,.own 2 0 h.length),(2,true,.ptr 1 0 0),(1,true,.ptr 0 0 0)]) (fun k x=>(0,some (.cells 79 5 [[zV n,zV p,zV s,.snap (encL byteL h),.snap (encL boolRow e)]] true false))::(1,some (.cells 79 5 [[zV 0,zV 0,zV 0,.c (.slice none 0 0),.c (.slice none 0 0)]] true false))::x.2) (fun k m x=>3≤m∧x.2=cpT h k x.1∧(0<k→3≤x.1∧x.1<m)) ⟨100,(0,cpT h 0 0),⟨by omega,rfl,fun h=>absurd h (by omega)⟩,zholds⟩ (fun k m x hk hR=> ?_) (fun m x hR=> ?_)
 ·obtain⟨dd,TT⟩:=x
  obtain⟨hm,hTT,hid⟩:=hR;simp only[]at hid hTT⊢;subst hTT;cases k with
  |zero=>
   rw[show cpT h 0 dd=[(2,some (.cells 46 1 (mixR h 0) true true))]from rfl]
   have hgk:=hg 0 hk;have hpl:=hol.out 0 hk;have m1:=mixR_get hk;have m3:=mixR_len (h:=h) (k:=0) (by omega)
   have hS:=cpT_s h 0
   replace hS:=Lat.mk hS
   clear hol hg m0;generalize h.getD 0 []=pc at*;generalize mixR h 0=RR at*;refine zgo2 ?_;exact⟨m+100,(m+1,[(2,some (.cells 46 1 (RR.set 0 [.own (m+1) 0 pc.length]) true true)),(m+1,some (.cells 5 1 (encL byteRow pc) true true))]),⟨by omega,(hS.out (m+1)).symm,fun _=>(by omega:3≤m+1∧m+1<m+100)⟩,zholds⟩
  |succ j=>
   obtain⟨i1,i2⟩:=hid (by omega)
   have hfz:=cp_fz (h:=h) (j:=j) (dd:=dd) (by omega)
   rw[cpT_s h j dd];refine aw_fz dd 2 (mixR h (j+1)) zeq zeq (by omega) hfz ?_
   refine aw_less (env:=[(4,true,zV (j+1:Nat)),(3,true,.own 2 0 h.length),(2,true,.ptr 1 0 0),(1,true,.ptr 0 0 0)]) (H:=⟨m,tabG [(0,some (.cells 79 5 [[zV n,zV p,zV s,.snap (encL byteL h),.snap (encL boolRow e)]] true false)),(1,some (.cells 79 5 [[zV 0,zV 0,zV 0,.c (.slice none 0 0),.c (.slice none 0 0)]] true false)),(2,some (.cells 46 1 (mixR h (j+1)) true true))]⟩) zholds ?_;clear hfz hid i1 i2
   have hgk:=hg (j+1) hk;have hpl:=hol.out (j+1) hk;have m1:=mixR_get hk;have m3:=mixR_len (h:=h) (k:=(j+1)) (by omega)
   have hS:=cpT_s h (j+1)
   replace hS:=Lat.mk hS
   clear hol hg m0;generalize h.getD (j+1) []=pc at*;generalize mixR h (j+1)=RR at*;refine zgo2 ?_;exact⟨m+100,(m+1,[(2,some (.cells 46 1 (RR.set (j+1) [.own (m+1) 0 pc.length]) true true)),(m+1,some (.cells 5 1 (encL byteRow pc) true true))]),⟨by omega,(hS.out (m+1)).symm,fun _=>(by omega:3≤m+1∧m+1<m+100)⟩,zholds⟩
 ·obtain⟨dd,TT⟩:=x
  obtain⟨hm,hTT,hid⟩:=hR;simp only[]at hid hTT⊢;subst hTT;rcases Nat.eq_zero_or_pos h.length with h0|h0
  ·have hh0:h=[]:=List.eq_nil_of_length_eq_zero h0
   subst hh0;rw[show cpT [] ([]:List (List Int)).length dd=[(2,some (.cells 46 1 (encL byteL []) true true))]from by rw[←mixR_all []];rfl]
   clear hid h0 hg hol m0;generalize hH:([]:List (List Int))=h at*;clear hH;have n1:(∀row,row∈encL byteL h→∀x,x∈row→NoId x)=True:=eq_true (encL_ids _);have n2:(∀row,row∈encL boolRow e→∀x,x∈row→NoId x)=True:=eq_true (encL_ids _);have x1:=fun G k=>byteLs_expo G k h
   have x2:=fun G k=>boolRows_expo G k e
   have l1:(encL byteL h).length=h.length:=encL_len h;have l2:(encL boolRow e).length=e.length:=encL_len e;have t1:h.take h.length=h:=List.take_length;have t2:e.take e.length=e:=List.take_length;refine zgo2 ?_;exact zfin2
  ·obtain⟨j,hj⟩:∃j,h.length=j+1:=⟨h.length-1,by omega⟩
   obtain⟨i1,i2⟩:=hid h0;have hfz:=cp_fz (h:=h) (j:=j) (dd:=dd) (by omega)
   have hcp:cpT h h.length dd=cpT h (j+1) dd:=by rw[hj]
   rw[hcp,cpT_s h j dd];rw[←hj,mixR_all]at hfz;refine aw_fz dd 2 (encL byteL h) zeq zeq (by omega) hfz ?_
   refine aw_less (env:=[(4,true,zV h.length),(3,true,.own 2 0 h.length),(2,true,.ptr 1 0 0),(1,true,.ptr 0 0 0)]) (H:=⟨m,tabG [(0,some (.cells 79 5 [[zV n,zV p,zV s,.snap (encL byteL h),.snap (encL boolRow e)]] true false)),(1,some (.cells 79 5 [[zV 0,zV 0,zV 0,.c (.slice none 0 0),.c (.slice none 0 0)]] true false)),(2,some (.cells 46 1 (encL byteL h) true true))]⟩) zholds ?_;clear hfz hid i1 i2 hg hol m0 hj hcp
   have n1:(∀row,row∈encL byteL h→∀x,x∈row→NoId x)=True:=eq_true (encL_ids _);have n2:(∀row,row∈encL boolRow e→∀x,x∈row→NoId x)=True:=eq_true (encL_ids _);have x1:=fun G k=>byteLs_expo G k h
   have x2:=fun G k=>boolRows_expo G k e
   have l1:(encL byteL h).length=h.length:=encL_len h;have l2:(encL boolRow e).length=e.length:=encL_len e;have t1:h.take h.length=h:=List.take_length;have t2:e.take e.length=e:=List.take_length;refine zgo2 ?_;exact zfin2
end Go.Proofs.YtpeldefimkdkdaaGreat
namespace Go.Proofs.YtpeldefimkdkdaaGreat
open Go.Proofs Go.AL
set_option maxRecDepth 100000
set_option maxHeartbeats 8000000
attribute [local irreducible] endA AW aops thenA blockA hold
attribute [local irreducible] numG mixR
def cpB(B:Nat)(h:List (List Int)):Nat→Nat→List (Nat×Option Blk)
 |0,_=> [(B,some (.cells 46 1 (mixR h 0) true true))]
 |j+1,dd=> [(B,some (.cells 46 1 ((mixR h j).set j [.own dd 0 (h.getD j []).length]) true true)),(dd,some (.cells 5 1 (encL byteRow (h.getD j [])) true true))]
theorem cpB_s(B:Nat)(h:List (List Int))(j dd:Nat):cpB B h (j+1) dd=[(B,some (.cells 46 1 ((mixR h j).set j [.own dd 0 (h.getD j []).length]) true true)),(dd,some (.cells 5 1 (encL byteRow (h.getD j [])) true true))]:=rfl
theorem qadd_p(a:Asm)(b:List Int)(hA:AsmLen a)(hb:∀x∈b,ByteOK x)(hl:b.length≤100000):PC 53 [.agg (encA a),.snap (encL byteRow b)] (.tup [.agg (encA (addE a b).1),zV (addE a b).2]):=by
 refine pstartD Tryz.func53 Tryz.ntmps53 (by simp only[go_sem,encA]) ?_
 have c1:=qchk_p a (by have:=hA.have_;omega) (by have:=hA.seen;omega) (fun y hy=>by have:=(hA.one y hy).1;omega)
 have c2:=qparse_p b hb hl;have hok:=parE_ok hb;have h3:=asmE_3 (a:=a);have h4:=asmE_ok (a:=a);obtain⟨M,hM⟩:∃M,addE a b=M:=⟨_,rfl⟩;rw[hM];unfold addE at hM;generalize asmE a=ae at*;generalize parE b=R at*;obtain⟨⟨n,i,p,s,l⟩,e⟩:=R;obtain⟨an,ap,az,ah,aes⟩:=a;have hone:=hA.one;have hsl:=hA.seen;have hal:=hA.have_;clear hA hb;unfold encA at*;simp only[]at*;by_cases g1:ae=0
 case neg=>
  rw[if_neg g1]at hM;subst hM;have h3:=h3 g1;subst h3;clear c2 hok h4 hone;unfold zAsm;refine zgo2 ?_;exact zfin
 rw[if_pos g1]at hM;obtain⟨-,-,p1,-,-,-,p2,p3,-⟩:=h4 g1;subst g1;clear h3 h4;by_cases g2:e=0
 case neg=>
  rw[if_neg g2]at hM;subst hM;clear hok hone;unfold zAsm;refine zgo2 ?_;exact zfin
 rw[if_pos g2]at hM;obtain⟨o1,o2,o3,o4,o5,o6,o7,o8,o9,o10,o11⟩:=hok g2;subst g2;clear hok;by_cases g3:n=an
 case neg=>
  rw[if_neg g3]at hM;subst hM;obtain⟨g,gx⟩:=dne g3;clear hone g3;unfold zAsm;refine zgo2 ?_;exact zfin
 rw[if_pos g3]at hM;by_cases g4:p=ap
 case neg=>
  rw[if_neg (fun h=>g4 h.1)]at hM
  subst hM g3;obtain⟨d1,d1x⟩:=dself n;obtain⟨g,gx⟩:=dne g4;clear hone g4;unfold zAsm;refine zgo2 ?_;exact zfin
 by_cases g5:s=az
 case neg=>
  rw[if_neg (fun h=>g5 h.2)]at hM
  subst hM g3 g4;obtain⟨d1,d1x⟩:=dself n;obtain⟨d2,d2x⟩:=dself p;obtain⟨g,gx⟩:=dne g5;clear hone g5;unfold zAsm;refine zgo2 ?_;exact zfin
 rw[if_pos ⟨g4,g5⟩]at hM;subst g3 g4 g5;obtain⟨d1,d1x⟩:=dself n;obtain⟨d2,d2x⟩:=dself p;obtain⟨d3,d3x⟩:=dself s;obtain⟨i,rfl⟩:=Int.eq_ofNat_of_zero_le o3;rw[Int.toNat_natCast]at hM;subst p2;have hih:i<ah.length:=by omega
 have his:i<aes.length:=by omega
 have he:=strB_eq (hone _ (getD_mem' [] hih)).2 o10;have hgh:=gHb ah;have hgi:=hgh i hih
 replace hgh:=Lat.mk hgh
 have hgs:(encL boolRow aes)[i]? =some [bV (aes.getD i false)]:=gBl aes i his;have hol:∀k,k<ah.length→(ah.getD k []).length≤100000:=fun k hk=>(hone _ (getD_mem' [] hk)).1
 clear hone o10
 replace hol:=Lat.mk hol
 generalize aes.getD i false=sb at*;have m0:=mixR_0 ah;have hbs:(encL boolRow aes).set i [bV true]=encL boolRow (aes.set i true):=encL_set (f:=boolRow) aes i true;have hps:(encL byteL ah).set i [.snap (encL byteRow l)]=encL byteL (ah.set i l):=encL_set (f:=byteL) ah i l;have hsne:=isEmpty_f (l:=aes) (fun h=>by rw[h]at his;simp at his)
 cases sb with
 |true=>
  by_cases g6:ah.getD i []=l
  case neg=>
   rw[if_pos ⟨rfl,g6⟩]at hM;subst hM;rw[decide_eq_false g6]at he;unfold zAsm;clear hol;refine zgo2 ?_;exact zfin
  rw[if_neg (fun h=>h.2 g6)]at hM
  subst hM;rw[decide_eq_true g6]at he;clear g6;refine zgo2 ?_;refine zin Tryz.func99 Tryz.ntmps99 ?_;refine zgo2 ?_;refine zfor (α:=Nat×List (Nat×Option Blk)) ah.length (fun k x=> [(4,true,zV k),(3,true,.own 25 0 ah.length),(2,true,.ptr 24 0 0),(1,true,.ptr 23 0 0)]) (fun k x=>(1,some (.cells 79 5 [[zV 0,zV 0,zV 0,.c (.slice none 0 0),.c (.slice none 0 0)]] true false))::(2,some (.cells 68 5 [[zV n,zV i,zV ah.length,zV s,.snap (encL byteRow l)]] true false))::(23,some (.cells 79 5 [[zV n,zV ah.length,zV s,.snap (encL byteL ah),.snap (encL boolRow aes)]] true false))::(24,some (.cells 79 5 [[zV 0,zV 0,zV 0,.c (.slice none 0 0),.c (.slice none 0 0)]] true false))::x.2) (fun k m x=>26≤m∧x.2=cpB 25 ah k x.1∧(0<k→26≤x.1∧x.1<m)) ⟨100,(0,cpB 25 ah 0 0),⟨by omega,rfl,fun h=>absurd h (by omega)⟩,zholds⟩ (fun k m x hk hR=> ?_) (fun m x hR=> ?_)
  ·obtain⟨dd,TT⟩:=x
   obtain⟨hm,hTT,hid⟩:=hR;simp only[]at hid hTT⊢;subst hTT;cases k with
   |zero=>
    rw[show cpB 25 ah 0 dd=[(25,some (.cells 46 1 (mixR ah 0) true true))]from rfl]
    have hgk:=hgh.out 0 hk;have hpl:=hol.out 0 hk;have m1:=mixR_get hk;have m3:=mixR_len (h:=ah) (k:=0) (by omega)
    have hS:=cpB_s 25 ah 0
    replace hS:=Lat.mk hS
    clear hol hgh m0 hps hbs hgi hgs;generalize ah.getD 0 []=pc at*;generalize mixR ah 0=RR at*;refine zgo2 ?_;exact⟨m+100,(m+1,[(25,some (.cells 46 1 (RR.set 0 [.own (m+1) 0 pc.length]) true true)),(m+1,some (.cells 5 1 (encL byteRow pc) true true))]),⟨by omega,(hS.out (m+1)).symm,fun _=>(by omega:26≤m+1∧m+1<m+100)⟩,zholds⟩
   |succ j=>
    obtain⟨i1,i2⟩:=hid (by omega)
    have hfz:=cp_fz (h:=ah) (j:=j) (dd:=dd) (by omega)
    rw[cpB_s 25 ah j dd];refine aw_fz dd 25 (mixR ah (j+1)) zeq zeq (by omega) hfz ?_
    refine aw_less (env:=[(4,true,zV (j+1:Nat)),(3,true,.own 25 0 ah.length),(2,true,.ptr 24 0 0),(1,true,.ptr 23 0 0)]) (H:=⟨m,tabG [(1,some (.cells 79 5 [[zV 0,zV 0,zV 0,.c (.slice none 0 0),.c (.slice none 0 0)]] true false)),(2,some (.cells 68 5 [[zV n,zV i,zV ah.length,zV s,.snap (encL byteRow l)]] true false)),(23,some (.cells 79 5 [[zV n,zV ah.length,zV s,.snap (encL byteL ah),.snap (encL boolRow aes)]] true false)),(24,some (.cells 79 5 [[zV 0,zV 0,zV 0,.c (.slice none 0 0),.c (.slice none 0 0)]] true false)),(25,some (.cells 46 1 (mixR ah (j+1)) true true))]⟩) zholds ?_
    clear hfz hid i1 i2;have hgk:=hgh.out (j+1) hk;have hpl:=hol.out (j+1) hk;have m1:=mixR_get hk;have m3:=mixR_len (h:=ah) (k:=(j+1)) (by omega)
    have hS:=cpB_s 25 ah (j+1)
    replace hS:=Lat.mk hS
    clear hol hgh m0 hps hbs hgi hgs;generalize ah.getD (j+1) []=pc at*;generalize mixR ah (j+1)=RR at*;refine zgo2 ?_;exact⟨m+100,(m+1,[(25,some (.cells 46 1 (RR.set (j+1) [.own (m+1) 0 pc.length]) true true)),(m+1,some (.cells 5 1 (encL byteRow pc) true true))]),⟨by omega,(hS.out (m+1)).symm,fun _=>(by omega:26≤m+1∧m+1<m+100)⟩,zholds⟩
  ·obtain⟨dd,TT⟩:=x
   obtain⟨hm,hTT,hid⟩:=hR;simp only[]at hid hTT⊢;subst hTT;obtain⟨j,hj⟩:∃j,ah.length=j+1:=⟨ah.length-1,by omega⟩
   obtain⟨i1,i2⟩:=hid (by omega)
   have hfz:=cp_fz (h:=ah) (j:=j) (dd:=dd) (by omega)
   have hcp:cpB 25 ah ah.length dd=cpB 25 ah (j+1) dd:=by rw[hj]
   rw[hcp,cpB_s 25 ah j dd];rw[←hj,mixR_all]at hfz;refine aw_fz dd 25 (encL byteL ah) zeq zeq (by omega) hfz ?_
   refine aw_less (env:=[(4,true,zV ah.length),(3,true,.own 25 0 ah.length),(2,true,.ptr 24 0 0),(1,true,.ptr 23 0 0)]) (H:=⟨m,tabG [(1,some (.cells 79 5 [[zV 0,zV 0,zV 0,.c (.slice none 0 0),.c (.slice none 0 0)]] true false)),(2,some (.cells 68 5 [[zV n,zV i,zV ah.length,zV s,.snap (encL byteRow l)]] true false)),(23,some (.cells 79 5 [[zV n,zV ah.length,zV s,.snap (encL byteL ah),.snap (encL boolRow aes)]] true false)),(24,some (.cells 79 5 [[zV 0,zV 0,zV 0,.c (.slice none 0 0),.c (.slice none 0 0)]] true false)),(25,some (.cells 46 1 (encL byteL ah) true true))]⟩) zholds ?_
   have hl1:(encL byteL ah).length=ah.length:=encL_len ah;have hl2:(encL boolRow aes).length=aes.length:=encL_len aes;have t1:(ah.set i l).take ah.length=ah.set i l:=List.take_of_length_le (by simp)
   have t2:(aes.set i true).take aes.length=aes.set i true:=List.take_of_length_le (by simp)
   have n1:(∀row,row∈encL byteL (ah.set i l)→∀x,x∈row→NoId x)=True:=eq_true (encL_ids _);have n2:(∀row,row∈encL boolRow (aes.set i true)→∀x,x∈row→NoId x)=True:=eq_true (encL_ids _);have x1:=fun G k=>byteLs_expo G k (ah.set i l)
   have x2:=fun G k=>boolRows_expo G k (aes.set i true)
   clear hfz hid i1 i2 hgh hol m0 hj hcp;refine zgo2 ?_;exact zfin2
 |false=>
  rw[if_neg (fun h=>absurd h.1 (by decide))]at hM
  subst hM;clear he;refine zgo2 ?_;refine zin Tryz.func99 Tryz.ntmps99 ?_;refine zgo2 ?_;refine zfor (α:=Nat×List (Nat×Option Blk)) ah.length (fun k x=> [(4,true,zV k),(3,true,.own 25 0 ah.length),(2,true,.ptr 24 0 0),(1,true,.ptr 23 0 0)]) (fun k x=>(1,some (.cells 79 5 [[zV 0,zV 0,zV 0,.c (.slice none 0 0),.c (.slice none 0 0)]] true false))::(2,some (.cells 68 5 [[zV n,zV i,zV ah.length,zV s,.snap (encL byteRow l)]] true false))::(23,some (.cells 79 5 [[zV n,zV ah.length,zV s,.snap (encL byteL ah),.snap (encL boolRow aes)]] true false))::(24,some (.cells 79 5 [[zV 0,zV 0,zV 0,.c (.slice none 0 0),.c (.slice none 0 0)]] true false))::x.2) (fun k m x=>26≤m∧x.2=cpB 25 ah k x.1∧(0<k→26≤x.1∧x.1<m)) ⟨100,(0,cpB 25 ah 0 0),⟨by omega,rfl,fun h=>absurd h (by omega)⟩,zholds⟩ (fun k m x hk hR=> ?_) (fun m x hR=> ?_)
  ·obtain⟨dd,TT⟩:=x
   obtain⟨hm,hTT,hid⟩:=hR;simp only[]at hid hTT⊢;subst hTT;cases k with
   |zero=>
    rw[show cpB 25 ah 0 dd=[(25,some (.cells 46 1 (mixR ah 0) true true))]from rfl]
    have hgk:=hgh.out 0 hk;have hpl:=hol.out 0 hk;have m1:=mixR_get hk;have m3:=mixR_len (h:=ah) (k:=0) (by omega)
    have hS:=cpB_s 25 ah 0
    replace hS:=Lat.mk hS
    clear hol hgh m0 hps hbs hgi hgs;generalize ah.getD 0 []=pc at*;generalize mixR ah 0=RR at*;refine zgo2 ?_;exact⟨m+100,(m+1,[(25,some (.cells 46 1 (RR.set 0 [.own (m+1) 0 pc.length]) true true)),(m+1,some (.cells 5 1 (encL byteRow pc) true true))]),⟨by omega,(hS.out (m+1)).symm,fun _=>(by omega:26≤m+1∧m+1<m+100)⟩,zholds⟩
   |succ j=>
    obtain⟨i1,i2⟩:=hid (by omega)
    have hfz:=cp_fz (h:=ah) (j:=j) (dd:=dd) (by omega)
    rw[cpB_s 25 ah j dd];refine aw_fz dd 25 (mixR ah (j+1)) zeq zeq (by omega) hfz ?_
    refine aw_less (env:=[(4,true,zV (j+1:Nat)),(3,true,.own 25 0 ah.length),(2,true,.ptr 24 0 0),(1,true,.ptr 23 0 0)]) (H:=⟨m,tabG [(1,some (.cells 79 5 [[zV 0,zV 0,zV 0,.c (.slice none 0 0),.c (.slice none 0 0)]] true false)),(2,some (.cells 68 5 [[zV n,zV i,zV ah.length,zV s,.snap (encL byteRow l)]] true false)),(23,some (.cells 79 5 [[zV n,zV ah.length,zV s,.snap (encL byteL ah),.snap (encL boolRow aes)]] true false)),(24,some (.cells 79 5 [[zV 0,zV 0,zV 0,.c (.slice none 0 0),.c (.slice none 0 0)]] true false)),(25,some (.cells 46 1 (mixR ah (j+1)) true true))]⟩) zholds ?_
    clear hfz hid i1 i2;have hgk:=hgh.out (j+1) hk;have hpl:=hol.out (j+1) hk;have m1:=mixR_get hk;have m3:=mixR_len (h:=ah) (k:=(j+1)) (by omega)
    have hS:=cpB_s 25 ah (j+1)
    replace hS:=Lat.mk hS
    clear hol hgh m0 hps hbs hgi hgs;generalize ah.getD (j+1) []=pc at*;generalize mixR ah (j+1)=RR at*;refine zgo2 ?_;exact⟨m+100,(m+1,[(25,some (.cells 46 1 (RR.set (j+1) [.own (m+1) 0 pc.length]) true true)),(m+1,some (.cells 5 1 (encL byteRow pc) true true))]),⟨by omega,(hS.out (m+1)).symm,fun _=>(by omega:26≤m+1∧m+1<m+100)⟩,zholds⟩
  ·obtain⟨dd,TT⟩:=x
   obtain⟨hm,hTT,hid⟩:=hR;simp only[]at hid hTT⊢;subst hTT;obtain⟨j,hj⟩:∃j,ah.length=j+1:=⟨ah.length-1,by omega⟩
   obtain⟨i1,i2⟩:=hid (by omega)
   have hfz:=cp_fz (h:=ah) (j:=j) (dd:=dd) (by omega)
   have hcp:cpB 25 ah ah.length dd=cpB 25 ah (j+1) dd:=by rw[hj]
   rw[hcp,cpB_s 25 ah j dd];rw[←hj,mixR_all]at hfz;refine aw_fz dd 25 (encL byteL ah) zeq zeq (by omega) hfz ?_
   refine aw_less (env:=[(4,true,zV ah.length),(3,true,.own 25 0 ah.length),(2,true,.ptr 24 0 0),(1,true,.ptr 23 0 0)]) (H:=⟨m,tabG [(1,some (.cells 79 5 [[zV 0,zV 0,zV 0,.c (.slice none 0 0),.c (.slice none 0 0)]] true false)),(2,some (.cells 68 5 [[zV n,zV i,zV ah.length,zV s,.snap (encL byteRow l)]] true false)),(23,some (.cells 79 5 [[zV n,zV ah.length,zV s,.snap (encL byteL ah),.snap (encL boolRow aes)]] true false)),(24,some (.cells 79 5 [[zV 0,zV 0,zV 0,.c (.slice none 0 0),.c (.slice none 0 0)]] true false)),(25,some (.cells 46 1 (encL byteL ah) true true))]⟩) zholds ?_
   have hl1:(encL byteL ah).length=ah.length:=encL_len ah;have hl2:(encL boolRow aes).length=aes.length:=encL_len aes;have t1:(ah.set i l).take ah.length=ah.set i l:=List.take_of_length_le (by simp)
   have t2:(aes.set i true).take aes.length=aes.set i true:=List.take_of_length_le (by simp)
   have n1:(∀row,row∈encL byteL (ah.set i l)→∀x,x∈row→NoId x)=True:=eq_true (encL_ids _);have n2:(∀row,row∈encL boolRow (aes.set i true)→∀x,x∈row→NoId x)=True:=eq_true (encL_ids _);have x1:=fun G k=>byteLs_expo G k (ah.set i l)
   have x2:=fun G k=>boolRows_expo G k (aes.set i true)
   clear hfz hid i1 i2 hgh hol m0 hj hcp;refine zgo2 ?_;exact zfin2
end Go.Proofs.YtpeldefimkdkdaaGreat
