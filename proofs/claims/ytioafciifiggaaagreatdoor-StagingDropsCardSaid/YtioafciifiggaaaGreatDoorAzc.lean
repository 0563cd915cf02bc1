/- Staging: contracts of its functions (Azc). No condition but those named. -/
import Derived.Test.YtioafciifiggaaaGreatDoorAzb
import Derived.Test.YtioafciifiggaaaGreatDoorLg
set_option linter.unusedVariables false
set_option linter.unusedSimpArgs false
namespace Go.Proofs.YtioafciifiggaaaGreatDoor
open Go.Proofs Go.AL
set_option maxRecDepth 100000
set_option maxHeartbeats 8000000
attribute [local irreducible] endA AW aops thenA blockA hold
attribute [local irreducible] numG
def fewX(x:Stg):Bool:=decide (x.have_.length≤60)&&decide (x.seen.length≤60)&&decide (x.records.length≤100)&& !(decide (60<x.parts)&&decide (x.parts<60000))&&x.have_.all (fun p=>decide (p.length≤200))
def fewSt(s:Stag):Bool:=decide (s.j.sizes.length≤100)&&decide (s.cycles.length≤20)&&decide (s.j.count≤400)&&s.cycles.all fewX
theorem all_getD{α:Type}(d:α){l:List α}{f:α→Bool}(h:∀i,i<l.length→f (l.getD i d)=true):l.all f=true:=by
 rw[List.all_eq_true];intro x hx;obtain⟨i,hi,rfl⟩:=List.mem_iff_getElem.1 hx;have:=h i hi
 rwa[List.getD_eq_getElem?_getD,List.getElem?_eq_getElem hi,Option.getD_some]at this
theorem not_allD{α:Type}(d:α){l:List α}{f:α→Bool}{i:Nat}(hi:i<l.length)(h:f (l.getD i d)=false):l.all f=false:=by
 rw[Bool.eq_false_iff];intro ha;rw[List.all_eq_true]at ha;rw[ha _ (getD_mem' d hi)]at h;exact absurd h (by decide)
theorem fewSt_p(s:Stag):PC 8 [.agg (encSt s)] (bV (fewSt s)):=by
 refine pstart Tryz.func8 Tryz.ntmps8 (.c _) ?_;obtain⟨M,hM⟩:∃M,fewSt s=M:=⟨_,rfl⟩;rw[hM];unfold fewSt at hM;obtain⟨⟨js,jc,jh,jt,jf,jz⟩,l⟩:=s;unfold encSt;simp only[]at*;by_cases g1:jz.length≤100
 case neg=>
  rw[decide_eq_false g1]at hM;subst hM;have g1':(100:Int)<jz.length:=by omega
  refine zgo2 ?_;exact zfin
 have g1':¬(100:Int)<jz.length:=by omega
 rw[decide_eq_true g1]at hM;by_cases g2:l.length≤20
 case neg=>
  rw[decide_eq_false g2]at hM;subst hM;have g2':(20:Int)<l.length:=by omega
  refine zgo2 ?_;exact zfin
 have g2':¬(20:Int)<l.length:=by omega
 rw[decide_eq_true g2]at hM;by_cases g3:jc≤400
 case neg=>
  rw[decide_eq_false g3]at hM;subst hM;have g3':(400:Int)<jc:=by omega
  refine zgo2 ?_;exact zfin
 have g3':¬(400:Int)<jc:=by omega
 rw[decide_eq_true g3]at hM;simp only[Bool.true_and]at hM;have hg:=gSt l;refine zgo2 ?_;refine zfor (α:=Unit) l.length (fun k _=> [(3,true,zV k),(1,true,.ptr 0 0 0)]) (fun k _=> [(0,some (.cells 33 7 [[zV js,zV jc,zV jh,zV jt,zV jf,.snap (encL intRow jz),.snap (encL stgRow l)]] true false))]) (fun k m _=>1≤m∧∀i,i<k→fewX (l.getD i zStg)=true) ⟨100,(),⟨by omega,fun i hi=>absurd hi (by omega)⟩,zholds⟩ (fun k m _ hk hR=> ?_) (fun m _ hR=> ?_)
 ·obtain⟨hm,hR⟩:=hR
  have hgk:=hg k hk;have hbad:fewX (l.getD k zStg)=false→M=false:=fun h=>by rw[←hM];exact not_allD zStg hk h
  have hok:fewX (l.getD k zStg)=true→∀i,i<k+1→fewX (l.getD i zStg)=true:=fun h i hi=>by
   rcases Nat.lt_or_ge i k with h1|h1
   ·exact hR i h1
   ·rw[show i=k by omega];exact h
  replace hok:=Lat.mk hok
  replace hbad:=Lat.mk hbad
  clear hR hM hg g1 g1' g3 g3';obtain⟨x,hx⟩:∃x,l.getD k zStg=x:=⟨_,rfl⟩;rw[hx]at hok hbad hgk;clear hx;obtain⟨n,p,s,h,e,r,c⟩:=x;rw[stgRow_eq]at hgk;unfold fewX at hok hbad;simp only[]at*;by_cases f1:h.length≤60
  case neg=>
   have f1':(60:Int)<h.length:=by omega
   obtain rfl:=hbad.out (by rw[decide_eq_false f1];rfl)
   refine zgo2 ?_;exact zfin
  have f1':¬(60:Int)<h.length:=by omega
  by_cases f2:e.length≤60
  case neg=>
   have f2':(60:Int)<e.length:=by omega
   obtain rfl:=hbad.out (by rw[decide_eq_false f2,Bool.and_false];rfl)
   refine zgo2 ?_;exact zfin
  have f2':¬(60:Int)<e.length:=by omega
  by_cases f3:r.length≤100
  case neg=>
   have f3':(100:Int)<r.length:=by omega
   obtain rfl:=hbad.out (by rw[decide_eq_false f3,Bool.and_false];rfl)
   refine zgo2 ?_;exact zfin
  have f3':¬(100:Int)<r.length:=by omega
  have hgh:=gHb h;by_cases f4:60<p
  ·by_cases f5:p<60000
   ·obtain rfl:=hbad.out (by rw[decide_eq_true f4,decide_eq_true f5];simp)
    refine zgo2 ?_;exact zfin
   ·refine zgo2 ?_
    refine zfor (α:=Unit) h.length (fun q _=> [(5,true,zV q),(4,true,.ptr m 0 0),(3,true,zV k),(1,true,.ptr 0 0 0)]) (fun q _=> [(0,some (.cells 33 7 [[zV js,zV jc,zV jh,zV jt,zV jf,.snap (encL intRow jz),.snap (encL stgRow l)]] true false)),(m,some (.cells 64 7 [[zV n,zV p,zV s,.snap (encL byteL h),.snap (encL boolRow e),.snap (encL intRow r),bV c]] true false))]) (fun q m' _=>m<m'∧∀i,i<q→decide ((h.getD i []).length≤200)=true) ⟨m+200,(),⟨by omega,fun i hi=>absurd hi (by omega)⟩,zholds⟩ (fun q m' _ hq hR=> ?_) (fun m' _ hR=> ?_)
    ·obtain⟨hm',hR⟩:=hR
     have hgq:=hgh q hq;by_cases f6:(h.getD q []).length≤200
     ·have f6':¬(200:Int)<(h.getD q []).length:=by omega
      have hR2:Lat (∀i,i<q+1→decide ((h.getD i []).length≤200)=true):=⟨fun i hi=>by
       rcases Nat.lt_or_ge i q with h1|h1
       ·exact hR i h1
       ·rw[show i=q by omega];exact decide_eq_true f6⟩
      clear hR hgh;generalize h.getD q []=pc at*;refine zgo2 ?_;exact⟨m'+50,(),⟨by omega,hR2.out⟩,zholds⟩
     ·have f6':(200:Int)<(h.getD q []).length:=by omega
      obtain rfl:=hbad.out (by rw[not_allD [] hq (decide_eq_false f6),Bool.and_false])
      clear hR hgh;generalize h.getD q []=pc at*;refine zgo2 ?_;exact zfin
    ·obtain⟨hm',hR⟩:=hR
     have hfin:=hok.out (by rw[decide_eq_true f1,decide_eq_true f2,decide_eq_true f3,all_getD [] hR,decide_eq_true f4,decide_eq_false f5];rfl)
     replace hfin:=Lat.mk hfin
     clear hR hgh;refine zgo2 ?_;exact⟨m'+100,(),⟨by omega,hfin.out⟩,zholds⟩
  ·refine zgo2 ?_
   refine zfor (α:=Unit) h.length (fun q _=> [(5,true,zV q),(4,true,.ptr m 0 0),(3,true,zV k),(1,true,.ptr 0 0 0)]) (fun q _=> [(0,some (.cells 33 7 [[zV js,zV jc,zV jh,zV jt,zV jf,.snap (encL intRow jz),.snap (encL stgRow l)]] true false)),(m,some (.cells 64 7 [[zV n,zV p,zV s,.snap (encL byteL h),.snap (encL boolRow e),.snap (encL intRow r),bV c]] true false))]) (fun q m' _=>m<m'∧∀i,i<q→decide ((h.getD i []).length≤200)=true) ⟨m+200,(),⟨by omega,fun i hi=>absurd hi (by omega)⟩,zholds⟩ (fun q m' _ hq hR=> ?_) (fun m' _ hR=> ?_)
   ·obtain⟨hm',hR⟩:=hR
    have hgq:=hgh q hq;by_cases f6:(h.getD q []).length≤200
    ·have f6':¬(200:Int)<(h.getD q []).length:=by omega
     have hR2:Lat (∀i,i<q+1→decide ((h.getD i []).length≤200)=true):=⟨fun i hi=>by
      rcases Nat.lt_or_ge i q with h1|h1
      ·exact hR i h1
      ·rw[show i=q by omega];exact decide_eq_true f6⟩
     clear hR hgh;generalize h.getD q []=pc at*;refine zgo2 ?_;exact⟨m'+50,(),⟨by omega,hR2.out⟩,zholds⟩
    ·have f6':(200:Int)<(h.getD q []).length:=by omega
     obtain rfl:=hbad.out (by rw[not_allD [] hq (decide_eq_false f6),Bool.and_false])
     clear hR hgh;generalize h.getD q []=pc at*;refine zgo2 ?_;exact zfin
   ·obtain⟨hm',hR⟩:=hR
    have hfin:=hok.out (by rw[decide_eq_true f1,decide_eq_true f2,decide_eq_true f3,all_getD [] hR,decide_eq_false f4];rfl)
    replace hfin:=Lat.mk hfin
    clear hR hgh;refine zgo2 ?_;exact⟨m'+100,(),⟨by omega,hfin.out⟩,zholds⟩
 ·obtain⟨hm,hR⟩:=hR
  rw[all_getD zStg hR]at hM;subst hM;clear hR hg g1 g1' g3 g3';refine zgo2 ?_;exact zfin
end Go.Proofs.YtioafciifiggaaaGreatDoor
namespace Go.Proofs.YtioafciifiggaaaGreatDoor
open Go.Proofs Go.AL
set_option maxRecDepth 100000
set_option maxHeartbeats 8000000
attribute [local irreducible] endA AW aops thenA blockA hold
attribute [local irreducible] numG
theorem eqI_p(l:List Int)(hl:l.length≤1000000):PC 32 [.snap (encL intRow l),.snap (encL intRow l)] (bV true):=by
 refine pstart Tryz.func32 Tryz.ntmps32 (.c _) ?_;have hg:=gI l;obtain⟨d,dx⟩:=dself l.length;refine zgo2 ?_;refine zfor1 l.length 0 [] (fun k=> [(13,true,zV k),(12,true,zV l.length),(0,true,.snap (encL intRow l)),(1,true,.snap (encL intRow l))]) zholds (fun k m hlt hm=> ?_) (fun m hm=> ?_)
 ·have hgk:=hg k hlt
  clear hg d dx;generalize l.getD k 0=v at*;obtain⟨d,dx⟩:=dself v;refine zgo2 ?_;refine⟨m+200,by omega,zholds⟩
 ·clear hg
  refine zgo2 ?_;exact zfin
theorem sameJ_p(j:Jr)(hl:j.sizes.length≤1000000):PC 43 [.agg (encJ j),.agg (encJ j)] (bV true):=by
 refine pstart Tryz.func43 Tryz.ntmps43 (.c _) ?_;obtain⟨js,jc,jh,jt,jf,jz⟩:=j;unfold encJ;simp only[]at*;have hg:=gI jz;have d1:eqTop Tryz.prog 27 (.agg [zV js,zV jc]) (.agg [zV js,zV jc])=some true:=(eqRg [js,jc] [js,jc] rfl rfl).trans (by simp)
 obtain⟨d2,d2x⟩:=dself jh;obtain⟨d3,d3x⟩:=dself jt;obtain⟨d4,d4x⟩:=dself jf;obtain⟨d5,d5x⟩:=dself jz.length;refine zgo2 ?_;refine zfor1 jz.length 100 [(0,some (.cells 30 6 [[zV js,zV jc,zV jh,zV jt,zV jf,.snap (encL intRow jz)]] true false)),(1,some (.cells 30 6 [[zV js,zV jc,zV jh,zV jt,zV jf,.snap (encL intRow jz)]] true false))] (fun k=> [(5,true,zV k),(3,true,.ptr 1 0 0),(2,true,.ptr 0 0 0)]) zholds (fun k m hlt hm=> ?_) (fun m hm=> ?_)
 ·have hgk:=hg k hlt
  clear hg;generalize jz.getD k 0=v at*;obtain⟨d,dx⟩:=dself v;refine zgo2 ?_;refine⟨m+200,by omega,zholds⟩
 ·clear hg
  refine zgo2 ?_;exact zfin
theorem sameX_p(x:Stg)(hx:StgL2 x):PC 44 [.agg (stgRow x),.agg (stgRow x)] (bV true):=by
 refine pstart Tryz.func44 Tryz.ntmps44 (.c _) ?_;have c1:=qasm_p x;have c2:=qsame_p (asm x) (asm x) hx.asm.have_ hx.asm.have_ hx.asm.seen hx.asm.seen (fun y hy=>(hx.asm.one y hy).2) (fun y hy=>(hx.asm.one y hy).2)
 rw[decide_eq_true rfl]at c2;have c3:=sameInts15_p x.records (by have:=hx.records;omega)
 clear hx;obtain⟨n,p,s,h,e,r,c⟩:=x;rw[stgRow_eq]at*;unfold asm encA at*;simp only[]at*;have d:(c==c)=true:=by simp
 refine zgo2 ?_;exact zfin
theorem sameSt_p(s:Stag)(hz:s.j.sizes.length≤1000000)(hl:s.cycles.length≤1000000)(ho:∀x∈s.cycles,StgL2 x):PC 12 [.agg (encSt s),.agg (encSt s)] (bV true):=by
 refine pstart Tryz.func12 Tryz.ntmps12 (.c _) ?_;have c1:=sameJ_p s.j hz;have hc:∀k,k<s.cycles.length→PC 44 [.agg (stgRow (s.cycles.getD k zStg)),.agg (stgRow (s.cycles.getD k zStg))] (bV true):=fun k hk=>sameX_p _ (ho _ (getD_mem' zStg hk))
 clear ho;obtain⟨⟨js,jc,jh,jt,jf,jz⟩,l⟩:=s;unfold encSt encJ at*;simp only[]at*;have hg:=gSt l
 replace hc:=Lat.mk hc
 obtain⟨d5,d5x⟩:=dself l.length;refine zgo2 ?_;refine zfor1 l.length 100 [(0,some (.cells 33 7 [[zV js,zV jc,zV jh,zV jt,zV jf,.snap (encL intRow jz),.snap (encL stgRow l)]] true false)),(1,some (.cells 33 7 [[zV js,zV jc,zV jh,zV jt,zV jf,.snap (encL intRow jz),.snap (encL stgRow l)]] true false))] (fun k=> [(5,true,zV k),(3,true,.ptr 1 0 0),(2,true,.ptr 0 0 0)]) zholds (fun k m hlt hm=> ?_) (fun m hm=> ?_)
 ·have hgk:=hg k hlt
  have c2:=hc.out k hlt;clear hg hc c1;generalize l.getD k zStg=x at*;obtain⟨n,p,s,h,e,r,c⟩:=x;rw[stgRow_eq]at*;simp only[]at*;refine zgo2 ?_;refine⟨m+200,by omega,zholds⟩
 ·clear hg hc
  refine zgo2 ?_;exact zfin
theorem sameWr_p(l:List Wrt)(hl:l.length≤1000000)(hs:∀o∈l,o.2.2.length≤1000000):PC 82 [.snap (encL opRow l),.snap (encL opRow l)] (bV true):=by
 refine pstart Tryz.func82 Tryz.ntmps82 (.c _) ?_;have hc:∀k,k<l.length→PC 45 [.snap (encL encSec (l.getD k (0,0,[])).2.2),.snap (encL encSec (l.getD k (0,0,[])).2.2)] (bV true):=fun k hk=>sameSecs_p _ (hs _ (getD_mem' (0,0,[]) hk))
 clear hs;have hg:=gWrt l
 replace hc:=Lat.mk hc
 obtain⟨d5,d5x⟩:=dself l.length;refine zgo2 ?_;refine zfor1 l.length 0 [] (fun k=> [(5,true,zV k),(0,true,.snap (encL opRow l)),(1,true,.snap (encL opRow l))]) zholds (fun k m hlt hm=> ?_) (fun m hm=> ?_)
 ·have hgk:=hg k hlt
  have c2:=hc.out k hlt;clear hg hc;generalize l.getD k (0,0,[])=x at*;obtain⟨v,a,d⟩:=x;rw[opRow_eq]at hgk;simp only[]at*;obtain⟨d1,d1x⟩:=dself v;obtain⟨d2,d2x⟩:=dself a;refine zgo2 ?_;refine⟨m+200,by omega,zholds⟩
 ·clear hg hc
  refine zgo2 ?_;exact zfin
theorem sameCy_p(c:Cyc)(hp:c.pos.length≤1000000)(hl:c.writes.length≤1000000)(hs:∀o∈c.writes,o.2.2.length≤1000000):PC 33 [.agg (encC c),.agg (encC c)] (bV true):=by
 refine pstart Tryz.func33 Tryz.ntmps33 (.c _) ?_;have c1:=sameInts23_p c.pos hp;have c2:=sameWr_p c.writes hl hs;clear hp hl hs;obtain⟨cb,cn,ct,cp,cw⟩:=c;unfold encC;simp only[]at*;obtain⟨d1,d1x⟩:=dself cb;obtain⟨d2,d2x⟩:=dself cn;obtain⟨d3,d3x⟩:=dself ct;refine zgo2 ?_;exact zfin
end Go.Proofs.YtioafciifiggaaaGreatDoor
namespace Go.Proofs.YtioafciifiggaaaGreatDoor
open Go.Proofs Go.AL
set_option maxRecDepth 100000
set_option maxHeartbeats 8000000
attribute [local irreducible] endA AW aops thenA blockA hold
attribute [local irreducible] numG
theorem jpay_p(a b:Int):PC 89 [zV a,zV b] (.snap (encL byteRow (vint a++vint b))):=by
 refine pstart Tryz.func89 Tryz.ntmps89 (encL_noId _) ?_;have c2:=putInt_e a;have v1:=vint_len a;have c3:=putInt_fo (vint a) b (by omega)
 rw[List.nil_append]at c2;have t1:(vint a).take (vint a).length=vint a:=List.take_length;have t2:(vint a++vint b).take (vint a++vint b).length=vint a++vint b:=List.take_length;generalize vint a++vint b=B at*;generalize vint a=A at*;refine zgo2 ?_;exact zfin
theorem jformat_p(a c:Int):PC 46 [.agg [zV a,zV c]] (.tup [.agg (encJ (jfmE a c).1),.snap (encL opRow (jfmE a c).2.1),zV (jfmE a c).2.2]):=by
 refine pstartD Tryz.func46 Tryz.ntmps46 (by simp only[go_sem,encJ]) ?_
 have c1:=valid_p a c;have c3:=jpay_p 0 1;have c4:=sbFormat_p a (vint 0++vint 1) (by have:=vint_len 0;have:=vint_len 1;rw[List.length_append];omega)
 have hsl:=sbFmt_len a (vint 0++vint 1);obtain⟨M,hM⟩:∃M,jfmE a c=M:=⟨_,rfl⟩;rw[hM];unfold jfmE at hM;have hvr:=fun h=>validB_rng (a:=a) (b:=c) h
 generalize validB a c=v at*;generalize sbFmt a (vint 0++vint 1)=E at*;generalize vint 0++vint 1=V at*;obtain⟨so,se⟩:=E;simp only[]at*;cases v with
 |false=>
  rw[if_neg (by decide)]at hM
  subst hM;unfold encJ zJr;clear c3 c4 hvr;refine zgo2 ?_;exact zfin
 |true=>
  rw[if_pos rfl]at hM;have h5:=hvr rfl;have c2:=jlen_p a c;have w1:=IntWalk.i64_in (c-16) (by omega)
  rw[w1]at c2;clear hvr;obtain⟨n,rfl⟩:∃n:Nat,c=(n:Int)+16:=⟨(c-16).toNat,by omega⟩
  have e1:(n:Int)+16-16=n:=by omega
  have c5:=ring_o a (n+16) 0 (List.replicate n zSec) (by omega) (by omega) (by omega) (by omega) (by omega) (by omega) (by rw[List.length_replicate];omega)
  have hW:ringW a ((n:Int)+16-16) 0 (List.replicate n zSec)=[(0,a+16,List.replicate n zSec)]:=by
   unfold ringW;rw[if_neg (by rw[List.length_replicate];omega)]
   simp
  have hz:zeros ((n:Int)+16-16)=List.replicate n zSec:=by unfold zeros;rw[e1,Int.toNat_natCast]
  rw[hW]at c5;rw[hz]at hM;rw[e1]at c2 w1;clear hW hz e1;have r1:encL opRow [(0,a+16,List.replicate n zSec)]=[[zV 0,zV (a+16),.snap (encL encSec (List.replicate n zSec))]]:=rfl;rw[r1]at c5
  have hwk:∀so:List Wrt,Wkr ([zV 0,zV (a+16),.snap (encL encSec (List.replicate n zSec))]::[zV 1,zV 0,.c (.slice none 0 0)]::encL opRow so) (encL opRow ([(0,a+16,List.replicate n zSec),(1,0,[])]++so)):=fun so=>by
   have e:encL opRow ([(0,a+16,List.replicate n zSec),(1,0,[])]++so)=[zV 0,zV (a+16),.snap (encL encSec (List.replicate n zSec))]::[zV 1,zV 0,.snap []]::encL opRow so:=rfl;rw[e];exact wkr_cons (wks_refl _) (wkr_cons (wks_cons (.refl _) (wks_cons (.refl _) (wks_cons .nil wks_nil))) (wkr_refl _))
  by_cases g:se=0
  ·rw[if_pos g]at hM
   subst hM g;unfold encJ;simp only[];have e:encL opRow ([(0,a+16,List.replicate n zSec),(1,0,[])]++so)=[zV 0,zV (a+16),.snap (encL encSec (List.replicate n zSec))]::[zV 1,zV 0,.snap []]::encL opRow so:=rfl;rw[e];have hT:∀a b:List AV,List.take (2+so.length) (a::b::encL opRow so)=a::b::encL opRow so:=fun a b=>List.take_of_length_le (by simp only[List.length_cons,encL_len];omega)
   clear e hwk;refine zgo2 ?_;refine zdrawY ?_;refine zgo2 ?_;exact zfin2
  ·rw[if_neg g]at hM
   subst hM;unfold encJ zJr;refine zgo2 ?_;refine zdrawY ?_;refine zgo2 ?_;exact zfin
theorem sformat_p(a c:Int):PC 14 [.agg [zV a,zV c]] (.tup [.agg (encSt (sfmE a c).1),.snap (encL opRow (sfmE a c).2.1),zV (sfmE a c).2.2]):=by
 refine pstart Tryz.func14 Tryz.ntmps14 (by simp only[go_sem,encSt]) ?_
 have c1:=jformat_p a c;obtain⟨M,hM⟩:∃M,sfmE a c=M:=⟨_,rfl⟩;rw[hM];unfold sfmE at hM;generalize jfmE a c=E at*;obtain⟨⟨js,jc,jh,jt,jf,jz⟩,o,e⟩:=E;unfold encJ at c1;simp only[]at*;by_cases g:e=0
 ·rw[if_pos g]at hM
  subst hM g;unfold encSt;simp only[];refine zgo2 ?_;exact zfin
 ·rw[if_neg g]at hM
  subst hM;unfold encSt zStag zJr;simp only[];refine zgo2 ?_;exact zfin
end Go.Proofs.YtioafciifiggaaaGreatDoor
namespace Go.Proofs.YtioafciifiggaaaGreatDoor
open Go.Proofs Go.AL
set_option maxRecDepth 100000
set_option maxHeartbeats 8000000
attribute [local irreducible] endA AW aops thenA blockA hold
def smC(n:Int):Cyc:=⟨n-1,n,0,[],[(0,0,[((n % 256,0,0,0),(0,0,0,0))])]⟩
def aP0:List Int:=[3,0,2,245,235,241,168,1,2,3,0,0,1,0,0,1,3,0]
def aP1:List Int:=[3,1,2,245,235,241,168,1,0,0,0,0,0,0]
def aQ0:List Int:=[4,0,2,249,241,183,240,2,3,4,0,0,1,0,0,1,4,0]
def aQ1:List Int:=[4,1,2,249,241,183,240,2,0,0,0,0,0,0]
def aS0:Stag:=⟨⟨0,100,0,0,1,[]⟩,[]⟩
def aS1:Stag:=⟨⟨0,100,0,7,1,[7]⟩,[⟨3,2,354186741,[[2,3,0,0,1,0,0,1,3,0],[]],[true,false],[1],false⟩]⟩
def aS2:Stag:=⟨⟨0,100,0,13,1,[7,6]⟩,[⟨3,2,354186741,[[2,3,0,0,1,0,0,1,3,0],[0,0,0,0,0,0]],[true,true],[1,2],false⟩]⟩
def aS3:Stag:=⟨⟨0,100,0,19,1,[7,6,6]⟩,[⟨3,2,354186741,[[2,3,0,0,1,0,0,1,3,0],[0,0,0,0,0,0]],[true,true],[1,2],false⟩,⟨4,2,772667641,[[],[0,0,0,0,0,0]],[false,true],[3],false⟩]⟩
def aS4:Stag:=⟨⟨0,100,0,21,1,[7,6,6,2]⟩,[⟨3,2,354186741,[[2,3,0,0,1,0,0,1,3,0],[0,0,0,0,0,0]],[true,true],[1,2,4],true⟩,⟨4,2,772667641,[[],[0,0,0,0,0,0]],[false,true],[3],false⟩]⟩
theorem fa1:splE (smC 3) 10=([aP0,aP1],0):=by kernel_rfl
theorem fa2:splE (smC 4) 10=([aQ0,aQ1],0):=by kernel_rfl
theorem fa3:(sfmE 0 100).1=aS0∧(sfmE 0 100).2.2=0:=⟨by kernel_rfl,by kernel_rfl⟩
theorem fa4:(addS aS0 aP0).1=aS1∧(addS aS0 aP0).2.2=0:=⟨by kernel_rfl,by kernel_rfl⟩
theorem fa5:(addS aS1 aP1).1=aS2∧(addS aS1 aP1).2.2=0:=⟨by kernel_rfl,by kernel_rfl⟩
theorem fa6:(addS aS2 aQ1).1=aS3∧(addS aS2 aQ1).2.2=0:=⟨by kernel_rfl,by kernel_rfl⟩
theorem fa7:(sealS aS3 3).1=aS4∧(sealS aS3 3).2.1.length=2∧(sealS aS3 3).2.2=0:=⟨by kernel_rfl,by kernel_rfl,by kernel_rfl⟩
theorem fa8:(sealS aS4 4).2.2=15:=by kernel_rfl
theorem fa9:(stcE aS4 4).2=12:=by kernel_rfl
theorem fa10:stcE aS4 3=(smC 3,0):=by kernel_rfl
theorem fa11:seaE aS4=[3]:=by kernel_rfl
def lenSt(s:Stag):Bool:=decide (s.j.sizes.length≤100)&&decide (s.cycles.length≤20)&&s.cycles.all fun x=>decide (x.have_.length≤60)&&decide (x.seen.length≤60)&&decide (x.records.length≤100)&&x.have_.all fun p=>decide (p.length≤200)&&p.all fun b=>decide (0≤b)&&decide (b<256)
theorem sumL_le{n:Nat}:∀(h:List (List Int)),(∀x∈h,x.length≤n)→sumL h≤h.length*n
 |[],_=>by simp[sumL]
 |x::h,hh=>by
  have h1:=sumL_le h (fun y hy=>hh y (by simp[hy]))
  have h2:=hh x (by simp)
  simp only[sumL,List.map_cons,List.sum_cons,List.length_cons,Nat.succ_mul]at*;omega
theorem lenSt_ok{s:Stag}(h:lenSt s=true):StagLen s:=by
 unfold lenSt at h;simp only[Bool.and_eq_true,decide_eq_true_eq,List.all_eq_true]at h;obtain⟨⟨h1,h2⟩,h3⟩:=h;refine⟨by omega,by omega,fun x hx=> ?_⟩
 obtain⟨⟨⟨h4,h5⟩,h6⟩,h7⟩:=h3 x hx;have h8:=sumL_le (n:=200) x.have_ (fun y hy=>(h7 y hy).1)
 refine⟨⟨by show x.have_.length≤100000;omega,by show x.seen.length≤100000;omega,fun y hy=>⟨by have:=(h7 y hy).1;omega,fun z hz=>(h7 y hy).2 z hz⟩,?_⟩,by omega⟩
 show sumL x.have_≤100000
 have:x.have_.length*200≤60*200:=Nat.mul_le_mul_right 200 h4;omega
theorem la0:StagLen aS0:=lenSt_ok (by kernel_rfl)
theorem la1:StagLen aS1:=lenSt_ok (by kernel_rfl)
theorem la2:StagLen aS2:=lenSt_ok (by kernel_rfl)
theorem la3:StagLen aS3:=lenSt_ok (by kernel_rfl)
theorem la4:StagLen aS4:=lenSt_ok (by kernel_rfl)
end Go.Proofs.YtioafciifiggaaaGreatDoor
