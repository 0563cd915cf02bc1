/- Staging: contracts of its functions (Ah). No condition but those named. -/
import Derived.Test.YtioafciifiggaaaGreatDoorAg
import Derived.Test.YtioafciifiggaaaGreatDoorAf
import Derived.Test.YtioafciifiggaaaGreatDoorLe
import Derived.Shelf.SlIterI.Nil
import Derived.Shelf.SortM.Plain
import Derived.Shelf.SortM.SortNone
import Derived.Ground.GgzProg
import Derived.Ground.SlgmProg
import Derived.Test.YtioafciifiggaaaGreatDoorLc
set_option linter.unusedVariables false
set_option linter.unusedSimpArgs false
namespace Go.Proofs.YtioafciifiggaaaGreatDoor
open Go.Proofs Go.AL
set_option maxRecDepth 100000
set_option maxHeartbeats 1000000
attribute [local irreducible] endA AW aops thenA blockA hold
abbrev Wrt:=Int×Int×List Sec
def zWr:Wrt:=(0,0,[])
theorem gW(l:List Wrt)(k:Nat)(h:k<l.length):(encL opRow l)[k]? =some (opRow (l.getD k zWr)):=encL_get zWr h
theorem szs_ok{sz:List Int}(h:sizesE sz=0){v:Nat}(hv:v<sz.length):1≤sz.getD v 0∧sz.getD v 0≤4096:=by
 obtain⟨h1,h2,h3⟩:=sizes_ok h;exact h3 _ (getD_mem' 0 hv)
theorem fit_ok{sz:List Int}{w:Wrt}(h:sizesE sz=0)(hf:fitE sz w=0):0≤w.1∧w.1.toNat<sz.length∧1≤w.2.2.length∧0≤w.2.1∧w.2.1+w.2.2.length≤sz.getD w.1.toNat 0∧w.2.1+w.2.2.length≤4096:=by
 unfold fitE at hf;by_cases g1:w.1<0∨(sz.length:Int)≤w.1
 ·rw[if_pos g1]at hf;exact absurd hf (by decide)
 rw[if_neg g1]at hf;by_cases g2:w.2.2.length=0
 ·rw[if_pos g2]at hf;exact absurd hf (by decide)
 rw[if_neg g2]at hf;by_cases g3:w.2.1<0∨sz.getD w.1.toNat 0-w.2.2.length<w.2.1
 ·rw[if_pos g3]at hf;exact absurd hf (by decide)
 have g4:w.1.toNat<sz.length:=by omega
 have:=szs_ok h g4;exact⟨by omega,g4,by omega,by omega,by omega,by omega⟩
def ordB(x w:Wrt):Bool:=decide (w.1<x.1)||(decide (w.1=x.1)&&decide (w.2.1≤x.2.1+x.2.2.length))
def cwG(sz:List Int):Option Wrt→List Wrt→Int
 |_,[]=>0
 |p,w::r=>if fitE sz w=0 then(match p with|none=>cwG sz (some w) r|some x=>if ordB x w=true then 3 else cwG sz (some w) r)else fitE sz w
def prevO(l:List Wrt):Nat→Option Wrt
 |0=>none
 |k+1=>some (l.getD k zWr)
theorem chk1_p(im:List (List Sec))(w:Wrt)(hl:im.length≤1000)(hv:∀v∈im,v.length≤1000000)(hw:w.2.2.length≤1000000)(h0:sizesE (szOf im)=0):PC 234 [.agg (opRow w),.sptr [[.snap (encL volRow im)]] 0 0] (zV (fitE (szOf im) w)):=by
 refine pstart Tryz.func234 Tryz.ntmps234 (.c _) ?_;have c1:=fitsI_p im w hl hv hw;rw[if_pos h0]at c1;unfold opRow at*;refine zgo ?_;exact zfin
theorem cw_p(im:List (List Sec))(l:List Wrt)(hl:im.length≤1000)(hv:∀v∈im,v.length≤1000000)(hw:∀w∈l,w.2.2.length≤1000000)(hn:l.length≤1000000)(h0:sizesE (szOf im)=0):PC 233 [.snap (encL opRow l),.fn (.func 234) [] [.sptr [[.snap (encL volRow im)]] 0 0]] (zV (cwG (szOf im) none l)):=by
 refine pstart Tryz.func233 Tryz.ntmps233 (.c _) ?_;generalize hF:cwG (szOf im) none l=F;have hg:=gW l;refine zgo ?_;refine zfor (α:=Unit) l.length (fun k _=> [(11,true,zV k),(10,true,zV l.length),(9,true,.snap (encL opRow l)),(1,true,.fn (.func 234) [] [.sptr [[.snap (encL volRow im)]] 0 0]),(0,true,.snap (encL opRow l))]) (fun _ _=> []) (fun k m _=>cwG (szOf im) (prevO l k) (l.drop k)=F∧(0<k→fitE (szOf im) (l.getD (k-1) zWr)=0)) ⟨9,(),⟨hF,fun h=>by omega⟩,zholds⟩ (fun k m _ hk hR=> ?_) (fun m _ hR=> ?_)
 ·obtain⟨r1,r2⟩:=hR
  have c1:=chk1_p im (l.getD k zWr) hl hv (hw _ (getD_mem' zWr hk)) h0;have hgk:=hg k hk;rw[drop_at zWr hk]at r1;by_cases g1:fitE (szOf im) (l.getD k zWr)=0
  ·have f1:=fit_ok h0 g1
   rw[g1]at c1;cases k with
   |zero=>
    have r3:Lat (cwG (szOf im) (prevO l (0+1)) (l.drop (0+1))=F∧(0<0+1→fitE (szOf im) (l.getD (0+1-1) zWr)=0)):=⟨by
     simp only[cwG,prevO]at r1;rw[if_pos g1]at r1
     exact r1,fun _=>g1⟩
    clear r1 r2 hF hg hw f1 g1;generalize l.getD 0 zWr=w at*;obtain⟨v,s,d⟩:=w;have hgk2:(encL opRow l)[0]? =some [zV v,zV s,.snap (encL encSec d)]:=hgk;clear hgk;unfold opRow at c1;refine zgo ?_;exact⟨m+30,(),r3.out,zholds⟩
   |succ j=>
    have f2:=fit_ok h0 (r2 (by omega))
    have hgj:=hg j (by omega)
    have e1:j+1-1=j:=by omega
    rw[e1]at f2;have e2:((j+1:Nat):Int)-1=(j:Int):=by omega
    have e3:((j:Int)+1)-1=(j:Int):=by omega
    have hz:¬((j+1:Nat):Int)=0:=by omega
    simp only[cwG,prevO]at r1;rw[if_pos g1]at r1;by_cases g2:ordB (l.getD j zWr) (l.getD (j+1) zWr)=true
    ·rw[if_pos g2]at r1
     rw[←r1];clear r1 r2 hF hg hw g1;generalize l.getD j zWr=x at*;generalize l.getD (j+1) zWr=w at*;obtain⟨v,s,d⟩:=w;obtain⟨v2,s2,d2⟩:=x;have hgk2:(encL opRow l)[j+1]? =some [zV v,zV s,.snap (encL encSec d)]:=hgk;have hgj2:(encL opRow l)[j]? =some [zV v2,zV s2,.snap (encL encSec d2)]:=hgj;clear hgk hgj;unfold opRow at c1;unfold ordB at g2;simp only[]at*;have w1:IntKind.i64.wrap (s2+(d2.length:Int))=s2+d2.length:=IntWalk.i64_in _ (by omega)
     simp only[Bool.or_eq_true,Bool.and_eq_true,decide_eq_true_eq]at g2;by_cases g3:v<v2
     ·clear g2
      refine zgo ?_;exact zfin
     ·have g4:v=v2:=by omega
      have g5:s≤s2+d2.length:=by omega
      subst g4;clear g2;refine zgo ?_;exact zfin
    ·rw[if_neg g2]at r1
     have r3:Lat (cwG (szOf im) (prevO l (j+1+1)) (l.drop (j+1+1))=F∧(0<j+1+1→fitE (szOf im) (l.getD (j+1+1-1) zWr)=0)):=⟨r1,fun _=>g1⟩
     clear r1 r2 hF hg hw g1;generalize l.getD j zWr=x at*;generalize l.getD (j+1) zWr=w at*;obtain⟨v,s,d⟩:=w;obtain⟨v2,s2,d2⟩:=x;have hgk2:(encL opRow l)[j+1]? =some [zV v,zV s,.snap (encL encSec d)]:=hgk;have hgj2:(encL opRow l)[j]? =some [zV v2,zV s2,.snap (encL encSec d2)]:=hgj;clear hgk hgj;unfold opRow at c1;unfold ordB at g2;simp only[]at*;have w1:IntKind.i64.wrap (s2+(d2.length:Int))=s2+d2.length:=IntWalk.i64_in _ (by omega)
     simp only[Bool.or_eq_true,Bool.and_eq_true,decide_eq_true_eq]at g2;have g3:¬v<v2:=by omega
     by_cases g4:v=v2
     ·have g5:¬s≤s2+d2.length:=by omega
      subst g4;clear g2;refine zgo ?_;exact⟨m+30,(),r3.out,zholds⟩
     ·clear g2
      refine zgo ?_;exact⟨m+30,(),r3.out,zholds⟩
  ·simp only[cwG]at r1
   rw[if_neg g1]at r1;rw[←r1];clear r1 r2 hF hg hw;generalize fitE (szOf im) (l.getD k zWr)=e at*;generalize l.getD k zWr=w at*;obtain⟨v,s,d⟩:=w;have hgk2:(encL opRow l)[k]? =some [zV v,zV s,.snap (encL encSec d)]:=hgk;clear hgk;unfold opRow at c1;refine zgo ?_;exact zfin
 ·have r1:=hR.1
  rw[List.drop_length]at r1;rw[←r1];clear r1 hR hF;refine zgo ?_;exact zfin
end Go.Proofs.YtioafciifiggaaaGreatDoor
namespace Go.Proofs.YtioafciifiggaaaGreatDoor
open Go.Proofs Go.AL
set_option maxRecDepth 100000
set_option maxHeartbeats 1000000
attribute [local irreducible] endA AW aops thenA blockA hold
theorem szOf_new{sz:List Int}(h:sizesE sz=0):szOf (newIm sz)=sz:=by
 obtain⟨h1,h2,h3⟩:=sizes_ok h;unfold szOf newIm;rw[if_pos h,List.map_map]
 have:∀l:List Int,(∀x∈l,1≤x∧x≤4096)→l.map ((fun v:List Sec=>(v.length:Int))∘zeros)=l:=by
  intro l
  induction l with
  |nil=>intro _;rfl
  |cons x l ih=>
   intro h;have hx:=h x (by simp)
   rw[List.map_cons,ih fun y hy=>h y (by simp[hy])]
   congr 1;simp only[Function.comp,zeros,List.length_replicate];omega
 exact this sz h3
theorem newIm_len{sz:List Int}(h:sizesE sz=0):(newIm sz).length≤1000∧∀v∈newIm sz,v.length≤1000000:=by
 obtain⟨h1,h2,h3⟩:=sizes_ok h;unfold newIm;rw[if_pos h];refine⟨by rw[List.length_map];omega,fun v hv=> ?_⟩
 simp only[List.mem_map]at hv;obtain⟨x,hx,rfl⟩:=hv;have:=h3 x hx;simp only[zeros,List.length_replicate];omega
def cwE(sz:List Int)(l:List Wrt):Int:=if sizesE sz=0 then cwG sz none l else sizesE sz
theorem cCheck_p(l:List Wrt)(sz:List Int)(hl:sz.length≤1000000)(hw:∀w∈l,w.2.2.length≤1000000)(hn:l.length≤1000000):PC 189 [.snap (encL opRow l),.snap (encL intRow sz)] (zV (cwE sz l)):=by
 refine pstart Tryz.func189 Tryz.ntmps189 (.c _) ?_;have c1:=new_p sz hl;unfold cwE;by_cases g:sizesE sz=0
 ·obtain⟨n1,n2⟩:=newIm_len g
  have e:=szOf_new g;have c2:=cw_p (newIm sz) l n1 n2 hw hn (by rw[e];exact g)
  rw[e]at c2;rw[if_pos g];rw[g]at c1;clear n2 hw e;generalize cwG sz none l=F at*;generalize newIm sz=im at*;refine zgo ?_;exact zfin
 ·rw[if_neg g]
  clear hw;generalize newIm sz=im at*;refine zgo ?_;exact zfin
theorem rfits_p(sz:List Int)(w:Wrt)(h0:sizesE sz=0)(hw:w.2.2.length≤1000000):PC 288 [.snap (encL intRow sz),.agg (opRow w)] (zV (fitE sz w)):=by
 refine pstart Tryz.func288 Tryz.ntmps288 (.c _) ?_;have hg:=gI sz;obtain⟨z1,z2,z3⟩:=sizes_ok h0;obtain⟨v,s,l⟩:=w;unfold opRow;simp only[]at*;unfold fitE;simp only[];by_cases g1:v<0
 ·rw[if_pos (.inl g1)]
  clear z3;refine zgo ?_;exact zfin
 by_cases g2:(sz.length:Int)≤v
 ·rw[if_pos (.inr g2)]
  clear z3;refine zgo ?_;exact zfin
 rw[if_neg (by omega)]
 by_cases g3:l.length=0
 ·rw[if_pos g3]
  have g4:(l.length:Int)=0:=by omega
  clear z3;refine zgo ?_;exact zfin
 rw[if_neg g3];have g4:¬(l.length:Int)=0:=by omega
 obtain⟨n,rfl⟩:=Int.eq_ofNat_of_zero_le (by omega:0≤v)
 have g5:n<sz.length:=by omega
 rw[Int.toNat_natCast];have hvn:=szs_ok h0 g5;have hgn:=hg n g5;obtain⟨hv1,hv2⟩:=hvn;clear hg z3;generalize sz.getD n 0=V at*;by_cases g6:s<0
 ·rw[if_pos (.inl g6)]
  refine zgo ?_;exact zfin
 by_cases g7:V≤s
 ·rw[if_pos (by omega)]
  refine zgo ?_;exact zfin
 have w1:IntKind.i64.wrap (V-s)=V-s:=IntWalk.i64_in _ (by omega)
 by_cases g8:V-s<(l.length:Int)
 ·rw[if_pos (by omega)]
  refine zgo ?_;exact zfin
 rw[if_neg (by omega)]
 refine zgo ?_;exact zfin
theorem rcw_p(sz:List Int)(l:List Wrt)(hl:sz.length≤1000000)(hw:∀w∈l,w.2.2.length≤1000000)(hn:l.length≤1000000):PC 261 [.snap (encL opRow l),.snap (encL intRow sz)] (zV (cwE sz l)):=by
 refine pstart Tryz.func261 Tryz.ntmps261 (.c _) ?_;have c0:=rsizes_p sz hl;unfold cwE;by_cases h0:sizesE sz=0
 case neg=>
  rw[if_neg h0];clear hw;refine zgo ?_;exact zfin
 rw[if_pos h0];rw[h0]at c0;generalize hF:cwG sz none l=F;have hg:=gW l;refine zgo ?_;refine zfor (α:=Unit) l.length (fun k _=> [(6,true,zV k),(1,true,.snap (encL intRow sz)),(0,true,.snap (encL opRow l))]) (fun _ _=> []) (fun k m _=>cwG sz (prevO l k) (l.drop k)=F∧(0<k→fitE sz (l.getD (k-1) zWr)=0)) ⟨9,(),⟨hF,fun h=>by omega⟩,zholds⟩ (fun k m _ hk hR=> ?_) (fun m _ hR=> ?_)
 ·obtain⟨r1,r2⟩:=hR
  have c1:=rfits_p sz (l.getD k zWr) h0 (hw _ (getD_mem' zWr hk));have hgk:=hg k hk;rw[drop_at zWr hk]at r1;by_cases g1:fitE sz (l.getD k zWr)=0
  ·have f1:=fit_ok h0 g1
   rw[g1]at c1;cases k with
   |zero=>
    have r3:Lat (cwG sz (prevO l (0+1)) (l.drop (0+1))=F∧(0<0+1→fitE sz (l.getD (0+1-1) zWr)=0)):=⟨by
     simp only[cwG,prevO]at r1;rw[if_pos g1]at r1
     exact r1,fun _=>g1⟩
    clear r1 r2 hF hg hw f1 g1;generalize l.getD 0 zWr=w at*;obtain⟨v,s,d⟩:=w;have hgk2:(encL opRow l)[0]? =some [zV v,zV s,.snap (encL encSec d)]:=hgk;clear hgk;unfold opRow at c1;refine zgo ?_;exact⟨m+60,(),r3.out,zholds⟩
   |succ j=>
    have f2:=fit_ok h0 (r2 (by omega))
    have hgj:=hg j (by omega)
    have e1:j+1-1=j:=by omega
    rw[e1]at f2;have e2:((j+1:Nat):Int)-1=(j:Int):=by omega
    have e3:((j:Int)+1)-1=(j:Int):=by omega
    have hz:¬((j+1:Nat):Int)=0:=by omega
    simp only[cwG,prevO]at r1;rw[if_pos g1]at r1;by_cases g2:ordB (l.getD j zWr) (l.getD (j+1) zWr)=true
    ·rw[if_pos g2]at r1
     rw[←r1];clear r1 r2 hF hg hw g1;generalize l.getD j zWr=x at*;generalize l.getD (j+1) zWr=w at*;obtain⟨v,s,d⟩:=w;obtain⟨v2,s2,d2⟩:=x;have hgk2:(encL opRow l)[j+1]? =some [zV v,zV s,.snap (encL encSec d)]:=hgk;have hgj2:(encL opRow l)[j]? =some [zV v2,zV s2,.snap (encL encSec d2)]:=hgj;clear hgk hgj;unfold opRow at c1;unfold ordB at g2;simp only[]at*;have w1:IntKind.i64.wrap (s2+(d2.length:Int))=s2+d2.length:=IntWalk.i64_in _ (by omega)
     have w2:IntKind.i64.wrap (s2+(d2.length:Int)+1)=s2+d2.length+1:=IntWalk.i64_in _ (by omega)
     simp only[Bool.or_eq_true,Bool.and_eq_true,decide_eq_true_eq]at g2;by_cases g3:v<v2
     ·clear g2
      refine zgo ?_;exact zfin
     ·have g4:v=v2:=by omega
      have g5:s<s2+d2.length+1:=by omega
      subst g4;clear g2;refine zgo ?_;exact zfin
    ·rw[if_neg g2]at r1
     have r3:Lat (cwG sz (prevO l (j+1+1)) (l.drop (j+1+1))=F∧(0<j+1+1→fitE sz (l.getD (j+1+1-1) zWr)=0)):=⟨r1,fun _=>g1⟩
     clear r1 r2 hF hg hw g1;generalize l.getD j zWr=x at*;generalize l.getD (j+1) zWr=w at*;obtain⟨v,s,d⟩:=w;obtain⟨v2,s2,d2⟩:=x;have hgk2:(encL opRow l)[j+1]? =some [zV v,zV s,.snap (encL encSec d)]:=hgk;have hgj2:(encL opRow l)[j]? =some [zV v2,zV s2,.snap (encL encSec d2)]:=hgj;clear hgk hgj;unfold opRow at c1;unfold ordB at g2;simp only[]at*;have w1:IntKind.i64.wrap (s2+(d2.length:Int))=s2+d2.length:=IntWalk.i64_in _ (by omega)
     have w2:IntKind.i64.wrap (s2+(d2.length:Int)+1)=s2+d2.length+1:=IntWalk.i64_in _ (by omega)
     simp only[Bool.or_eq_true,Bool.and_eq_true,decide_eq_true_eq]at g2;have g3:¬v<v2:=by omega
     by_cases g4:v=v2
     ·have g5:¬s<s2+d2.length+1:=by omega
      subst g4;clear g2;refine zgo ?_;exact⟨m+60,(),r3.out,zholds⟩
     ·clear g2
      refine zgo ?_;exact⟨m+60,(),r3.out,zholds⟩
  ·simp only[cwG]at r1
   rw[if_neg g1]at r1;rw[←r1];clear r1 r2 hF hg hw;generalize fitE sz (l.getD k zWr)=e at*;generalize l.getD k zWr=w at*;obtain⟨v,s,d⟩:=w;have hgk2:(encL opRow l)[k]? =some [zV v,zV s,.snap (encL encSec d)]:=hgk;clear hgk;unfold opRow at c1;refine zgo ?_;exact zfin
 ·have r1:=hR.1
  rw[List.drop_length]at r1;rw[←r1];clear r1 hR hF;refine zgo ?_;exact zfin
structure Cyc where
 base:Int
 number:Int
 time:Int
 pos:List Int
 writes:List Wrt
def encC(c:Cyc):List AV:=[zV c.base,zV c.number,zV c.time,.snap (encL intRow c.pos),.snap (encL opRow c.writes)]
def cycE(c:Cyc)(sz:List Int):Int:=
 if sizesE sz=0 then
  if c.base<0∨c.number≤c.base∨1073741824<c.number then 2
  else if c.time<0∨1073741824<c.time then 24
  else if posE c.pos=0 then cwE sz c.writes else posE c.pos
 else sizesE sz
def CycLen(c:Cyc):Prop:=c.pos.length≤1000000∧c.writes.length≤1000000∧∀w∈c.writes,w.2.2.length≤1000000
theorem cycheck_p(c:Cyc)(sz:List Int)(hl:sz.length≤1000000)(hc:CycLen c):PC 137 [.agg (encC c),.snap (encL intRow sz)] (zV (cycE c sz)):=by
 refine pstart Tryz.func137 Tryz.ntmps137 (.c _) ?_;obtain⟨h1,h2,h3⟩:=hc;have c1:=new_p sz hl;have c2:=in_p c.time 0 1073741824;have c3:=positions_p c.pos h1;have c4:=cCheck_p c.writes sz hl h3 h2;unfold cycE;clear h3;obtain⟨b,n,t,p,w⟩:=c;unfold encC;unfold inB at c2;simp only[]at*;generalize newIm sz=im at*;generalize cwE sz w=cw at*;generalize posE p=pe at*;generalize sizesE sz=se at*;by_cases g1:se=0
 ·rw[if_pos g1]
  subst g1;by_cases g2:b<0
  ·rw[if_pos (.inl g2)]
   refine zgo ?_;exact zfin
  by_cases g3:n≤b
  ·rw[if_pos (.inr (.inl g3))]
   refine zgo ?_;exact zfin
  by_cases g4:1073741824<n
  ·rw[if_pos (.inr (.inr g4))]
   refine zgo ?_;exact zfin
  rw[if_neg (by omega)]
  by_cases g5:t<0
  ·rw[if_pos (.inl g5)]
   rw[dec_leF (by omega)]at c2
   simp only[Bool.false_and]at c2;refine zgo ?_;exact zfin
  by_cases g6:1073741824<t
  ·rw[if_pos (.inr g6)]
   rw[dec_leT (by omega),dec_leF (by omega)]at c2
   simp only[Bool.and_false]at c2;refine zgo ?_;exact zfin
  rw[if_neg (by omega)]
  rw[dec_leT (by omega),dec_leT (by omega)]at c2
  simp only[Bool.and_true]at c2;by_cases g7:pe=0
  ·rw[if_pos g7]
   subst g7;refine zgo ?_;exact zfin
  ·rw[if_neg g7]
   refine zgo ?_;exact zfin
 ·rw[if_neg g1]
  refine zgo ?_;exact zfin
theorem rcycheck_p(c:Cyc)(sz:List Int)(hl:sz.length≤1000000)(hc:CycLen c):PC 223 [.agg (encC c),.snap (encL intRow sz)] (zV (cycE c sz)):=by
 refine pstart Tryz.func223 Tryz.ntmps223 (.c _) ?_;obtain⟨h1,h2,h3⟩:=hc;have c1:=rsizes_p sz hl;have c3:=rpos_p c.pos h1;have c4:=rcw_p sz c.writes hl h3 h2;unfold cycE posE;clear h3;obtain⟨b,n,t,p,w⟩:=c;unfold encC;simp only[]at*;generalize cwE sz w=cw at*;generalize sizesE sz=se at*;by_cases g1:se=0
 ·rw[if_pos g1]
  subst g1;by_cases g2:b<0
  ·rw[if_pos (.inl g2)]
   refine zgo ?_;exact zfin
  by_cases g3:n≤b
  ·rw[if_pos (.inr (.inl g3))]
   refine zgo ?_;exact zfin
  by_cases g4:1073741824<n
  ·rw[if_pos (.inr (.inr g4))]
   refine zgo ?_;exact zfin
  rw[if_neg (by omega)]
  by_cases g5:t<0
  ·rw[if_pos (.inl g5)]
   refine zgo ?_;exact zfin
  by_cases g6:1073741824<t
  ·rw[if_pos (.inr g6)]
   refine zgo ?_;exact zfin
  rw[if_neg (by omega)]
  by_cases g7:8<p.length
  ·have g8:(8:Int)<p.length:=by omega
   rw[if_pos g7,if_neg (by decide)]
   refine zgo ?_;exact zfin
  have g8:¬(8:Int)<p.length:=by omega
  rw[if_neg g7];cases h:p.any badPos with
  |true=>
   rw[h,if_pos rfl]at c3;rw[if_pos rfl,if_neg (by decide)]
   refine zgo ?_;exact zfin
  |false=>
   rw[h,if_neg (by decide)]at c3
   rw[if_pos (by decide)]
   refine zgo ?_;exact zfin
 ·rw[if_neg g1]
  refine zgo ?_;exact zfin
end Go.Proofs.YtioafciifiggaaaGreatDoor
namespace Go.Proofs.YtioafciifiggaaaGreatDoor
open Go.Proofs Go.AL
set_option maxRecDepth 100000
set_option maxHeartbeats 1000000
attribute [local irreducible] endA AW aops thenA blockA hold
theorem wkr_app{a b c d:List (List AV)}(h:Wkr a b)(k:Wkr c d):Wkr (a++c) (b++d):=by
 refine⟨by simp[h.1,k.1],fun i x y hx hy=> ?_⟩
 by_cases hi:i<a.length
 ·rw[List.getElem?_append_left hi]at hx
  rw[List.getElem?_append_left (by rw[←h.1];exact hi)]at hy
  exact h.2 i x y hx hy
 ·rw[List.getElem?_append_right (by omega)]at hx
  rw[List.getElem?_append_right (by rw[←h.1];omega),←h.1]at hy
  exact k.2 _ x y hx hy
theorem opsync(L:List (Int×Int×List Sec)):Wkr (encL opRow L++[[zV 1,zV 0,.c (.slice none 0 0)]]) (encL opRow (L++[(1,0,[])])):=by
 rw[show encL opRow (L++[(1,0,[])])=encL opRow L++[[zV 1,zV 0,.snap []]]from(encL_snoc L (1,0,[])).symm]
 exact wkr_app (wkr_refl _) (wkr_cons (wks_cons (.refl _) (wks_cons (.refl _) (wks_cons .nil wks_nil))) wkr_nil)
end Go.Proofs.YtioafciifiggaaaGreatDoor
namespace Go.Proofs.YtioafciifiggaaaGreatDoor
open Go.Proofs Go.AL
set_option maxRecDepth 100000
set_option maxHeartbeats 1000000
attribute [local irreducible] endA AW aops thenA blockA hold
def DskOK(d:Dsk):Prop:=(∀s∈d.st,SecOK s)∧∀c∈d.ca,SecOK c.2
theorem newL_ok:∀(ca:List (Int×Sec)) (st:List Sec),(∀s∈st,SecOK s)→(∀c∈ca,SecOK c.2)→∀s∈newL st ca,SecOK s
 |[],st,h,_,s,hs=>h s hs
 |c::ca,st,h,h2,s,hs=>newL_ok ca (st.set c.1.toNat c.2) (fun x hx=>by
   rcases List.mem_or_eq_of_mem_set hx with hx|rfl
   ·exact h x hx
   ·exact h2 c (by simp)) (fun x hx=>h2 x (by simp[hx])) s hs
theorem DskOK.new{d:Dsk}(h:DskOK d):∀s∈newL d.st d.ca,SecOK s:=newL_ok _ _ h.1 h.2
theorem vg_ok(n:Nat):∀x∈vg n,ByteOK x:=by
 induction n using Nat.strongRecOn with
 |ind n ih=>
  intro x hx;by_cases h:n<128
  ·rw[vg_lt h]at hx
   simp only[List.mem_cons,List.not_mem_nil,or_false]at hx;subst hx;exact⟨by omega,by omega⟩
  ·rw[vg_ge h]at hx
   simp only[List.mem_cons]at hx;rcases hx with rfl|hx
   ·exact⟨by omega,by omega⟩
   ·exact ih _ (by omega) x hx
end Go.Proofs.YtioafciifiggaaaGreatDoor
namespace Go.Proofs.YtioafciifiggaaaGreatDoor
open Go.Proofs Go.AL Go.RowKit Go.Maps Go.Sort Go.Shelf
shelf_lay_g SlLaysZI.n7 Ggz 7 at Tryz 134 as Tryz.keysA
shelf_lay_g SlLaysZI.n6 Ggz 6 at Tryz 133 as Tryz.sortedA
shelf_lay_g SlLaysM.n5 Slgm 5 at Tryz 184 as Tryz.sortA
end Go.Proofs.YtioafciifiggaaaGreatDoor
namespace Go.Proofs.YtioafciifiggaaaGreatDoor
open Go.Proofs Go.AL
set_option maxRecDepth 100000
set_option maxHeartbeats 1000000
attribute [local irreducible] endA AW aops thenA blockA hold
theorem zholdsB{σ:AS}{env:List (Nat×Bool×AV)}{N:Nat}{G:Nat→Option Blk}{T:List (Nat×Option Blk)}(w:Holds σ env ⟨N,tabB G T⟩:=by
  ((repeat (refine holds_cons (by first|rfl|(simp(disch:=omega) only[go_sem, *];done)|(simp(disch:=omega) only[go_sem, *];rfl)) ?_));(refine holds_nil (by simp only[];omega) ?_);(refine subB (by assumption) ?_ ?_);(next=>((repeat (first|refine sB_cons (by first|rfl|(simp(disch:=omega) only[go_sem, *];done)|(simp(disch:=omega) only[go_sem, *];rfl)) ?_|refine sB_none ?_));exact sB_nil));(next=>(simp only[keysOK,memK,or_false,false_or,or_true,true_or,and_true,true_and,Nat.le_refl]<;>omega)))):Holds σ env ⟨N,tabB G T⟩:=w
abbrev nilV:AV:= .c (.slice none 0 0)
end Go.Proofs.YtioafciifiggaaaGreatDoor
namespace Go.Proofs.YtioafciifiggaaaGreatDoor
open Go.Proofs Go.AL
set_option maxRecDepth 100000
set_option maxHeartbeats 1000000
attribute [local irreducible] endA AW aops thenA blockA hold
abbrev failV(e:Int):Value:= .iface 362 (.agg #[.int .i64 e])
abbrev XC(n:FuncId)(args:List AV)(x:Value):Prop:=XCall Tryz.prog n args x
theorem demand_t(e:Int):PC 205 [bV true,zV e] (.tup []):=by
 refine pstart Tryz.func205 Tryz.ntmps205 (.tup _ (by simp)) ?_
 refine zgo ?_;exact zfin
theorem demand_x(e:Int):XC 205 [bV false,zV e] (failV e):=by
 refine xstart Tryz.func205 Tryz.ntmps205 ?_;have s1:StopAt 1 3 (failV e):=⟨⟩;refine zgoX ?_;rfl
theorem pass_t:PC 206 [zV 0] (.tup []):=by
 refine pstart Tryz.func206 Tryz.ntmps206 (.tup _ (by simp)) ?_
 have c1:=demand_t 0;refine zgo ?_;exact zfin
theorem pass_x(e:Int)(he:¬e=0):XC 206 [zV e] (failV e):=by
 refine xstart Tryz.func206 Tryz.ntmps206 ?_;have g:(e==0)=false:=by simp[he]
 have c1:=demand_x e;have s1:StopAt 0 3 (failV e):=⟨⟩;clear he;refine zgoX ?_;rfl
theorem caught_p(e:Int):PC 204 [.c (failV e)] (zV e):=by
 refine pstart Tryz.func204 Tryz.ntmps204 (.c _) ?_;refine zgo ?_;exact zfin
end Go.Proofs.YtioafciifiggaaaGreatDoor
namespace Go.Proofs.YtioafciifiggaaaGreatDoor
open Go.Proofs Go.AL
set_option maxRecDepth 100000
set_option maxHeartbeats 1000000
attribute [local irreducible] endA AW aops thenA blockA hold
theorem decc_n(i j N:Nat)(G:Nat→Option Blk):DCall Tryz.prog 203 [.ptr i 0 0,.ptr j 0 0] ⟨N,G⟩ none (fun H'=>H'=⟨N,G⟩):=by
 refine dclstart Tryz.func203 Tryz.ntmps203 ?_;refine zgo ?_;exact⟨.inl rfl,⟨_,rfl⟩,rfl⟩
theorem decc_x(e:Int)(N:Nat)(G:Nat→Option Blk)(x0 x1 x2 x3 x4 a:AV):
  DCall Tryz.prog 203 [.ptr 0 0 0,.ptr 1 0 0] ⟨N,tabB G [(0,some (.cells 79 5 [[x0,x1,x2,x3,x4]] true false)),(1,some (.cells 38 1 [[a]] true false))]⟩ (some (failV e))
   (fun H'=>H'=⟨N+1+1,tabB G [(0,some (.cells 79 5 [[zV 0,zV 0,zV 0,.c (.slice none 0 0),.c (.slice none 0 0)]] true false)),(1,some (.cells 38 1 [[zV e]] true false))]⟩):=by
 refine dclstart Tryz.func203 Tryz.ntmps203 ?_;have c1:=caught_p e;refine zgo ?_;exact⟨.inl rfl,⟨_,rfl⟩,rfl⟩
end Go.Proofs.YtioafciifiggaaaGreatDoor
