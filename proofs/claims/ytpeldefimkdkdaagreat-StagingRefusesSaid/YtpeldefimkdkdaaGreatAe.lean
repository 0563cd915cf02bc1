/- Staging: contracts of its functions (Ae). No condition but those named. -/
import Derived.Test.YtpeldefimkdkdaaGreatAd
import Derived.Test.YtpeldefimkdkdaaGreatLe
set_option linter.unusedVariables false
set_option linter.unusedSimpArgs false
namespace Go.Proofs.YtpeldefimkdkdaaGreat
open Go.Proofs Go.AL
set_option maxRecDepth 100000
set_option maxHeartbeats 1000000
attribute [local irreducible] endA AW aops thenA blockA hold
theorem szOf_new{sz:List Int}(h:sizesE sz=0):szOf (newIm sz)=sz:=by
 obtain⟨h1,h2,h3⟩:=sizes_ok h;unfold szOf newIm;rw[if_pos h,List.map_map]
 have:∀l:List Int,(∀x∈l,1≤x∧x≤4096)→l.map ((fun v:List Sec=>(v.length:Int))∘zeros)=l:=by
  intro l
  induction l with
  |nil=>intro _;rfl
  |cons x l ih=>
   intro h;have hx:=h x (by simp)
   rw[List.map_cons,ih fun y hy=>h y (by simp[hy])]
   congr 1;simp only[Function.comp,zeros,List.length_replicate];omega
 exact this sz h3
theorem newIm_len{sz:List Int}(h:sizesE sz=0):(newIm sz).length≤1000∧∀v∈newIm sz,v.length≤1000000:=by
 obtain⟨h1,h2,h3⟩:=sizes_ok h;unfold newIm;rw[if_pos h];refine⟨by rw[List.length_map];omega,fun v hv=> ?_⟩
 simp only[List.mem_map]at hv;obtain⟨x,hx,rfl⟩:=hv;have:=h3 x hx;simp only[zeros,List.length_replicate];omega
def cwE(sz:List Int)(l:List Wrt):Int:=if sizesE sz=0 then cwG sz none l else sizesE sz
theorem cCheck_p(l:List Wrt)(sz:List Int)(hl:sz.length≤1000000)(hw:∀w∈l,w.2.2.length≤1000000)(hn:l.length≤1000000):PC 145 [.snap (encL opRow l),.snap (encL intRow sz)] (zV (cwE sz l)):=by
 refine pstart Tryz.func145 Tryz.ntmps145 (.c _) ?_;have c1:=new_p sz hl;unfold cwE;by_cases g:sizesE sz=0
 ·obtain⟨n1,n2⟩:=newIm_len g
  have e:=szOf_new g;have c2:=cw_p (newIm sz) l n1 n2 hw hn (by rw[e];exact g)
  rw[e]at c2;rw[if_pos g];rw[g]at c1;clear n2 hw e;generalize cwG sz none l=F at*;generalize newIm sz=im at*;refine zgo ?_;exact zfin
 ·rw[if_neg g]
  clear hw;generalize newIm sz=im at*;refine zgo ?_;exact zfin
theorem rfits_p(sz:List Int)(w:Wrt)(h0:sizesE sz=0)(hw:w.2.2.length≤1000000):PC 186 [.snap (encL intRow sz),.agg (opRow w)] (zV (fitE sz w)):=by
 refine pstart Tryz.func186 Tryz.ntmps186 (.c _) ?_;have hg:=gI sz;obtain⟨z1,z2,z3⟩:=sizes_ok h0;obtain⟨v,s,l⟩:=w;unfold opRow;simp only[]at*;unfold fitE;simp only[];by_cases g1:v<0
 ·rw[if_pos (.inl g1)]
  clear z3;refine zgo ?_;exact zfin
 by_cases g2:(sz.length:Int)≤v
 ·rw[if_pos (.inr g2)]
  clear z3;refine zgo ?_;exact zfin
 rw[if_neg (by omega)]
 by_cases g3:l.length=0
 ·rw[if_pos g3]
  have g4:(l.length:Int)=0:=by omega
  clear z3;refine zgo ?_;exact zfin
 rw[if_neg g3];have g4:¬(l.length:Int)=0:=by omega
 obtain⟨n,rfl⟩:=Int.eq_ofNat_of_zero_le (by omega:0≤v)
 have g5:n<sz.length:=by omega
 rw[Int.toNat_natCast];have hvn:=szs_ok h0 g5;have hgn:=hg n g5;obtain⟨hv1,hv2⟩:=hvn;clear hg z3;generalize sz.getD n 0=V at*;by_cases g6:s<0
 ·rw[if_pos (.inl g6)]
  refine zgo ?_;exact zfin
 by_cases g7:V≤s
 ·rw[if_pos (by omega)]
  refine zgo ?_;exact zfin
 have w1:IntKind.i64.wrap (V-s)=V-s:=IntWalk.i64_in _ (by omega)
 by_cases g8:V-s<(l.length:Int)
 ·rw[if_pos (by omega)]
  refine zgo ?_;exact zfin
 rw[if_neg (by omega)]
 refine zgo ?_;exact zfin
theorem rcw_p(sz:List Int)(l:List Wrt)(hl:sz.length≤1000000)(hw:∀w∈l,w.2.2.length≤1000000)(hn:l.length≤1000000):PC 168 [.snap (encL opRow l),.snap (encL intRow sz)] (zV (cwE sz l)):=by
 refine pstart Tryz.func168 Tryz.ntmps168 (.c _) ?_;have c0:=rsizes_p sz hl;unfold cwE;by_cases h0:sizesE sz=0
 case neg=>
  rw[if_neg h0];clear hw;refine zgo ?_;exact zfin
 rw[if_pos h0];rw[h0]at c0;generalize hF:cwG sz none l=F;have hg:=gW l;refine zgo ?_;refine zfor (α:=Unit) l.length (fun k _=> [(6,true,zV k),(1,true,.snap (encL intRow sz)),(0,true,.snap (encL opRow l))]) (fun _ _=> []) (fun k m _=>cwG sz (prevO l k) (l.drop k)=F∧(0<k→fitE sz (l.getD (k-1) zWr)=0)) ⟨9,(),⟨hF,fun h=>by omega⟩,zholds⟩ (fun k m _ hk hR=> ?_) (fun m _ hR=> ?_)
 ·obtain⟨r1,r2⟩:=hR
  have c1:=rfits_p sz (l.getD k zWr) h0 (hw _ (getD_mem' zWr hk));have hgk:=hg k hk;rw[drop_at zWr hk]at r1;by_cases g1:fitE sz (l.getD k zWr)=0
  ·have f1:=fit_ok h0 g1
   rw[g1]at c1;cases k with
   |zero=>
    have r3:Lat (cwG sz (prevO l (0+1)) (l.drop (0+1))=F∧(0<0+1→fitE sz (l.getD (0+1-1) zWr)=0)):=⟨by
     simp only[cwG,prevO]at r1;rw[if_pos g1]at r1
     exact r1,fun _=>g1⟩
    clear r1 r2 hF hg hw f1 g1;generalize l.getD 0 zWr=w at*;obtain⟨v,s,d⟩:=w;have hgk2:(encL opRow l)[0]? =some [zV v,zV s,.snap (encL encSec d)]:=hgk;clear hgk;unfold opRow at c1;refine zgo ?_;exact⟨m+60,(),r3.out,zholds⟩
   |succ j=>
    have f2:=fit_ok h0 (r2 (by omega))
    have hgj:=hg j (by omega)
    have e1:j+1-1=j:=by omega
    rw[e1]at f2;have e2:((j+1:Nat):Int)-1=(j:Int):=by omega
    have e3:((j:Int)+1)-1=(j:Int):=by omega
    have hz:¬((j+1:Nat):Int)=0:=by omega
    simp only[cwG,prevO]at r1;rw[if_pos g1]at r1;by_cases g2:ordB (l.getD j zWr) (l.getD (j+1) zWr)=true
    ·rw[if_pos g2]at r1
     rw[←r1];clear r1 r2 hF hg hw g1;generalize l.getD j zWr=x at*;generalize l.getD (j+1) zWr=w at*;obtain⟨v,s,d⟩:=w;obtain⟨v2,s2,d2⟩:=x;have hgk2:(encL opRow l)[j+1]? =some [zV v,zV s,.snap (encL encSec d)]:=hgk;have hgj2:(encL opRow l)[j]? =some [zV v2,zV s2,.snap (encL encSec d2)]:=hgj;clear hgk hgj;unfold opRow at c1;unfold ordB at g2;simp only[]at*;have w1:IntKind.i64.wrap (s2+(d2.length:Int))=s2+d2.length:=IntWalk.i64_in _ (by omega)
     have w2:IntKind.i64.wrap (s2+(d2.length:Int)+1)=s2+d2.length+1:=IntWalk.i64_in _ (by omega)
     simp only[Bool.or_eq_true,Bool.and_eq_true,decide_eq_true_eq]at g2;by_cases g3:v<v2
     ·clear g2
      refine zgo ?_;exact zfin
     ·have g4:v=v2:=by omega
      have g5:s<s2+d2.length+1:=by omega
      subst g4;clear g2;refine zgo ?_;exact zfin
    ·rw[if_neg g2]at r1
     have r3:Lat (cwG sz (prevO l (j+1+1)) (l.drop (j+1+1))=F∧(0<j+1+1→fitE sz (l.getD (j+1+1-1) zWr)=0)):=⟨r1,fun _=>g1⟩
     clear r1 r2 hF hg hw g1;generalize l.getD j zWr=x at*;generalize l.getD (j+1) zWr=w at*;obtain⟨v,s,d⟩:=w;obtain⟨v2,s2,d2⟩:=x;have hgk2:(encL opRow l)[j+1]? =some [zV v,zV s,.snap (encL encSec d)]:=hgk;have hgj2:(encL opRow l)[j]? =some [zV v2,zV s2,.snap (encL encSec d2)]:=hgj;clear hgk hgj;unfold opRow at c1;unfold ordB at g2;simp only[]at*;have w1:IntKind.i64.wrap (s2+(d2.length:Int))=s2+d2.length:=IntWalk.i64_in _ (by omega)
     have w2:IntKind.i64.wrap (s2+(d2.length:Int)+1)=s2+d2.length+1:=IntWalk.i64_in _ (by omega)
     simp only[Bool.or_eq_true,Bool.and_eq_true,decide_eq_true_eq]at g2;have g3:¬v<v2:=by omega
     by_cases g4:v=v2
     ·have g5:¬s<s2+d2.length+1:=by omega
      subst g4;clear g2;refine zgo ?_;exact⟨m+60,(),r3.out,zholds⟩
     ·clear g2
      refine zgo ?_;exact⟨m+60,(),r3.out,zholds⟩
  ·simp only[cwG]at r1
   rw[if_neg g1]at r1;rw[←r1];clear r1 r2 hF hg hw;generalize fitE sz (l.getD k zWr)=e at*;generalize l.getD k zWr=w at*;obtain⟨v,s,d⟩:=w;have hgk2:(encL opRow l)[k]? =some [zV v,zV s,.snap (encL encSec d)]:=hgk;clear hgk;unfold opRow at c1;refine zgo ?_;exact zfin
 ·have r1:=hR.1
  rw[List.drop_length]at r1;rw[←r1];clear r1 hR hF;refine zgo ?_;exact zfin
structure Cyc where
 base:Int
 number:Int
 time:Int
 pos:List Int
 writes:List Wrt
def encC(c:Cyc):List AV:=[zV c.base,zV c.number,zV c.time,.snap (encL intRow c.pos),.snap (encL opRow c.writes)]
def cycE(c:Cyc)(sz:List Int):Int:=
 if sizesE sz=0 then
  if c.base<0∨c.number≤c.base∨1073741824<c.number then 2
  else if c.time<0∨1073741824<c.time then 24
  else if posE c.pos=0 then cwE sz c.writes else posE c.pos
 else sizesE sz
def CycLen(c:Cyc):Prop:=c.pos.length≤1000000∧c.writes.length≤1000000∧∀w∈c.writes,w.2.2.length≤1000000
theorem cycheck_p(c:Cyc)(sz:List Int)(hl:sz.length≤1000000)(hc:CycLen c):PC 106 [.agg (encC c),.snap (encL intRow sz)] (zV (cycE c sz)):=by
 refine pstart Tryz.func106 Tryz.ntmps106 (.c _) ?_;obtain⟨h1,h2,h3⟩:=hc;have c1:=new_p sz hl;have c2:=in_p c.time 0 1073741824;have c3:=positions_p c.pos h1;have c4:=cCheck_p c.writes sz hl h3 h2;unfold cycE;clear h3;obtain⟨b,n,t,p,w⟩:=c;unfold encC;unfold inB at c2;simp only[]at*;generalize newIm sz=im at*;generalize cwE sz w=cw at*;generalize posE p=pe at*;generalize sizesE sz=se at*;by_cases g1:se=0
 ·rw[if_pos g1]
  subst g1;by_cases g2:b<0
  ·rw[if_pos (.inl g2)]
   refine zgo ?_;exact zfin
  by_cases g3:n≤b
  ·rw[if_pos (.inr (.inl g3))]
   refine zgo ?_;exact zfin
  by_cases g4:1073741824<n
  ·rw[if_pos (.inr (.inr g4))]
   refine zgo ?_;exact zfin
  rw[if_neg (by omega)]
  by_cases g5:t<0
  ·rw[if_pos (.inl g5)]
   rw[dec_leF (by omega)]at c2
   simp only[Bool.false_and]at c2;refine zgo ?_;exact zfin
  by_cases g6:1073741824<t
  ·rw[if_pos (.inr g6)]
   rw[dec_leT (by omega),dec_leF (by omega)]at c2
   simp only[Bool.and_false]at c2;refine zgo ?_;exact zfin
  rw[if_neg (by omega)]
  rw[dec_leT (by omega),dec_leT (by omega)]at c2
  simp only[Bool.and_true]at c2;by_cases g7:pe=0
  ·rw[if_pos g7]
   subst g7;refine zgo ?_;exact zfin
  ·rw[if_neg g7]
   refine zgo ?_;exact zfin
 ·rw[if_neg g1]
  refine zgo ?_;exact zfin
theorem rcycheck_p(c:Cyc)(sz:List Int)(hl:sz.length≤1000000)(hc:CycLen c):PC 132 [.agg (encC c),.snap (encL intRow sz)] (zV (cycE c sz)):=by
 refine pstart Tryz.func132 Tryz.ntmps132 (.c _) ?_;obtain⟨h1,h2,h3⟩:=hc;have c1:=rsizes_p sz hl;have c3:=rpos_p c.pos h1;have c4:=rcw_p sz c.writes hl h3 h2;unfold cycE posE;clear h3;obtain⟨b,n,t,p,w⟩:=c;unfold encC;simp only[]at*;generalize cwE sz w=cw at*;generalize sizesE sz=se at*;by_cases g1:se=0
 ·rw[if_pos g1]
  subst g1;by_cases g2:b<0
  ·rw[if_pos (.inl g2)]
   refine zgo ?_;exact zfin
  by_cases g3:n≤b
  ·rw[if_pos (.inr (.inl g3))]
   refine zgo ?_;exact zfin
  by_cases g4:1073741824<n
  ·rw[if_pos (.inr (.inr g4))]
   refine zgo ?_;exact zfin
  rw[if_neg (by omega)]
  by_cases g5:t<0
  ·rw[if_pos (.inl g5)]
   refine zgo ?_;exact zfin
  by_cases g6:1073741824<t
  ·rw[if_pos (.inr g6)]
   refine zgo ?_;exact zfin
  rw[if_neg (by omega)]
  by_cases g7:8<p.length
  ·have g8:(8:Int)<p.length:=by omega
   rw[if_pos g7,if_neg (by decide)]
   refine zgo ?_;exact zfin
  have g8:¬(8:Int)<p.length:=by omega
  rw[if_neg g7];cases h:p.any badPos with
  |true=>
   rw[h,if_pos rfl]at c3;rw[if_pos rfl,if_neg (by decide)]
   refine zgo ?_;exact zfin
  |false=>
   rw[h,if_neg (by decide)]at c3
   rw[if_pos (by decide)]
   refine zgo ?_;exact zfin
 ·rw[if_neg g1]
  refine zgo ?_;exact zfin
end Go.Proofs.YtpeldefimkdkdaaGreat
namespace Go.Proofs.YtpeldefimkdkdaaGreat
open Go.Proofs Go.AL
set_option maxRecDepth 100000
set_option maxHeartbeats 1000000
attribute [local irreducible] endA AW aops thenA blockA hold
theorem wkr_app{a b c d:List (List AV)}(h:Wkr a b)(k:Wkr c d):Wkr (a++c) (b++d):=by
 refine⟨by simp[h.1,k.1],fun i x y hx hy=> ?_⟩
 by_cases hi:i<a.length
 ·rw[List.getElem?_append_left hi]at hx
  rw[List.getElem?_append_left (by rw[←h.1];exact hi)]at hy
  exact h.2 i x y hx hy
 ·rw[List.getElem?_append_right (by omega)]at hx
  rw[List.getElem?_append_right (by rw[←h.1];omega),←h.1]at hy
  exact k.2 _ x y hx hy
theorem opsync(L:List (Int×Int×List Sec)):Wkr (encL opRow L++[[zV 1,zV 0,.c (.slice none 0 0)]]) (encL opRow (L++[(1,0,[])])):=by
 rw[show encL opRow (L++[(1,0,[])])=encL opRow L++[[zV 1,zV 0,.snap []]]from(encL_snoc L (1,0,[])).symm]
 exact wkr_app (wkr_refl _) (wkr_cons (wks_cons (.refl _) (wks_cons (.refl _) (wks_cons .nil wks_nil))) wkr_nil)
end Go.Proofs.YtpeldefimkdkdaaGreat
namespace Go.Proofs.YtpeldefimkdkdaaGreat
open Go.Proofs Go.AL
set_option maxRecDepth 100000
set_option maxHeartbeats 1000000
attribute [local irreducible] endA AW aops thenA blockA hold
theorem vg_ok(n:Nat):∀x∈vg n,ByteOK x:=by
 induction n using Nat.strongRecOn with
 |ind n ih=>
  intro x hx;by_cases h:n<128
  ·rw[vg_lt h]at hx
   simp only[List.mem_cons,List.not_mem_nil,or_false]at hx;subst hx;exact⟨by omega,by omega⟩
  ·rw[vg_ge h]at hx
   simp only[List.mem_cons]at hx;rcases hx with rfl|hx
   ·exact⟨by omega,by omega⟩
   ·exact ih _ (by omega) x hx
end Go.Proofs.YtpeldefimkdkdaaGreat
namespace Go.Proofs.YtpeldefimkdkdaaGreat
open Go.Proofs Go.AL
set_option maxRecDepth 100000
set_option maxHeartbeats 1000000
attribute [local irreducible] endA AW aops thenA blockA hold
abbrev failV(e:Int):Value:= .iface 233 (.agg #[.int .i64 e])
abbrev XC(n:FuncId)(args:List AV)(x:Value):Prop:=XCall Tryz.prog n args x
theorem demand_t(e:Int):PC 124 [bV true,zV e] (.tup []):=by
 refine pstart Tryz.func124 Tryz.ntmps124 (.tup _ (by simp)) ?_
 refine zgo ?_;exact zfin
theorem demand_x(e:Int):XC 124 [bV false,zV e] (failV e):=by
 refine xstart Tryz.func124 Tryz.ntmps124 ?_;have s1:StopAt 1 3 (failV e):=⟨⟩;refine zgoX ?_;rfl
theorem pass_t:PC 126 [zV 0] (.tup []):=by
 refine pstart Tryz.func126 Tryz.ntmps126 (.tup _ (by simp)) ?_
 have c1:=demand_t 0;refine zgo ?_;exact zfin
theorem pass_x(e:Int)(he:¬e=0):XC 126 [zV e] (failV e):=by
 refine xstart Tryz.func126 Tryz.ntmps126 ?_;have g:(e==0)=false:=by simp[he]
 have c1:=demand_x e;have s1:StopAt 0 3 (failV e):=⟨⟩;clear he;refine zgoX ?_;rfl
theorem caught_p(e:Int):PC 123 [.c (failV e)] (zV e):=by
 refine pstart Tryz.func123 Tryz.ntmps123 (.c _) ?_;refine zgo ?_;exact zfin
end Go.Proofs.YtpeldefimkdkdaaGreat
namespace Go.Proofs.YtpeldefimkdkdaaGreat
open Go.Proofs Go.AL
set_option maxRecDepth 100000
set_option maxHeartbeats 1000000
attribute [local irreducible] endA AW aops thenA blockA hold
theorem decc_n(i j N:Nat)(G:Nat→Option Blk):DCall Tryz.prog 122 [.ptr i 0 0,.ptr j 0 0] ⟨N,G⟩ none (fun H'=>H'=⟨N,G⟩):=by
 refine dclstart Tryz.func122 Tryz.ntmps122 ?_;refine zgo ?_;exact⟨.inl rfl,⟨_,rfl⟩,rfl⟩
theorem decc_x(e:Int)(N:Nat)(G:Nat→Option Blk)(x0 x1 x2 x3 x4 a:AV):
  DCall Tryz.prog 122 [.ptr 0 0 0,.ptr 1 0 0] ⟨N,tabB G [(0,some (.cells 34 5 [[x0,x1,x2,x3,x4]] true false)),(1,some (.cells 35 1 [[a]] true false))]⟩ (some (failV e))
   (fun H'=>H'=⟨N+1+1,tabB G [(0,some (.cells 34 5 [[zV 0,zV 0,zV 0,.c (.slice none 0 0),.c (.slice none 0 0)]] true false)),(1,some (.cells 35 1 [[zV e]] true false))]⟩):=by
 refine dclstart Tryz.func122 Tryz.ntmps122 ?_;have c1:=caught_p e;refine zgo ?_;exact⟨.inl rfl,⟨_,rfl⟩,rfl⟩
end Go.Proofs.YtpeldefimkdkdaaGreat
namespace Go.Proofs.YtpeldefimkdkdaaGreat
open Go.Proofs Go.AL
set_option maxRecDepth 100000
set_option maxHeartbeats 1000000
attribute [local irreducible] endA AW aops thenA blockA hold
def sizeR(n:Int):Int:=if n<0∨4096<n then 0 else(n+10)/4
theorem rsize_p(n:Int):PC 86 [zV n] (zV (sizeR n)):=by
 refine pstart Tryz.func86 Tryz.ntmps86 (.c _) ?_;unfold sizeR;by_cases g1:n<0
 ·rw[if_pos (.inl g1)]
  refine zgo ?_;exact zfin
 ·by_cases g2:4096<n
  ·rw[if_pos (.inr g2)]
   refine zgo ?_;exact zfin
  ·rw[if_neg (by omega)]
   have h1:(7+n+3).tdiv 4=(n+10)/4:=by rw[Int.tdiv_eq_ediv_of_nonneg (by omega)];congr 1;omega
   refine zgo ?_;exact zfin
theorem size_p(n:Int):PC 134 [zV n] (zV (sizeR n)):=by
 refine pstart Tryz.func134 Tryz.ntmps134 (.c _) ?_;unfold sizeR;by_cases g1:n<0
 ·rw[if_pos (.inl g1)]
  refine zgo ?_;exact zfin
 ·by_cases g2:4096<n
  ·rw[if_pos (.inr g2)]
   refine zgo ?_;exact zfin
  ·rw[if_neg (by omega)]
   have h1:(3+n+4+4-1).tdiv 4=(n+10)/4:=by rw[Int.tdiv_eq_ediv_of_nonneg (by omega)];congr 1;omega
   refine zgo ?_;exact zfin
def validB(a b:Int):Bool:=decide (0≤a)&&decide (20≤b)&&decide (a≤4096)&&decide (b≤4096-a)
theorem rvalid_p(a b:Int):PC 85 [.agg [zV a,zV b]] (bV (validB a b)):=by
 refine pstart Tryz.func85 Tryz.ntmps85 (.c _) ?_;unfold validB;by_cases g1:0≤a
 ·by_cases g2:20≤b
  ·by_cases g3:b≤4096
   ·have h1:decide (a≤4096)=true∨decide (b≤4096-a)=false:=by
     by_cases h:a≤4096
     ·exact .inl (by simp[h])
     ·exact .inr (by simp;omega)
    by_cases g4:a≤4096-b
    ·have h2:a≤4096:=by omega
     have h3:b≤4096-a:=by omega
     refine zgo ?_;exact zfin
    ·have h3:¬b≤4096-a:=by omega
     have h4:(decide (0≤a)&&decide (20≤b)&&decide (a≤4096)&&decide (b≤4096-a))=false:=by simp[h3]
     rw[h4];clear h1 h3 h4;refine zgo ?_;exact zfin
   ·have h3:(decide (0≤a)&&decide (20≤b)&&decide (a≤4096)&&decide (b≤4096-a))=false:=by simp;omega
    rw[h3];clear h3;refine zgo ?_;exact zfin
  ·refine zgo ?_
   exact zfin
 ·refine zgo ?_
  exact zfin
theorem valid_p(a b:Int):PC 113 [.agg [zV a,zV b]] (bV (validB a b)):=by
 refine pstart Tryz.func113 Tryz.ntmps113 (.c _) ?_;unfold validB;by_cases g1:0≤a
 ·by_cases g2:20≤b
  ·by_cases g3:a≤4096
   ·by_cases g4:b≤4096-a
    ·refine zgo ?_
     exact zfin
    ·refine zgo ?_
     exact zfin
   ·refine zgo ?_
    exact zfin
  ·refine zgo ?_
   exact zfin
 ·refine zgo ?_
  exact zfin
theorem rlen_p(a b:Int)(h1:20≤b)(h2:b≤4096):PC 115 [.agg [zV a,zV b]] (zV (b-16)):=by
 refine pstart Tryz.func115 Tryz.ntmps115 (.c _) ?_;refine zgo ?_;exact zfin
end Go.Proofs.YtpeldefimkdkdaaGreat
namespace Go.Proofs.YtpeldefimkdkdaaGreat
open Go.Proofs Go.AL
set_option maxRecDepth 100000
set_option maxHeartbeats 1000000
attribute [local irreducible] endA AW aops thenA blockA hold
theorem rsum_p(l:List Int)(hl:l.length≤1000000):PC 87 [.snap (encL intRow l)] (zV (sumW l)):=by
 refine pstart Tryz.func87 Tryz.ntmps87 (.c _) ?_;refine zgo ?_;have hg:=gI l;refine zfor1 l.length 0 [] (fun k=> [(4,true,zV k),(0,true,.snap (encL intRow l)),(3,true,zV (sumW (l.take k)))]) zholds (fun k m hk hm=> ?_) (fun m hm=> ?_)
 ·have h1:=sumW_succ hk
  refine zgo ?_;exact⟨m,hm,zholds⟩
 ·refine zgo ?_
  exact zfin
theorem sumW_small:∀(l:List Int) (s:Int),0≤s→(∀x∈l,0≤x∧x≤5000)→s+5000*l.length≤9223372036854775807→l.foldl (fun s x=>IntKind.i64.wrap (s+x)) s=s+l.sum
 |[],s,_,_,_=>by simp
 |x::l,s,h0,hx,hs=>by
  have h1:=hx x (by simp)
  have h2:IntKind.i64.wrap (s+x)=s+x:=Go.IntWalk.i64_in _ ⟨by omega,by simp only[List.length_cons]at hs;push_cast at hs;omega⟩
  rw[List.foldl_cons,h2,sumW_small l (s+x) (by omega) (fun y hy=>hx y (by simp[hy])) (by simp only[List.length_cons]at hs;push_cast at hs;omega),List.sum_cons]
  omega
end Go.Proofs.YtpeldefimkdkdaaGreat
namespace Go.Proofs.YtpeldefimkdkdaaGreat
open Go.Proofs Go.AL
set_option maxRecDepth 100000
set_option maxHeartbeats 1000000
attribute [local irreducible] endA AW aops thenA blockA hold
theorem guardSec:Tryz.prog.eqGuardType Tryz.prog.depth 132=false:=by kernel_rfl
theorem eqA_sec(d:Nat)(s t:Sec):eqA Tryz.prog (d+2) 132 (.agg (encSec s)) (.agg (encSec t))=some (decide (s=t)):=by
 have h5:Tryz.prog.underlying 5=some (.int .u8):=Tryz.underlying5;simp only[eqA,Tryz.underlying132,szT5,eqIs,partA,isAggT5,encSec,List.range_succ,List.range_zero,List.nil_append,List.cons_append,Nat.zero_mul,Nat.mul_one,List.getElem?_cons_zero,List.getElem?_cons_succ,h5,if_true];obtain⟨⟨a,b,c,e⟩,⟨f,g,h,i⟩⟩:=s;obtain⟨⟨a',b',c',e'⟩,⟨f',g',h',i'⟩⟩:=t;simp only[Option.some.injEq,Prod.mk.injEq];rw[Bool.eq_iff_iff]
 simp only[Bool.and_eq_true,beq_iff_eq,decide_eq_true_eq,Bool.and_true,and_assoc]
@[go_sem] theorem eqs_sec(s:Sec):eqTop Tryz.prog 132 (.agg (encSec s)) (.agg (encSec s))=some true:=by
  unfold eqTop;rw[guardSec,if_neg (by simp)]
  exact(eqA_sec 9998 s s).trans (by simp)
theorem sameInts23_p(l:List Int)(hl:l.length≤1000000):PC 41 [.snap (encL intRow l),.snap (encL intRow l)] (bV true):=by
 refine pstart Tryz.func41 Tryz.ntmps41 (.c _) ?_;have hg:=gI l;refine zgo2 ?_;refine zfor1 l.length 0 [] (fun k=> [(5,true,zV k),(0,true,.snap (encL intRow l)),(1,true,.snap (encL intRow l))]) zholds (fun k m hlt hm=> ?_) (fun m hm=> ?_)
 ·have hgk:=hg k hlt
  clear hg;refine zgo2 ?_;refine⟨m+200,by omega,zholds⟩
 ·clear hg
  refine zgo2 ?_;exact zfin
theorem sameInts15_p(l:List Int)(hl:l.length≤1000000):PC 105 [.snap (encL intRow l),.snap (encL intRow l)] (bV true):=by
 refine pstart Tryz.func105 Tryz.ntmps105 (.c _) ?_;have hg:=gI l;refine zgo2 ?_;refine zfor1 l.length 0 [] (fun k=> [(5,true,zV k),(0,true,.snap (encL intRow l)),(1,true,.snap (encL intRow l))]) zholds (fun k m hlt hm=> ?_) (fun m hm=> ?_)
 ·have hgk:=hg k hlt
  clear hg;refine zgo2 ?_;refine⟨m+200,by omega,zholds⟩
 ·clear hg
  refine zgo2 ?_;exact zfin
theorem sameSecs_p(l:List Sec)(hl:l.length≤1000000):PC 66 [.snap (encL encSec l),.snap (encL encSec l)] (bV true):=by
 refine pstart Tryz.func66 Tryz.ntmps66 (.c _) ?_;have hg:=gS l;refine zgo2 ?_;refine zfor1 l.length 0 [] (fun k=> [(5,true,zV k),(0,true,.snap (encL encSec l)),(1,true,.snap (encL encSec l))]) zholds (fun k m hlt hm=> ?_) (fun m hm=> ?_)
 ·have hgk:=hg k hlt
  clear hg;refine zgo2 ?_;refine⟨m+200,by omega,zholds⟩
 ·clear hg
  refine zgo2 ?_;exact zfin
theorem sameOps_p(l:List Opr)(hl:l.length≤1000000)(hs:∀o∈l,o.2.2.length≤1000000):PC 22 [.snap (encL opRow l),.snap (encL opRow l)] (bV true):=by
 refine pstart Tryz.func22 Tryz.ntmps22 (.c _) ?_;have hg:=gO l;refine zgo2 ?_;refine zfor1 l.length 0 [] (fun k=> [(5,true,zV k),(0,true,.snap (encL opRow l)),(1,true,.snap (encL opRow l))]) zholds (fun k m hlt hm=> ?_) (fun m hm=> ?_)
 ·have hgk:=hg k hlt
  clear hg;have hm1:l.getD k zOp∈l:=getD_mem' zOp hlt;have c1:=sameSecs_p (l.getD k zOp).2.2 (hs _ hm1);unfold opRow at hgk;have hgk2:(encL opRow l)[k]? =some [zV (l.getD k zOp).1,zV (l.getD k zOp).2.1,.snap (encL encSec (l.getD k zOp).2.2)]:=hgk;clear hgk;refine zgo2 ?_;refine⟨m+200,by omega,zholds⟩
 ·clear hg
  refine zgo2 ?_;exact zfin
end Go.Proofs.YtpeldefimkdkdaaGreat
