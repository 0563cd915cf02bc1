/- Staging: contracts of its functions (Aw). No condition but those named. -/
import Derived.Test.YtpeldefimkdkdaaGreatAv
set_option linter.unusedVariables false
set_option linter.unusedSimpArgs false
namespace Go.Proofs.YtpeldefimkdkdaaGreat
open Go.Proofs Go.AL
set_option maxRecDepth 100000
set_option maxHeartbeats 4000000
attribute [local irreducible] endA AW aops thenA blockA hold
attribute [local irreducible] numG
theorem dne{x y:Int}(h:¬x=y):(x==y)=false∧(x !=y)=true:=⟨beq_eq_false_iff_ne.2 h,bne_iff_ne.2 h⟩
theorem dself(x:Int):(x==x)=true∧(x !=x)=false:=by simp
theorem dneL{x y:Nat}(h:¬x=y):((x:Int)==(y:Int))=false∧((x:Int) !=(y:Int))=true:=⟨beq_eq_false_iff_ne.2 (by omega),bne_iff_ne.2 (by omega)⟩
theorem deqL{x y:Nat}(h:x=y):((x:Int)==(y:Int))=true∧((x:Int) !=(y:Int))=false:=by simp[h]
theorem same_p(a b:Asm)(ha:a.have_.length≤100000)(hb:b.have_.length≤100000)(sa:a.seen.length≤100000)(sb:b.seen.length≤100000)(h1:∀x∈a.have_,∀y∈x,ByteOK y)(h2:∀x∈b.have_,∀y∈x,ByteOK y):PC 49 [.agg (encA a),.agg (encA b)] (bV (decide (a=b))):=by
 refine pstart Tryz.func49 Tryz.ntmps49 (.c _) ?_;have c1:=eqBl_p a.seen b.seen sa sb;have c2:=eqPs_p a.have_ b.have_ ha hb h1 h2;clear h1 h2 ha hb sa sb;obtain⟨M,hM⟩:∃M,decide (a=b)=M:=⟨_,rfl⟩;rw[hM];obtain⟨an,ap,az,ah,ae⟩:=a;obtain⟨bn,bp,bs,bh,be⟩:=b;unfold encA;simp only[]at*;by_cases g1:an=bn
 case neg=>
  rw[decide_eq_false (fun h=>g1 (by injection h))]at hM
  subst hM;obtain⟨g,gx⟩:=dne g1;clear g1 c1 c2;refine zgo2 ?_;exact zfin
 by_cases g2:ap=bp
 case neg=>
  rw[decide_eq_false (fun h=>g2 (by injection h))]at hM
  subst hM;obtain⟨g,gx⟩:=dne g2;subst g1;obtain⟨d1,d1x⟩:=dself an;clear g2 c1 c2;refine zgo2 ?_;exact zfin
 by_cases g3:az=bs
 case neg=>
  rw[decide_eq_false (fun h=>g3 (by injection h))]at hM
  subst hM;obtain⟨g,gx⟩:=dne g3;subst g1 g2;obtain⟨d1,d1x⟩:=dself an;obtain⟨d2,d2x⟩:=dself ap;clear g3 c1 c2;refine zgo2 ?_;exact zfin
 by_cases g4:ae=be
 case neg=>
  rw[decide_eq_false (fun h=>g4 (by injection h))]at hM
  subst hM;rw[decide_eq_false g4]at c1;subst g1 g2 g3;obtain⟨d1,d1x⟩:=dself an;obtain⟨d2,d2x⟩:=dself ap;obtain⟨d3,d3x⟩:=dself az;clear g4 c2;refine zgo2 ?_;exact zfin
 by_cases g5:ah=bh
 case neg=>
  rw[decide_eq_false (fun h=>g5 (by injection h))]at hM
  subst hM;rw[decide_eq_true g4]at c1;rw[decide_eq_false g5]at c2;subst g1 g2 g3;obtain⟨d1,d1x⟩:=dself an;obtain⟨d2,d2x⟩:=dself ap;obtain⟨d3,d3x⟩:=dself az;clear g4 g5;refine zgo2 ?_;exact zfin
 ·rw[decide_eq_true g4]at c1
  rw[decide_eq_true g5]at c2;subst g1 g2 g3 g4 g5;rw[decide_eq_true rfl]at hM;subst hM;obtain⟨d1,d1x⟩:=dself an;obtain⟨d2,d2x⟩:=dself ap;obtain⟨d3,d3x⟩:=dself az;refine zgo2 ?_;exact zfin
theorem qsame_p(a b:Asm)(ha:a.have_.length≤100000)(hb:b.have_.length≤100000)(sa:a.seen.length≤100000)(sb:b.seen.length≤100000)(h1:∀x∈a.have_,∀y∈x,ByteOK y)(h2:∀x∈b.have_,∀y∈x,ByteOK y):PC 54 [.agg (encA a),.agg (encA b)] (bV (decide (a=b))):=by
 refine pstart Tryz.func54 Tryz.ntmps54 (.c _) ?_;obtain⟨M,hM⟩:∃M,decide (a=b)=M:=⟨_,rfl⟩;rw[hM];obtain⟨an,ap,az,ah,ae⟩:=a;obtain⟨bn,bp,bs,bh,be⟩:=b;unfold encA;simp only[]at*;by_cases g1:an=bn
 case neg=>
  rw[decide_eq_false (fun h=>g1 (by injection h))]at hM
  subst hM;obtain⟨g,gx⟩:=dne g1;clear g1 h1 h2;refine zgo2 ?_;exact zfin
 by_cases g2:ap=bp
 case neg=>
  rw[decide_eq_false (fun h=>g2 (by injection h))]at hM
  subst hM;obtain⟨g,gx⟩:=dne g2;subst g1;obtain⟨d1,d1x⟩:=dself an;clear g2 h1 h2;refine zgo2 ?_;exact zfin
 by_cases g3:az=bs
 case neg=>
  rw[decide_eq_false (fun h=>g3 (by injection h))]at hM
  subst hM;obtain⟨g,gx⟩:=dne g3;subst g1 g2;obtain⟨d1,d1x⟩:=dself an;obtain⟨d2,d2x⟩:=dself ap;clear g3 h1 h2;refine zgo2 ?_;exact zfin
 by_cases g4:ah.length=bh.length
 case neg=>
  rw[decide_eq_false (fun h=>g4 (by injection h with _ _ _ h _;rw[h]))]at hM
  subst hM;obtain⟨g,gx⟩:=dneL g4;subst g1 g2 g3;obtain⟨d1,d1x⟩:=dself an;obtain⟨d2,d2x⟩:=dself ap;obtain⟨d3,d3x⟩:=dself az;clear g4 h1 h2;refine zgo2 ?_;exact zfin
 by_cases g5:ae.length=be.length
 case neg=>
  rw[decide_eq_false (fun h=>g5 (by injection h with _ _ _ _ h;rw[h]))]at hM
  subst hM;obtain⟨g,gx⟩:=dneL g5;subst g1 g2 g3;obtain⟨d1,d1x⟩:=dself an;obtain⟨d2,d2x⟩:=dself ap;obtain⟨d3,d3x⟩:=dself az;obtain⟨d4,d4x⟩:=deqL g4;clear g5 h1 h2;refine zgo2 ?_;exact zfin
 have hM2:decide (ah=bh∧ae=be)=M:=by
  rw[←hM];exact decide_eq_decide.2 ⟨fun h=>by rw[g1,g2,g3,h.1,h.2],fun h=>by injection h with _ _ _ h1 h2;exact⟨h1,h2⟩⟩
 clear hM;subst g1 g2 g3;obtain⟨d1,d1x⟩:=dself an;obtain⟨d2,d2x⟩:=dself ap;obtain⟨d3,d3x⟩:=dself az;obtain⟨d4,d4x⟩:=deqL g4;obtain⟨d5,d5x⟩:=deqL g5
 replace h1:=Lat.mk h1
 replace h2:=Lat.mk h2
 have ga:=gHb ah;have gb:=gHb bh;have ua:=gBl ae;have ub:=gBl be;refine zgo2 ?_;refine zfor (α:=Unit) ah.length (fun k _=> [(5,true,zV k),(3,true,.ptr 1 0 0),(2,true,.ptr 0 0 0)]) (fun _ _=> [(0,some (.cells 79 5 [[zV an,zV ap,zV az,.snap (encL byteL ah),.snap (encL boolRow ae)]] true false)),(1,some (.cells 79 5 [[zV an,zV ap,zV az,.snap (encL byteL bh),.snap (encL boolRow be)]] true false))]) (fun k m _=>2≤m∧∀i,i<k→ah.getD i []=bh.getD i []) ⟨100,(),⟨by omega,fun i hi=>absurd hi (by omega)⟩,zholds⟩ (fun k m _ hk hR=> ?_) (fun m _ hR=> ?_)
 ·obtain⟨hm,hR⟩:=hR
  have gak:=ga k hk;have gbk:=gb k (by omega)
  have he:=strB_eq (h1.out _ (getD_mem' [] hk)) (h2.out _ (getD_mem' [] (by omega:k<bh.length)))
  clear ga gb ua ub;obtain⟨x,hx⟩:∃x,ah.getD k []=x:=⟨_,rfl⟩;obtain⟨y,hy⟩:∃y,bh.getD k []=y:=⟨_,rfl⟩;rw[hx]at gak he;rw[hy]at gbk he;have hkb:k<bh.length:=by omega
  by_cases g:x=y
  ·have hR2:Lat (∀i,i<k+1→ah.getD i []=bh.getD i []):=⟨fun i hi=>by
    rcases Nat.lt_or_ge i k with h1|h1
    ·exact hR i h1
    ·rw[show i=k by omega,hx,hy];exact g⟩
   rw[decide_eq_true g]at he;clear hR hx hy g hM2;refine zgo2 ?_;exact⟨m+20,(),⟨by omega,hR2.out⟩,zholds⟩
  ·rw[decide_eq_false (fun h=>g (by rw[←hx,←hy,h.1]))]at hM2
   subst hM2;rw[decide_eq_false g]at he;clear hR hx hy g;refine zgo2 ?_;exact zfin
 obtain⟨hm,hR⟩:=hR;have e1:ah=bh:=getD_ext [] g4 hR
 have hM3:decide (ae=be)=M:=by
  rw[←hM2];exact decide_eq_decide.2 ⟨fun h=>⟨e1,h⟩,fun h=>h.2⟩
 clear hM2 hR e1 ga gb;refine zgo2 ?_;refine zfor (α:=Unit) ae.length (fun k _=> [(6,true,zV k),(3,true,.ptr 1 0 0),(2,true,.ptr 0 0 0)]) (fun _ _=> [(0,some (.cells 79 5 [[zV an,zV ap,zV az,.snap (encL byteL ah),.snap (encL boolRow ae)]] true false)),(1,some (.cells 79 5 [[zV an,zV ap,zV az,.snap (encL byteL bh),.snap (encL boolRow be)]] true false))]) (fun k m _=>2≤m∧∀i,i<k→ae.getD i false=be.getD i false) ⟨m+100,(),⟨by omega,fun i hi=>absurd hi (by omega)⟩,zholds⟩ (fun k m _ hk hR=> ?_) (fun m _ hR=> ?_)
 ·obtain⟨hm,hR⟩:=hR
  have gak:(encL boolRow ae)[k]? =some [bV (ae.getD k false)]:=ua k hk;have gbk:(encL boolRow be)[k]? =some [bV (be.getD k false)]:=ub k (by omega)
  clear ua ub;obtain⟨x,hx⟩:∃x,ae.getD k false=x:=⟨_,rfl⟩;obtain⟨y,hy⟩:∃y,be.getD k false=y:=⟨_,rfl⟩;rw[hx]at gak;rw[hy]at gbk;have hkb:k<be.length:=by omega
  by_cases g:x=y
  ·have hR2:Lat (∀i,i<k+1→ae.getD i false=be.getD i false):=⟨fun i hi=>by
    rcases Nat.lt_or_ge i k with h1|h1
    ·exact hR i h1
    ·rw[show i=k by omega,hx,hy];exact g⟩
   have hd:(x==y)=true:=by simpa using g
   clear hR hx hy g hM3;refine zgo2 ?_;exact⟨m+20,(),⟨by omega,hR2.out⟩,zholds⟩
  ·rw[decide_eq_false (fun h=>g (by rw[←hx,←hy,h]))]at hM3
   subst hM3;have hd:(x==y)=false:=by simpa using g
   clear hR hx hy g;refine zgo2 ?_;exact zfin
 obtain⟨hm,hR⟩:=hR;rw[decide_eq_true (getD_ext false g5 hR)]at hM3;subst hM3;clear hR ua ub;refine zgo2 ?_;exact zfin
end Go.Proofs.YtpeldefimkdkdaaGreat
namespace Go.Proofs.YtpeldefimkdkdaaGreat
open Go.Proofs Go.AL
set_option maxRecDepth 100000
set_option maxHeartbeats 4000000
attribute [local irreducible] endA AW aops thenA blockA hold
attribute [local irreducible] numG
@[go_sem] theorem stg_snoc(F:List Stg)(n p s:Int)(h:List (List Int))(e:List Bool)(r:List Int)(c:Bool):encL stgRow F++[[zV n,zV p,zV s,.snap (encL byteL h),.snap (encL boolRow e),.snap (encL intRow r),bV c]]=encL stgRow (F++[⟨n,p,s,h,e,r,c⟩]):=encL_snoc F ⟨n,p,s,h,e,r,c⟩
def putT(l:List Stg)(x:Stg)(k:Nat):List Stg:=
 if k≤fndI l x.number then l.take k
 else l.take (fndI l x.number)++x::(l.take k).drop (if fndB l x.number=true then fndI l x.number+1 else fndI l x.number)
theorem putT_lt{l:List Stg}{x:Stg}{k:Nat}(hk:k<fndI l x.number):putT l x (k+1)=putT l x k++[l.getD k zStg]:=by
 unfold putT;rw[if_pos (by omega),if_pos (by omega),take_snoc9 zStg (by have:=fndI_le l x.number;omega)]
theorem putT_eq{l:List Stg}{x:Stg}(hk:fndI l x.number<l.length):putT l x (fndI l x.number+1)=if fndB l x.number=true then putT l x (fndI l x.number)++[x]else putT l x (fndI l x.number)++[x]++[l.getD (fndI l x.number) zStg]:=by
 unfold putT;rw[if_neg (by omega),if_pos (Nat.le_refl _)]
 split
 ·rw[List.drop_eq_nil_of_le (by rw[List.length_take];omega)]
 ·rw[take_snoc9 zStg hk,List.drop_left' (by rw[List.length_take];omega)]
  simp
theorem putT_gt{l:List Stg}{x:Stg}{k:Nat}(h:fndI l x.number<k)(hk:k<l.length):putT l x (k+1)=putT l x k++[l.getD k zStg]:=by
 unfold putT
 have e1:(if fndB l x.number=true then fndI l x.number+1 else fndI l x.number)≤(l.take k).length:=by
  rw[List.length_take];split<;>omega
 rw[if_neg (show¬k+1≤fndI l x.number by omega),if_neg (show¬k≤fndI l x.number by omega),take_snoc9 zStg hk,List.drop_append_of_le_length e1]
 simp
theorem putT_all{l:List Stg}{x:Stg}(h:fndI l x.number<l.length):putT l x l.length=putSt l x:=by
 unfold putT putSt;rw[if_neg (by omega),List.take_length]
 split
 ·rw[List.set_eq_take_append_cons_drop,if_pos h]
 ·rfl
theorem putT_end{l:List Stg}{x:Stg}(h:fndI l x.number=l.length):putT l x l.length++[x]=putSt l x:=by
 unfold putT putSt;have hb:fndB l x.number=false:=by unfold fndB;rw[h];simp
 rw[if_pos (by omega),if_neg (by rw[hb];decide),h,List.take_length,List.drop_length]
theorem qput_p(l:List Stg)(x:Stg)(hs:SortS l)(hl:l.length≤100000):PC 61 [.snap (encL stgRow l),.agg (stgRow x)] (.snap (encL stgRow (putSt l x))):=by
 refine pstart Tryz.func61 Tryz.ntmps61 (encL_noId _) ?_;have hg:=gSt l;have t1:=fun k=>putT_lt (l:=l) (x:=x) (k:=k)
 have t2:=putT_eq (l:=l) (x:=x);have t3:=fun k=>putT_gt (l:=l) (x:=x) (k:=k)
 have t4:=putT_all (l:=l) (x:=x);have t5:=putT_end (l:=l) (x:=x);have f1:=fun i=>fndI_lt (l:=l) (n:=x.number) (i:=i)
 have f2:=fun i=>fndI_ge hs (n:=x.number) (i:=i)
 have f3:=fndI_le l x.number;have f4:fndB l x.number=true→(l.getD (fndI l x.number) zStg).number=x.number:=fun h=>(fndB_lt h).2
 have f5:fndI l x.number<l.length→(l.getD (fndI l x.number) zStg).number=x.number→fndB l x.number=true:=fun h1 h2=>by unfold fndB;rw[decide_eq_true h1,decide_eq_true h2];rfl
 have f6:∀k,fndI l x.number<k→k<l.length→x.number<(l.getD k zStg).number:=fun k h1 h2=>by
  have:=f2 _ (Nat.le_refl _) (by omega)
  have:=hs _ _ h1 h2;omega
 have t0:putT l x 0=[]:=by unfold putT;rw[if_pos (Nat.zero_le _)];rfl
 generalize hi:fndI l x.number=i at*;generalize fndB l x.number=fb at*;generalize hP:putT l x=P at*;generalize hR:putSt l x=R at*;clear hi hP hR hs;obtain⟨n,p,s,h,e,r,c⟩:=x;rw[stgRow_eq];simp only[]at*;refine zgo2 ?_;refine zfor (α:=Nat) l.length (fun k id=> [(7,true,zV k),(6,true,bV (decide (i<k))),(5,true,oV1 (P k).length id),(3,true,.ptr 0 0 0),(0,true,.snap (encL stgRow l))]) (fun k id=>(0,some (.cells 73 7 [[zV n,zV p,zV s,.snap (encL byteL h),.snap (encL boolRow e),.snap (encL intRow r),bV c]] true false))::oT1 73 7 (encL stgRow (P k)) (P k).length id) (fun k m id=>(1≤m∧(P k).length≤2*k)∧(0<(P k).length→1≤id∧id<m)) ⟨100,0,⟨⟨by omega,by rw[t0];simp⟩,fun h=>absurd h (by rw[t0];simp)⟩,by rw[t0];exact zholds⟩ (fun k m id hk hR=> ?_) (fun m id hR=> ?_)
 ·obtain⟨⟨hm,hlk⟩,hR⟩:=hR
  have hgk:=hg k hk;rw[stgRow_eq]at hgk;clear hg t4 t5 t0;rcases Nat.lt_trichotomy k i with hlt|heq|hgt
  ·have t:=t1 k hlt
   have g1:=f1 k hlt;have d1:decide (i<k)=false:=by simp;omega
   have d2:decide (i<k+1)=false:=by simp;omega
   rw[t,d1,d2];clear t t1 t2 t3 f1 f2 f3 f4 f5 f6 d1 d2;generalize P k=F at*;generalize l.getD k zStg=y at*;obtain⟨yn,yp,ys,yh,ye,yr,yc⟩:=y;simp only[]at*;have g2:¬n≤yn:=by omega
   obtain⟨g3,g3x⟩:=dne (x:=yn) (y:=n) (by omega)
   cases hF:F.length with
   |zero=>
    have hF0:F=[]:=List.eq_nil_of_length_eq_zero hF;subst hF0;clear hR hF;refine zgo2 ?_;exact⟨m+60,m+12+8+1,⟨⟨by omega,by simp only[List.length_append,List.length_cons,List.length_nil];omega⟩,fun _=>by omega⟩,zholds⟩
   |succ q=>
    obtain⟨i1,i2⟩:=hR (by omega)
    have hF2:(F++[Stg.mk yn yp ys yh ye yr yc]).length=q+1+1:=by simp[hF]
    have hlq:q≤300000:=by omega
    rw[hF2];clear hR;refine zgo2 ?_;exact⟨m+60,m+12+8+1,⟨⟨by omega,by omega⟩,fun _=>by omega⟩,zholds⟩
  ·subst heq
   have t:=t2 hk;have g1:=f2 k (Nat.le_refl _) hk;have d1:decide (k<k)=false:=by simp
   have d2:decide (k<k+1)=true:=by simp
   rw[t,d1,d2];have g5:=f5 hk;clear t t1 t2 t3 f1 f2 f3 f5 f6 d1 d2;cases fb with
   |true=>
    have g4:=f4 rfl;rw[if_pos rfl];clear f4 g5;generalize P k=F at*;generalize l.getD k zStg=y at*;obtain⟨yn,yp,ys,yh,ye,yr,yc⟩:=y;simp only[]at*;subst g4;obtain⟨g3,g3x⟩:=dself yn;cases hF:F.length with
    |zero=>
     have hF0:F=[]:=List.eq_nil_of_length_eq_zero hF;subst hF0;clear hR hF;refine zgo2 ?_;exact⟨m+60,m+12+1,⟨⟨by omega,by simp only[List.length_append,List.length_cons,List.length_nil];omega⟩,fun _=>by omega⟩,zholds⟩
    |succ q=>
     obtain⟨i1,i2⟩:=hR (by omega)
     have hF2:(F++[Stg.mk yn p s h e r c]).length=q+1+1:=by simp[hF]
     have hlq:q≤300000:=by omega
     rw[hF2];clear hR;refine zgo2 ?_;exact⟨m+60,m+12+1,⟨⟨by omega,by omega⟩,fun _=>by omega⟩,zholds⟩
   |false=>
    rw[if_neg (by decide)]
    clear f4;generalize P k=F at*;generalize l.getD k zStg=y at*;obtain⟨yn,yp,ys,yh,ye,yr,yc⟩:=y;simp only[]at*;obtain⟨g3,g3x⟩:=dne (x:=yn) (y:=n) (fun h=>absurd (g5 h) (by decide))
    clear g5;cases hF:F.length with
    |zero=>
     have hF0:F=[]:=List.eq_nil_of_length_eq_zero hF;subst hF0;clear hR hF;refine zgo2 ?_;exact⟨m+60,m+12+1+8+1+1,⟨⟨by omega,by simp only[List.length_append,List.length_cons,List.length_nil];omega⟩,fun _=>by omega⟩,zholds⟩
    |succ q=>
     obtain⟨i1,i2⟩:=hR (by omega)
     have hF2:(F++[Stg.mk n p s h e r c]++[Stg.mk yn yp ys yh ye yr yc]).length=q+1+1+1:=by simp[hF]
     have hF3:(F++[Stg.mk n p s h e r c]).length=q+1+1:=by simp[hF]
     have hlq:q≤300000:=by omega
     rw[hF2];clear hR;refine zgo2 ?_;exact⟨m+60,m+12+1+8+1+1,⟨⟨by omega,by omega⟩,fun _=>by omega⟩,zholds⟩
  ·have t:=t3 k hgt hk
   have g1:=f6 k hgt hk;have d1:decide (i<k)=true:=by simp;omega
   have d2:decide (i<k+1)=true:=by simp;omega
   rw[t,d1,d2];clear t t1 t2 t3 f1 f2 f3 f4 f5 f6 d1 d2;generalize P k=F at*;generalize l.getD k zStg=y at*;obtain⟨yn,yp,ys,yh,ye,yr,yc⟩:=y;simp only[]at*;obtain⟨g3,g3x⟩:=dne (x:=yn) (y:=n) (by omega)
   cases hF:F.length with
   |zero=>
    have hF0:F=[]:=List.eq_nil_of_length_eq_zero hF;subst hF0;clear hR hF;refine zgo2 ?_;exact⟨m+60,m+12+8+1,⟨⟨by omega,by simp only[List.length_append,List.length_cons,List.length_nil];omega⟩,fun _=>by omega⟩,zholds⟩
   |succ q=>
    obtain⟨i1,i2⟩:=hR (by omega)
    have hF2:(F++[Stg.mk yn yp ys yh ye yr yc]).length=q+1+1:=by simp[hF]
    have hlq:q≤300000:=by omega
    rw[hF2];clear hR;refine zgo2 ?_;exact⟨m+60,m+12+8+1,⟨⟨by omega,by omega⟩,fun _=>by omega⟩,zholds⟩
 ·obtain⟨⟨hm,hlk⟩,hR⟩:=hR
  clear hg t1 t2 t3 f1 f2 f4 f5 f6 t0;rcases Nat.lt_or_ge i l.length with hi|hi
  ·have t:=t4 hi
   have d1:decide (i<l.length)=true:=by simp[hi]
   rw[t]at hlk hR⊢;rw[d1];clear t t4 t5 d1;cases hF:R.length with
   |zero=>
    have hF0:R=[]:=List.eq_nil_of_length_eq_zero hF;subst hF0;clear hR hF;refine zgo2 ?_;exact zfin
   |succ q=>
    obtain⟨i1,i2⟩:=hR (by omega)
    have htk:R.take (q+1)=R:=List.take_of_length_le (by omega)
    clear hR;refine zgo2 ?_;exact zfin
  ·have hi':i=l.length:=by omega
   have t:=t5 hi';have d1:decide (i<l.length)=false:=by simp[hi']
   rw[d1];clear t4 t5 d1 hi' hi;generalize P l.length=F at*;subst t;cases hF:F.length with
   |zero=>
    have hF0:F=[]:=List.eq_nil_of_length_eq_zero hF;subst hF0;clear hR hF;have hone:encL stgRow ([]++[Stg.mk n p s h e r c])=[[zV n,zV p,zV s,.snap (encL byteL h),.snap (encL boolRow e),.snap (encL intRow r),bV c]]:=rfl;refine zgo2 ?_;exact zfin
   |succ q=>
    obtain⟨i1,i2⟩:=hR (by omega)
    have hlq:q≤300000:=by omega
    have htk:(F++[Stg.mk n p s h e r c]).take (q+1+1)=F++[Stg.mk n p s h e r c]:=List.take_of_length_le (by simp[hF])
    clear hR;refine zgo2 ?_;exact zfin
end Go.Proofs.YtpeldefimkdkdaaGreat
