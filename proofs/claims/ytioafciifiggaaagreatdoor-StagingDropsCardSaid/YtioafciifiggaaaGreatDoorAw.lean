/- Staging: contracts of its functions (Aw). No condition but those named. -/
import Derived.Test.YtioafciifiggaaaGreatDoorAv
set_option linter.unusedVariables false
set_option linter.unusedSimpArgs false
namespace Go.Proofs.YtioafciifiggaaaGreatDoor
open Go.Proofs Go.AL
set_option maxRecDepth 100000
set_option maxHeartbeats 4000000
attribute [local irreducible] endA AW aops thenA blockA hold
attribute [local irreducible] numG
@[go_sem] theorem strA_enc:∀(l:List Int),strA (encL byteRow l)=some l
  |[]=>rfl
  |x::l=>by
   have h:=strA_enc l;simp only[encL,List.map_cons,byteRow,strA,byteA]at h⊢;rw[h]
theorem ba_loop(bs:ByteArray):∀(n i:Nat) (r:List UInt8),bs.size-i=n→ByteArray.toList.loop bs i r=r.reverse++bs.data.toList.drop i
 |0,i,r,h=>by
  rw[ByteArray.toList.loop,if_neg (by omega),List.drop_eq_nil_of_le (by rw[Array.length_toList];exact(by omega:bs.size≤i)),List.append_nil]
 |n+1,i,r,h=>by
  have hi:i<bs.size:=by omega
  have hi2:i<bs.data.toList.length:=by rw[Array.length_toList];exact hi
  rw[ByteArray.toList.loop,if_pos hi,ba_loop bs n (i+1) _ (by omega),List.reverse_cons,List.append_assoc,List.singleton_append,List.drop_eq_getElem_cons hi2]
  congr 2;have:bs.get! i=bs.data[i]! :=rfl;rw[this,getElem!_pos bs.data i hi,Array.getElem_toList]
theorem strB_toList(l:List Int):(strB l).toList=l.map (fun n=>UInt8.ofNat n.toNat):=by
 have h1:∀bs:ByteArray,bs.toList=bs.data.toList:=fun bs=>by
  rw[ByteArray.toList,ba_loop bs _ 0 [] rfl];rfl
 have h2:∀(l:List Int) (r:ByteArray),(l.foldl (fun r n=>r.push (UInt8.ofNat n.toNat)) r).data.toList=r.data.toList++l.map (fun n=>UInt8.ofNat n.toNat):=by
  intro l
  induction l with
  |nil=>intro r;simp
  |cons x l ih=>intro r;rw[List.foldl_cons,ih];simp[ByteArray.push]
 rw[h1,strB,h2];rfl
theorem str_inj:∀{a b:List Int},(∀x∈a,ByteOK x)→(∀x∈b,ByteOK x)→a.map (fun n=>UInt8.ofNat n.toNat)=b.map (fun n=>UInt8.ofNat n.toNat)→a=b
 |[],[],_,_,_=>rfl
 |[],_::_,_,_,h=>by simp at h
 |_::_,[],_,_,h=>by simp at h
 |x::a,y::b,ha,hb,h=>by
  simp only[List.map_cons,List.cons.injEq]at h;have h1:ByteOK x:=ha x (by simp)
  have h2:ByteOK y:=hb y (by simp)
  unfold ByteOK at h1 h2;have h3:=congrArg UInt8.toNat h.1;rw[UInt8.toNat_ofNat',UInt8.toNat_ofNat',Nat.mod_eq_of_lt (by omega),Nat.mod_eq_of_lt (by omega)]at h3
  rw[show x=y by omega,str_inj (fun z hz=>ha z (by simp[hz])) (fun z hz=>hb z (by simp[hz])) h.2]
theorem strB_eq{a b:List Int}(ha:∀x∈a,ByteOK x)(hb:∀x∈b,ByteOK x):((strB a).toList==(strB b).toList)=decide (a=b):=by
 rw[strB_toList,strB_toList];by_cases h:a=b
 ·subst h;simp
 ·rw[decide_eq_false h,beq_eq_false_iff_ne]
  exact fun h2=>h (str_inj ha hb h2)
theorem beq_p(a b:List Int)(ha:∀x∈a,ByteOK x)(hb:∀x∈b,ByteOK x):PC 152 [.snap (encL byteRow a),.snap (encL byteRow b)] (bV (decide (a=b))):=by
 refine pstart Tryz.func152 Tryz.ntmps152 (.c _) ?_;have h:=strB_eq ha hb;clear ha hb;generalize decide (a=b)=d at*;refine zgo ?_;exact zfin
theorem same1_p(a b:List Int)(ha:∀x∈a,ByteOK x)(hb:∀x∈b,ByteOK x):PC 155 [.snap (encL byteRow a),.snap (encL byteRow b)] (bV (decide (a=b))):=by
 refine pstart Tryz.func155 Tryz.ntmps155 (.c _) ?_;have h:=strB_eq ha hb;clear ha hb;generalize decide (a=b)=d at*;refine zgo ?_;exact zfin
theorem getD_ext{α:Type}(d:α){a b:List α}(hl:a.length=b.length)(h:∀i,i<a.length→a.getD i d=b.getD i d):a=b:=by
 refine List.ext_getElem hl fun i h1 h2=> ?_
 have:=h i h1;simpa[h1,h2]using this
theorem eqBl_p(a b:List Bool)(ha:a.length≤100000)(hb:b.length≤100000):PC 153 [.snap (encL boolRow a),.snap (encL boolRow b)] (bV (decide (a=b))):=by
 refine pstart Tryz.func153 Tryz.ntmps153 (.c _) ?_;have ga:=gBl a;have gb:=gBl b;obtain⟨M,hM⟩:∃M,decide (a=b)=M:=⟨_,rfl⟩;rw[hM];by_cases g1:a.length=b.length
 case neg=>
  have:¬a=b:=fun h=>g1 (by rw[h])
  rw[decide_eq_false this]at hM;subst hM;have g1':((a.length:Int) !=(b.length:Int))=true:=bne_iff_ne.2 (by omega)
  clear this g1 ga gb;refine zgo ?_;exact zfin
 have g1':((a.length:Int) !=(b.length:Int))=false:=by simp[g1]
 refine zgo ?_;refine zfor (α:=Unit) a.length (fun k _=> [(13,true,zV k),(12,true,zV a.length),(1,true,.snap (encL boolRow b)),(0,true,.snap (encL boolRow a))]) (fun _ _=> []) (fun k m _=>∀i,i<k→a.getD i false=b.getD i false) ⟨100,(),(fun i hi=>absurd hi (by omega)),zholds⟩ (fun k m _ hk hR=> ?_) (fun m _ hR=> ?_)
 ·have gak:(encL boolRow a)[k]? =some [bV (a.getD k false)]:=ga k hk
  have gbk:(encL boolRow b)[k]? =some [bV (b.getD k false)]:=gb k (by omega)
  clear ga gb;obtain⟨x,hx⟩:∃x,a.getD k false=x:=⟨_,rfl⟩;obtain⟨y,hy⟩:∃y,b.getD k false=y:=⟨_,rfl⟩;rw[hx]at gak;rw[hy]at gbk;have hkb:k<b.length:=by omega
  by_cases g:x=y
  ·have hR2:Lat (∀i,i<k+1→a.getD i false=b.getD i false):=⟨fun i hi=>by
    rcases Nat.lt_or_ge i k with h1|h1
    ·exact hR i h1
    ·rw[show i=k by omega,hx,hy];exact g⟩
   have hd:(x==y)=true:=by simpa using g
   clear hR hx hy g hM;refine zgo ?_;exact⟨m+20,(),hR2.out,zholds⟩
  ·have:¬a=b:=fun h=>g (by rw[←hx,←hy,h])
   rw[decide_eq_false this]at hM;subst hM;have hd:(x==y)=false:=by simpa using g
   clear hR hx hy g this;refine zgo ?_;exact zfin
 ·have h1:a=b:=getD_ext false g1 hR
  rw[decide_eq_true h1]at hM;subst hM;clear hR h1;refine zgo ?_;exact zfin
theorem eqPs_p(a b:List (List Int))(ha:a.length≤100000)(hb:b.length≤100000)(h1:∀x∈a,∀y∈x,ByteOK y)(h2:∀x∈b,∀y∈x,ByteOK y):PC 154 [.snap (encL byteL a),.snap (encL byteL b),.fn (.func 155) [] []] (bV (decide (a=b))):=by
 refine pstart Tryz.func154 Tryz.ntmps154 (.c _) ?_;have ga:=gHb a;have gb:=gHb b;obtain⟨M,hM⟩:∃M,decide (a=b)=M:=⟨_,rfl⟩;rw[hM];by_cases g1:a.length=b.length
 case neg=>
  have:¬a=b:=fun h=>g1 (by rw[h])
  rw[decide_eq_false this]at hM;subst hM;have g1':((a.length:Int) !=(b.length:Int))=true:=bne_iff_ne.2 (by omega)
  clear this g1 ga gb h1 h2;refine zgo ?_;exact zfin
 replace h1:=Lat.mk h1
 replace h2:=Lat.mk h2
 have g1':((a.length:Int) !=(b.length:Int))=false:=by simp[g1]
 refine zgo ?_;refine zfor (α:=Unit) a.length (fun k _=> [(17,true,zV k),(16,true,zV a.length),(15,true,.snap (encL byteL a)),(2,true,.fn (.func 155) [] []),(1,true,.snap (encL byteL b)),(0,true,.snap (encL byteL a))]) (fun _ _=> []) (fun k m _=>∀i,i<k→a.getD i []=b.getD i []) ⟨100,(),(fun i hi=>absurd hi (by omega)),zholds⟩ (fun k m _ hk hR=> ?_) (fun m _ hR=> ?_)
 ·have gak:=ga k hk
  have gbk:=gb k (by omega)
  have c1:=same1_p (a.getD k []) (b.getD k []) (h1.out _ (getD_mem' [] hk)) (h2.out _ (getD_mem' [] (by omega)))
  clear ga gb;obtain⟨x,hx⟩:∃x,a.getD k []=x:=⟨_,rfl⟩;obtain⟨y,hy⟩:∃y,b.getD k []=y:=⟨_,rfl⟩;rw[hx]at gak c1;rw[hy]at gbk c1;have hkb:k<b.length:=by omega
  by_cases g:x=y
  ·have hR2:Lat (∀i,i<k+1→a.getD i []=b.getD i []):=⟨fun i hi=>by
    rcases Nat.lt_or_ge i k with h1|h1
    ·exact hR i h1
    ·rw[show i=k by omega,hx,hy];exact g⟩
   rw[decide_eq_true g]at c1;clear hR hx hy g hM;refine zgo ?_;exact⟨m+20,(),hR2.out,zholds⟩
  ·have:¬a=b:=fun h=>g (by rw[←hx,←hy,h])
   rw[decide_eq_false this]at hM;subst hM;rw[decide_eq_false g]at c1;clear hR hx hy g this;refine zgo ?_;exact zfin
 ·have h1:a=b:=getD_ext [] g1 hR
  rw[decide_eq_true h1]at hM;subst hM;clear hR h1;refine zgo ?_;exact zfin
end Go.Proofs.YtioafciifiggaaaGreatDoor
namespace Go.Proofs.YtioafciifiggaaaGreatDoor
open Go.Proofs Go.AL
set_option maxRecDepth 100000
set_option maxHeartbeats 4000000
attribute [local irreducible] endA AW aops thenA blockA hold
attribute [local irreducible] numG
theorem cloneBl_e(a:Option Addr)(cap:Nat):PC 150 [.c (.slice a 0 cap)] (.snap (encL boolRow [])):=by
 refine pstart Tryz.func150 Tryz.ntmps150 (encL_noId _) ?_;cases a with
 |none=>
  refine zgo ?_;simp only[encL_nil];exact zfin
 |some a=>
  refine zgo ?_;simp only[encL_nil];exact zfin
theorem cloneBl_p(l:List Bool)(hl:l.length≤1000000):PC 150 [.snap (encL boolRow l)] (.snap (encL boolRow l)):=by
 by_cases h:l=[]
 ·subst h
  exact PCall.nil (pre:=[]) (post:=[]) cloneBl_e
 ·refine pstart Tryz.func150 Tryz.ntmps150 (encL_noId l) ?_
  have h1:=isEmpty_f h;refine zgo ?_;exact zfin
theorem cloneBl_o(l:List Bool)(h:l≠[])(hl:l.length≤1000000):OCall Tryz.prog 150 [.snap (encL boolRow l)] 4 1 (encL boolRow l):=by
 refine ostart Tryz.func150 Tryz.ntmps150 (by simp only[go_sem]) (encL_ids l) ?_
 have h1:=isEmpty_f h;refine zgo ?_;exact⟨1,by simp only[go_sem],by simp only[go_sem]⟩
theorem cloneSt_o(l:List Stg)(h:l≠[])(hl:l.length≤1000000):OCall Tryz.prog 199 [.snap (encL stgRow l)] 64 7 (encL stgRow l):=by
 refine ostart Tryz.func199 Tryz.ntmps199 (by simp only[go_sem]) (encL_ids l) ?_
 have h1:=isEmpty_f h;refine zgo ?_;exact⟨1,by simp only[go_sem],by simp only[go_sem]⟩
theorem byteLs_expo(G:Nat→Option Blk)(k:Nat)(l:List (List Int)):(encL byteL l).map (fun row=>row.map (expoD G k))=encL byteL l:=by
 unfold encL;rw[List.map_map];refine List.map_congr_left fun o _=> ?_
 cases k<;>simp[byteL,expoD]
theorem staged_p(a:Asm)(r:List Int)(c:Bool)(ha:a.have_.length≤100000)(hs:a.seen.length≤100000)(hp:∀x∈a.have_,x.length≤100000)(hr:r.length≤200000):PC 73 [.agg (encA a),.snap (encL intRow r),bV c] (.agg (stgRow (stgOf a r c))):=by
 refine pstartD Tryz.func73 Tryz.ntmps73 (by rw[stgRow_eq];simp only[go_sem]) ?_
 have c1:=cloneBl_p a.seen (by omega)
 have c2:=cloneI_p r (by omega)
 have hg:=gHb a.have_
 replace hp:=Lat.mk hp
 obtain⟨n,p,s,h,e⟩:=a;rw[stgRow_eq];unfold stgOf encA at*;simp only[]at*;refine zgo2 ?_;refine zfor (α:=Nat) h.length (fun k id=> [(26,true,zV k),(25,true,zV h.length),(24,true,.snap (encL byteL h)),(7,true,.ptr 15 0 0),(6,true,.ptr 1 0 0),(3,true,.ptr 0 0 0)]) (fun k id=>(0,some (.cells 161 5 [[zV n,zV p,zV s,.snap (encL byteL h),.snap (encL boolRow e)]] true false))::(1,some (.cells 64 7 [[zV 0,zV 0,zV 0,.c (.slice none 0 0),.c (.slice none 0 0),.c (.slice none 0 0),bV false]] true false))::(15,some (.cells 64 7 [[zV n,zV p,zV s,oV1 k id,.snap (encL boolRow e),.snap (encL intRow r),bV c]] true false))::oT1 74 1 (encL byteL (h.take k)) k id) (fun k m id=>16≤m∧(0<k→16≤id∧id<m)) ⟨100,0,⟨by omega,fun h=>absurd h (by omega)⟩,zholds⟩ (fun k m id hk hR=> ?_) (fun m id hR=> ?_)
 ·obtain⟨hm,hR⟩:=hR
  have hgk:=hg k hk;have hp1:(h.getD k []).length≤100000:=hp.out _ (getD_mem' [] hk);have c3:=cloneB_p (h.getD k []) (by omega)
  have htk:=take_snoc9 [] hk;have hsn:encL byteL (h.take k)++[[.snap (encL byteRow (h.getD k []))]]=encL byteL (h.take k++[h.getD k []]):=encL_snoc (h.take k) (h.getD k []);have hFl:(h.take k).length=k:=by rw[List.length_take];omega
  rw[htk];clear htk hg hp hp1 c1 c2 hs hr;generalize h.getD k []=x at*;generalize h.take k=F at*;have hone:encL byteL ([]++[x])=[[.snap (encL byteRow x)]]:=rfl;cases k with
  |zero=>
   have hF0:F=[]:=List.eq_nil_of_length_eq_zero hFl;subst hF0;clear hR hFl hsn;refine zgo2 ?_;exact⟨m+40,m+5,⟨by omega,fun _=>by omega⟩,zholds⟩
  |succ q=>
   obtain⟨i1,i2⟩:=hR (by omega)
   clear hR hone;refine zgo2 ?_;exact⟨m+40,m+5,⟨by omega,fun _=>by omega⟩,zholds⟩
 ·obtain⟨hm,hR⟩:=hR
  rw[List.take_length];clear hg hp c1 c2 ha hs hr;cases hh:h.length with
  |zero=>
   have hh0:h=[]:=List.eq_nil_of_length_eq_zero hh;subst hh0;clear hR hh;refine zgo2 ?_;exact zfin2
  |succ q=>
   obtain⟨i1,i2⟩:=hR (by omega)
   have hex:=fun G k=>byteLs_expo G k h
   have htk:h.take (q+1)=h:=List.take_of_length_le (by omega)
   have hno:(∀row,row∈encL byteL h→∀x,x∈row→NoId x)=True:=eq_true (encL_ids h);clear hR;refine zgo2 ?_;exact zfin2
end Go.Proofs.YtioafciifiggaaaGreatDoor
namespace Go.Proofs.YtioafciifiggaaaGreatDoor
open Go.Proofs Go.AL
set_option maxRecDepth 100000
set_option maxHeartbeats 4000000
attribute [local irreducible] endA AW aops thenA blockA hold
attribute [local irreducible] numG
theorem u8w(x:Int):IntKind.u8.wrap x=x % 256:=by
 simp[IntKind.wrap,IntKind.bits,IntKind.signed]
theorem fd8(n:Int):n.fdiv (2 ^ min 8 64)=n/256:=by
 have:(2:Int) ^ min 8 64=256:=by decide
 rw[this,Int.fdiv_eq_ediv_of_nonneg _ (by decide)]
theorem little2_p(n:Int)(h0:0≤n)(h1:n≤4294967295):PC 239 [zV n,zV 2] (.snap (encL byteRow (litB n 2))):=by
 refine pstart Tryz.func239 Tryz.ntmps239 (encL_noId _) ?_;have hr:encL byteRow (litB n 2)=[[uV (n % 256)],[uV (n/256 % 256)]]:=rfl;rw[hr];have hd:=fd8;have hu:=u8w;refine zgo2 ?_;refine w_rounds 3 ?_;refine w_round ?_;refine zgo2 ?_;exact zfin
theorem little4_p(n:Int)(h0:0≤n)(h1:n≤4294967295):PC 239 [zV n,zV 4] (.snap (encL byteRow (litB n 4))):=by
 refine pstart Tryz.func239 Tryz.ntmps239 (encL_noId _) ?_;have hr:encL byteRow (litB n 4)=[[uV (n % 256)],[uV (n/256 % 256)],[uV (n/256/256 % 256)],[uV (n/256/256/256 % 256)]]:=rfl;rw[hr];have hd:=fd8;have hu:=u8w;refine zgo2 ?_;refine w_rounds 5 ?_;refine w_round ?_;refine zgo2 ?_;exact zfin
end Go.Proofs.YtioafciifiggaaaGreatDoor
namespace Go.Proofs.YtioafciifiggaaaGreatDoor
open Go.Proofs Go.AL
set_option maxRecDepth 100000
set_option maxHeartbeats 4000000
attribute [local irreducible] endA AW aops thenA blockA hold
attribute [local irreducible] numG
theorem dne{x y:Int}(h:¬x=y):(x==y)=false∧(x !=y)=true:=⟨beq_eq_false_iff_ne.2 h,bne_iff_ne.2 h⟩
theorem dself(x:Int):(x==x)=true∧(x !=x)=false:=by simp
theorem dneL{x y:Nat}(h:¬x=y):((x:Int)==(y:Int))=false∧((x:Int) !=(y:Int))=true:=⟨beq_eq_false_iff_ne.2 (by omega),bne_iff_ne.2 (by omega)⟩
theorem deqL{x y:Nat}(h:x=y):((x:Int)==(y:Int))=true∧((x:Int) !=(y:Int))=false:=by simp[h]
theorem same_p(a b:Asm)(ha:a.have_.length≤100000)(hb:b.have_.length≤100000)(sa:a.seen.length≤100000)(sb:b.seen.length≤100000)(h1:∀x∈a.have_,∀y∈x,ByteOK y)(h2:∀x∈b.have_,∀y∈x,ByteOK y):PC 76 [.agg (encA a),.agg (encA b)] (bV (decide (a=b))):=by
 refine pstart Tryz.func76 Tryz.ntmps76 (.c _) ?_;have c1:=eqBl_p a.seen b.seen sa sb;have c2:=eqPs_p a.have_ b.have_ ha hb h1 h2;clear h1 h2 ha hb sa sb;obtain⟨M,hM⟩:∃M,decide (a=b)=M:=⟨_,rfl⟩;rw[hM];obtain⟨an,ap,az,ah,ae⟩:=a;obtain⟨bn,bp,bs,bh,be⟩:=b;unfold encA;simp only[]at*;by_cases g1:an=bn
 case neg=>
  rw[decide_eq_false (fun h=>g1 (by injection h))]at hM
  subst hM;obtain⟨g,gx⟩:=dne g1;clear g1 c1 c2;refine zgo2 ?_;exact zfin
 by_cases g2:ap=bp
 case neg=>
  rw[decide_eq_false (fun h=>g2 (by injection h))]at hM
  subst hM;obtain⟨g,gx⟩:=dne g2;subst g1;obtain⟨d1,d1x⟩:=dself an;clear g2 c1 c2;refine zgo2 ?_;exact zfin
 by_cases g3:az=bs
 case neg=>
  rw[decide_eq_false (fun h=>g3 (by injection h))]at hM
  subst hM;obtain⟨g,gx⟩:=dne g3;subst g1 g2;obtain⟨d1,d1x⟩:=dself an;obtain⟨d2,d2x⟩:=dself ap;clear g3 c1 c2;refine zgo2 ?_;exact zfin
 by_cases g4:ae=be
 case neg=>
  rw[decide_eq_false (fun h=>g4 (by injection h))]at hM
  subst hM;rw[decide_eq_false g4]at c1;subst g1 g2 g3;obtain⟨d1,d1x⟩:=dself an;obtain⟨d2,d2x⟩:=dself ap;obtain⟨d3,d3x⟩:=dself az;clear g4 c2;refine zgo2 ?_;exact zfin
 by_cases g5:ah=bh
 case neg=>
  rw[decide_eq_false (fun h=>g5 (by injection h))]at hM
  subst hM;rw[decide_eq_true g4]at c1;rw[decide_eq_false g5]at c2;subst g1 g2 g3;obtain⟨d1,d1x⟩:=dself an;obtain⟨d2,d2x⟩:=dself ap;obtain⟨d3,d3x⟩:=dself az;clear g4 g5;refine zgo2 ?_;exact zfin
 ·rw[decide_eq_true g4]at c1
  rw[decide_eq_true g5]at c2;subst g1 g2 g3 g4 g5;rw[decide_eq_true rfl]at hM;subst hM;obtain⟨d1,d1x⟩:=dself an;obtain⟨d2,d2x⟩:=dself ap;obtain⟨d3,d3x⟩:=dself az;refine zgo2 ?_;exact zfin
theorem qsame_p(a b:Asm)(ha:a.have_.length≤100000)(hb:b.have_.length≤100000)(sa:a.seen.length≤100000)(sb:b.seen.length≤100000)(h1:∀x∈a.have_,∀y∈x,ByteOK y)(h2:∀x∈b.have_,∀y∈x,ByteOK y):PC 100 [.agg (encA a),.agg (encA b)] (bV (decide (a=b))):=by
 refine pstart Tryz.func100 Tryz.ntmps100 (.c _) ?_;obtain⟨M,hM⟩:∃M,decide (a=b)=M:=⟨_,rfl⟩;rw[hM];obtain⟨an,ap,az,ah,ae⟩:=a;obtain⟨bn,bp,bs,bh,be⟩:=b;unfold encA;simp only[]at*;by_cases g1:an=bn
 case neg=>
  rw[decide_eq_false (fun h=>g1 (by injection h))]at hM
  subst hM;obtain⟨g,gx⟩:=dne g1;clear g1 h1 h2;refine zgo2 ?_;exact zfin
 by_cases g2:ap=bp
 case neg=>
  rw[decide_eq_false (fun h=>g2 (by injection h))]at hM
  subst hM;obtain⟨g,gx⟩:=dne g2;subst g1;obtain⟨d1,d1x⟩:=dself an;clear g2 h1 h2;refine zgo2 ?_;exact zfin
 by_cases g3:az=bs
 case neg=>
  rw[decide_eq_false (fun h=>g3 (by injection h))]at hM
  subst hM;obtain⟨g,gx⟩:=dne g3;subst g1 g2;obtain⟨d1,d1x⟩:=dself an;obtain⟨d2,d2x⟩:=dself ap;clear g3 h1 h2;refine zgo2 ?_;exact zfin
 by_cases g4:ah.length=bh.length
 case neg=>
  rw[decide_eq_false (fun h=>g4 (by injection h with _ _ _ h _;rw[h]))]at hM
  subst hM;obtain⟨g,gx⟩:=dneL g4;subst g1 g2 g3;obtain⟨d1,d1x⟩:=dself an;obtain⟨d2,d2x⟩:=dself ap;obtain⟨d3,d3x⟩:=dself az;clear g4 h1 h2;refine zgo2 ?_;exact zfin
 by_cases g5:ae.length=be.length
 case neg=>
  rw[decide_eq_false (fun h=>g5 (by injection h with _ _ _ _ h;rw[h]))]at hM
  subst hM;obtain⟨g,gx⟩:=dneL g5;subst g1 g2 g3;obtain⟨d1,d1x⟩:=dself an;obtain⟨d2,d2x⟩:=dself ap;obtain⟨d3,d3x⟩:=dself az;obtain⟨d4,d4x⟩:=deqL g4;clear g5 h1 h2;refine zgo2 ?_;exact zfin
 have hM2:decide (ah=bh∧ae=be)=M:=by
  rw[←hM];exact decide_eq_decide.2 ⟨fun h=>by rw[g1,g2,g3,h.1,h.2],fun h=>by injection h with _ _ _ h1 h2;exact⟨h1,h2⟩⟩
 clear hM;subst g1 g2 g3;obtain⟨d1,d1x⟩:=dself an;obtain⟨d2,d2x⟩:=dself ap;obtain⟨d3,d3x⟩:=dself az;obtain⟨d4,d4x⟩:=deqL g4;obtain⟨d5,d5x⟩:=deqL g5
 replace h1:=Lat.mk h1
 replace h2:=Lat.mk h2
 have ga:=gHb ah;have gb:=gHb bh;have ua:=gBl ae;have ub:=gBl be;refine zgo2 ?_;refine zfor (α:=Unit) ah.length (fun k _=> [(5,true,zV k),(3,true,.ptr 1 0 0),(2,true,.ptr 0 0 0)]) (fun _ _=> [(0,some (.cells 161 5 [[zV an,zV ap,zV az,.snap (encL byteL ah),.snap (encL boolRow ae)]] true false)),(1,some (.cells 161 5 [[zV an,zV ap,zV az,.snap (encL byteL bh),.snap (encL boolRow be)]] true false))]) (fun k m _=>2≤m∧∀i,i<k→ah.getD i []=bh.getD i []) ⟨100,(),⟨by omega,fun i hi=>absurd hi (by omega)⟩,zholds⟩ (fun k m _ hk hR=> ?_) (fun m _ hR=> ?_)
 ·obtain⟨hm,hR⟩:=hR
  have gak:=ga k hk;have gbk:=gb k (by omega)
  have he:=strB_eq (h1.out _ (getD_mem' [] hk)) (h2.out _ (getD_mem' [] (by omega:k<bh.length)))
  clear ga gb ua ub;obtain⟨x,hx⟩:∃x,ah.getD k []=x:=⟨_,rfl⟩;obtain⟨y,hy⟩:∃y,bh.getD k []=y:=⟨_,rfl⟩;rw[hx]at gak he;rw[hy]at gbk he;have hkb:k<bh.length:=by omega
  by_cases g:x=y
  ·have hR2:Lat (∀i,i<k+1→ah.getD i []=bh.getD i []):=⟨fun i hi=>by
    rcases Nat.lt_or_ge i k with h1|h1
    ·exact hR i h1
    ·rw[show i=k by omega,hx,hy];exact g⟩
   rw[decide_eq_true g]at he;clear hR hx hy g hM2;refine zgo2 ?_;exact⟨m+20,(),⟨by omega,hR2.out⟩,zholds⟩
  ·rw[decide_eq_false (fun h=>g (by rw[←hx,←hy,h.1]))]at hM2
   subst hM2;rw[decide_eq_false g]at he;clear hR hx hy g;refine zgo2 ?_;exact zfin
 obtain⟨hm,hR⟩:=hR;have e1:ah=bh:=getD_ext [] g4 hR
 have hM3:decide (ae=be)=M:=by
  rw[←hM2];exact decide_eq_decide.2 ⟨fun h=>⟨e1,h⟩,fun h=>h.2⟩
 clear hM2 hR e1 ga gb;refine zgo2 ?_;refine zfor (α:=Unit) ae.length (fun k _=> [(6,true,zV k),(3,true,.ptr 1 0 0),(2,true,.ptr 0 0 0)]) (fun _ _=> [(0,some (.cells 161 5 [[zV an,zV ap,zV az,.snap (encL byteL ah),.snap (encL boolRow ae)]] true false)),(1,some (.cells 161 5 [[zV an,zV ap,zV az,.snap (encL byteL bh),.snap (encL boolRow be)]] true false))]) (fun k m _=>2≤m∧∀i,i<k→ae.getD i false=be.getD i false) ⟨m+100,(),⟨by omega,fun i hi=>absurd hi (by omega)⟩,zholds⟩ (fun k m _ hk hR=> ?_) (fun m _ hR=> ?_)
 ·obtain⟨hm,hR⟩:=hR
  have gak:(encL boolRow ae)[k]? =some [bV (ae.getD k false)]:=ua k hk;have gbk:(encL boolRow be)[k]? =some [bV (be.getD k false)]:=ub k (by omega)
  clear ua ub;obtain⟨x,hx⟩:∃x,ae.getD k false=x:=⟨_,rfl⟩;obtain⟨y,hy⟩:∃y,be.getD k false=y:=⟨_,rfl⟩;rw[hx]at gak;rw[hy]at gbk;have hkb:k<be.length:=by omega
  by_cases g:x=y
  ·have hR2:Lat (∀i,i<k+1→ae.getD i false=be.getD i false):=⟨fun i hi=>by
    rcases Nat.lt_or_ge i k with h1|h1
    ·exact hR i h1
    ·rw[show i=k by omega,hx,hy];exact g⟩
   have hd:(x==y)=true:=by simpa using g
   clear hR hx hy g hM3;refine zgo2 ?_;exact⟨m+20,(),⟨by omega,hR2.out⟩,zholds⟩
  ·rw[decide_eq_false (fun h=>g (by rw[←hx,←hy,h]))]at hM3
   subst hM3;have hd:(x==y)=false:=by simpa using g
   clear hR hx hy g;refine zgo2 ?_;exact zfin
 obtain⟨hm,hR⟩:=hR;rw[decide_eq_true (getD_ext false g5 hR)]at hM3;subst hM3;clear hR ua ub;refine zgo2 ?_;exact zfin
end Go.Proofs.YtioafciifiggaaaGreatDoor
namespace Go.Proofs.YtioafciifiggaaaGreatDoor
open Go.Proofs Go.AL
set_option maxRecDepth 100000
set_option maxHeartbeats 4000000
attribute [local irreducible] endA AW aops thenA blockA hold
attribute [local irreducible] numG
@[go_sem] theorem stg_snoc(F:List Stg)(n p s:Int)(h:List (List Int))(e:List Bool)(r:List Int)(c:Bool):encL stgRow F++[[zV n,zV p,zV s,.snap (encL byteL h),.snap (encL boolRow e),.snap (encL intRow r),bV c]]=encL stgRow (F++[⟨n,p,s,h,e,r,c⟩]):=encL_snoc F ⟨n,p,s,h,e,r,c⟩
end Go.Proofs.YtioafciifiggaaaGreatDoor
