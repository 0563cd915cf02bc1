/- Staging: contracts of its functions (Ab). No condition but those named. -/
import Derived.Test.YtioafciifiggaaaGreatDoorAa
import Derived.Test.YtioafciifiggaaaGreatDoorLe
import Derived.KernelRfl
set_option linter.unusedVariables false
set_option linter.unusedSimpArgs false
namespace Go.Proofs.YtioafciifiggaaaGreatDoor
open Go.Proofs Go.AL
abbrev PC(n:FuncId)(args:List AV)(r:AV):Prop:=PCall Tryz.prog n args (·=r)
abbrev FC(n:FuncId)(args:List AV)(r:AV):Prop:=FCall Tryz.prog n args r
abbrev Sec:=(Int×Int×Int×Int)×(Int×Int×Int×Int)
abbrev uV(x:Int):AV:= .c (.int .u8 x)
def encSec(s:Sec):List AV:=[uV s.1.1,uV s.1.2.1,uV s.1.2.2.1,uV s.1.2.2.2,uV s.2.1,uV s.2.2.1,uV s.2.2.2.1,uV s.2.2.2.2]
def zSec:Sec:=((0,0,0,0),(0,0,0,0))
def encCa(x:Int×Sec):List AV:=zV x.1::encSec x.2
theorem sec_noId(s:Sec):∀x∈encSec s,NoId x:=by
 intro x hx;simp only[encSec,List.mem_cons,List.not_mem_nil,or_false]at hx;rcases hx with rfl|rfl|rfl|rfl|rfl|rfl|rfl|rfl<;>exact .c _
@[go_sem] theorem sec_noIdE(s:Sec):(∀x,x∈encSec s→NoId x)=True:=eq_true (sec_noId s)
@[go_sem] theorem sec_len(s:Sec):(encSec s).length=8:=rfl
@[go_sem] theorem sec_one(s:Sec):(encSec s).all AV.one=true:=rfl
@[go_sem] theorem sec_take(s:Sec):(encSec s).take 8=encSec s:=rfl
@[go_sem] theorem sec_drop(s:Sec):(encSec s).drop 8=[]:=rfl
@[go_sem] theorem sec_expo(G:Nat→Option Blk)(s:Sec):(encSec s).map (expo1 G)=encSec s:=rfl
instance :RowEnc encSec 8:=⟨sec_len,sec_one,sec_noId⟩
instance :RowEnc encCa 9:=⟨fun _=>rfl,fun _=>rfl,fun a x hx=>by
 simp only[encCa,List.mem_cons]at hx;rcases hx with rfl|hx
 ·exact .c _
 ·exact sec_noId _ x hx⟩
def byteRow(x:Int):List AV:=[uV x]
instance :RowEnc byteRow 1:=⟨fun _=>rfl,fun _=>rfl,fun _ x hx=>by simp[byteRow]at hx;subst hx;exact .c _⟩
@[go_sem] theorem zeroT_sec:zeroT Tryz.prog 124=some (encSec zSec):=by kernel_rfl
theorem ca_oneE(x:Int)(s:Sec):[zV x::encSec s]=encL encCa [(x,s)]:=rfl
theorem sec_snocE(a:List Sec)(s:Sec):encL encSec a++[encSec s]=encL encSec (a++[s]):=encL_snoc a s
theorem sec_setE(a:List Sec)(i:Nat)(s:Sec):(encL encSec a).set i (encSec s)=encL encSec (a.set i s):=encL_set a i s
theorem sec_replE(n:Nat)(s:Sec):List.replicate n (encSec s)=encL encSec (List.replicate n s):=encL_repl n s
theorem by_snocE(a:List Int)(x:Int):encL byteRow a++[[uV x]]=encL byteRow (a++[x]):=encL_snoc a x
theorem by_setE(l:List Int)(i:Nat)(x:Int):(encL byteRow l).set i [uV x]=encL byteRow (l.set i x):=encL_set l i x
theorem by_repl(n:Nat)(x:Int):List.replicate n [uV x]=encL byteRow (List.replicate n x):=encL_repl (f:=byteRow) n x
attribute [go_sem] ca_oneE sec_snocE sec_setE sec_replE by_snocE by_setE by_repl byteRow encCa List.take_length List.length_map List.length_replicate List.take_replicate Nat.min_self Nat.le_refl
attribute [go_sem] dec_ltT dec_ltF dec_leT dec_leF beq_T beq_F bne_T bne_F
end Go.Proofs.YtioafciifiggaaaGreatDoor
namespace Go.Proofs.YtioafciifiggaaaGreatDoor
open Go.Proofs Go.AL
set_option maxRecDepth 100000
set_option maxHeartbeats 1000000
attribute [local irreducible] endA AW aops thenA blockA hold
theorem gI(l:List Int)(k:Nat)(h:k<l.length):(encL intRow l)[k]? =some (intRow (l.getD k 0)):=encL_get 0 h
def sumW(l:List Int):Int:=l.foldl (fun s x=>IntKind.i64.wrap (s+x)) 0
theorem sumW_succ{l:List Int}{k:Nat}(h:k<l.length):sumW (l.take (k+1))=IntKind.i64.wrap (sumW (l.take k)+l.getD k 0):=by
 unfold sumW;rw[List.take_succ_eq_append_getElem h,List.foldl_append];simp[h]
def badSz(n:Int):Bool:=decide (n<1)||decide (4096<n)
theorem badSz_p(n:Int):PC 273 [zV n] (bV (badSz n)):=by
 refine pstart Tryz.func273 Tryz.ntmps273 (.c _) ?_;refine zgo ?_;exact zfin
theorem index_p(l:List Int)(hl:l.length≤1000000):PC 274 [.snap (encL intRow l),.fn (.func 273) [] []] (zV (match l.findIdx? badSz with|some i=>(i:Int)|none=> -1)):=by
 refine pstart Tryz.func274 Tryz.ntmps274 (.c _) ?_;refine zgo ?_;have hg:=gI l;have c1:=badSz_p;refine zfor (α:=Unit) l.length (fun k _=> [(8,true,zV k),(7,true,zV l.length),(0,true,.snap (encL intRow l)),(1,true,.fn (.func 273) [] [])]) (fun _ _=> []) (fun k m _=>∀i,i<k→badSz (l.getD i 0)=false) ⟨0,(),fun i hi=>by omega,zholds⟩ (fun k m _ hk hR=> ?_) (fun m _ hR=> ?_)
 ·refine zgo ?_
  refine zsplit (fun h=> ?_) (fun h=> ?_)
  ·have hf:l.findIdx? badSz=some k:=by
    rw[List.findIdx?_eq_some_iff_getElem];exact⟨hk,by simpa[hk]using h,fun j hj=>by have:=hR j hj;simp[show j<l.length by omega]at this;simpa using this⟩
   refine zgo ?_;exact zfin
  ·refine zgo ?_
   refine⟨m,(),fun i hi=> ?_,zholds⟩
   by_cases hik:i=k
   ·subst hik;exact h
   ·exact hR i (by omega)
 ·have hf:l.findIdx? badSz=none:=by
   rw[List.findIdx?_eq_none_iff];intro x hx;obtain⟨i,hi⟩:=List.mem_iff_getElem?.1 hx;obtain⟨h1,h2⟩:=List.getElem?_eq_some_iff.1 hi;have:=hR i h1;simp[h1,h2]at this;exact this
  refine zgo ?_;exact zfin
end Go.Proofs.YtioafciifiggaaaGreatDoor
namespace Go.Proofs.YtioafciifiggaaaGreatDoor
open Go.Proofs Go.AL
set_option maxRecDepth 100000
set_option maxHeartbeats 1000000
attribute [local irreducible] endA AW aops thenA blockA hold
def idxZ(o:Option Nat):Int:=match o with|some i=>(i:Int)|none=> -1
theorem idxZ_nonneg(l:List Int):decide (0≤idxZ (l.findIdx? badSz))=l.any badSz:=by
 cases h:l.findIdx? badSz with
 |none=>
  rw[List.findIdx?_eq_none_iff]at h;simp only[idxZ];symm;simpa using h
 |some i=>
  rw[List.findIdx?_eq_some_iff_getElem]at h;obtain⟨h1,h2,_⟩:=h;simp only[idxZ];have:l.any badSz=true:=List.any_eq_true.2 ⟨_,List.getElem_mem h1,h2⟩;rw[this];simp
theorem index2_p(l:List Int)(hl:l.length≤1000000):PC 274 [.snap (encL intRow l),.fn (.func 273) [] []] (zV (idxZ (l.findIdx? badSz))):=index_p l hl
theorem contains_p(l:List Int)(hl:l.length≤1000000):PC 231 [.snap (encL intRow l),.fn (.func 273) [] []] (bV (l.any badSz)):=by
 refine pstart Tryz.func231 Tryz.ntmps231 (.c _) ?_;have c1:=index2_p l hl;have h1:=idxZ_nonneg l;refine zgo ?_;exact zfin
def sizesE(l:List Int):Int:=if l.length<1∨8<l.length then 6 else if l.any badSz then 2 else 0
theorem sizes_p(l:List Int)(hl:l.length≤1000000):PC 228 [.snap (encL intRow l)] (zV (sizesE l)):=by
 refine pstart Tryz.func228 Tryz.ntmps228 (.c _) ?_;have c1:=contains_p l hl;unfold sizesE;by_cases h1:l.length<1
 ·refine zgo ?_
  exact zfin
 ·by_cases h2:8<l.length
  ·refine zgo ?_
   exact zfin
  ·cases h3:l.any badSz
   ·refine zgo ?_
    exact zfin
   ·refine zgo ?_
    exact zfin
end Go.Proofs.YtioafciifiggaaaGreatDoor
namespace Go.Proofs.YtioafciifiggaaaGreatDoor
open Go.Proofs Go.AL
set_option maxRecDepth 100000
set_option maxHeartbeats 1000000
attribute [local irreducible] endA AW aops thenA blockA hold
theorem rsizes_p(l:List Int)(hl:l.length≤1000000):PC 259 [.snap (encL intRow l)] (zV (sizesE l)):=by
 refine pstart Tryz.func259 Tryz.ntmps259 (.c _) ?_;have hg:=gI l;unfold sizesE;by_cases h1:l.length<1
 ·refine zgo ?_
  exact zfin
 ·by_cases h2:8<l.length
  ·refine zgo ?_
   exact zfin
  ·refine zgo ?_
   refine zfor (α:=Unit) l.length (fun k _=> [(3,true,zV k),(0,true,.snap (encL intRow l))]) (fun _ _=> []) (fun k m _=>∀i,i<k→badSz (l.getD i 0)=false) ⟨0,(),fun i hi=>by omega,zholds⟩ (fun k m _ hk hR=> ?_) (fun m _ hR=> ?_)
   ·have h4:=getD_mem' 0 hk
    by_cases g1:l.getD k 0<1
    ·have h3:l.any badSz=true:=List.any_eq_true.2 ⟨_,h4,by unfold badSz;rw[dec_ltT g1];rfl⟩
     refine zgo ?_;exact zfin
    ·by_cases g2:4096<l.getD k 0
     ·have h3:l.any badSz=true:=List.any_eq_true.2 ⟨_,h4,by unfold badSz;rw[dec_ltT g2];simp⟩
      refine zgo ?_;exact zfin
     ·refine zgo ?_
      refine⟨m,(),fun i hi=> ?_,zholds⟩
      by_cases hik:i=k
      ·subst hik;unfold badSz;rw[dec_ltF g1,dec_ltF g2];rfl
      ·exact hR i (by omega)
   ·have h3:l.any badSz=false:=by
     rw[List.any_eq_false];intro x hx;obtain⟨i,hi⟩:=List.mem_iff_getElem?.1 hx;obtain⟨h1,h2⟩:=List.getElem?_eq_some_iff.1 hi;have:=hR i h1;simp[h1,h2]at this;simp[this]
    refine zgo ?_;exact zfin
def zeros(n:Int):List Sec:=List.replicate n.toNat zSec
def volRow(v:List Sec):List AV:=[.snap (encL encSec v)]
instance :RowEnc volRow 1:=⟨fun _=>rfl,fun _=>rfl,fun _ x hx=>by simp[volRow]at hx;subst hx;exact encL_noId _⟩
theorem vol_snocE(a:List (List Sec))(v:List Sec):encL volRow a++[[.snap (encL encSec v)]]=encL volRow (a++[v]):=encL_snoc a v
attribute [go_sem] vol_snocE volRow
theorem zeros_p(n:Int)(h0:0≤n)(h1:n≤1000000):PC 230 [zV n] (.snap (encL encSec (zeros n))):=by
 refine pstart Tryz.func230 Tryz.ntmps230 (encL_noId _) ?_;refine zgo ?_;unfold zeros;exact zfin
theorem map_snoc{α β:Type}(f:α→β)(d:α){l:List α}{k:Nat}(h:k<l.length):(l.map f).take (k+1)=(l.map f).take k++[f (l.getD k d)]:=by
 rw[List.take_succ_eq_append_getElem (by simpa using h)]
 simp[h]
theorem mapped_p(l:List Int)(hl:l.length≤1000)(h:∀x∈l,0≤x∧x≤1000000):PC 229 [.snap (encL intRow l),.fn (.func 230) [] []] (.snap (encL volRow (l.map zeros))):=by
 refine pstart Tryz.func229 Tryz.ntmps229 (encL_noId _) ?_;have hg:=gI l;have c1:=zeros_p;refine zgo ?_;refine zfor (α:=Nat) l.length (fun k id=> [(13,true,zV k),(12,true,zV l.length),(11,true,.snap (encL intRow l)),(1,true,.fn (.func 230) [] []),(5,true,.own id 0 k)]) (fun k id=> [(id,some (.cells 22 1 (encL volRow ((l.map zeros).take k)) true true))]) (fun k m id=>id<m) ⟨1,0,by omega,zholds⟩ (fun k m id hk hR=> ?_) (fun m id hR=> ?_)
 ·have h2:=h _ (getD_mem' 0 hk)
  have h3:=h2.1;have h4:=h2.2;have h5:=map_snoc zeros 0 hk;have h6:((l.map zeros).take k).length=k:=by simp;omega
  refine zgo ?_;exact⟨m+2,m+1,by omega,zholds⟩
 ·have h6:(l.map zeros).take l.length=l.map zeros:=List.take_of_length_le (by simp)
  refine zgo ?_;exact zfin
end Go.Proofs.YtioafciifiggaaaGreatDoor
namespace Go.Proofs.YtioafciifiggaaaGreatDoor
open Go.Proofs Go.AL
set_option maxRecDepth 100000
set_option maxHeartbeats 1000000
attribute [local irreducible] endA AW aops thenA blockA hold
theorem sizes_ok{l:List Int}(h:sizesE l=0):1≤l.length∧l.length≤8∧∀x∈l,1≤x∧x≤4096:=by
 unfold sizesE at h;split at h
 ·cases h
 ·rename_i h1
  split at h
  ·cases h
  ·rename_i h2
   refine⟨by omega,by omega,fun x hx=> ?_⟩
   have h3:l.any badSz=false:=by simpa using h2
   rw[List.any_eq_false]at h3;have:=h3 x hx;simp[badSz]at this;omega
def sum(l:List Int):Int:=l.foldl (·+ ·) 0
theorem sum_cons(x:Int)(l:List Int):sum (x::l)=x+sum l:=by
 have key:∀(l:List Int) (a:Int),l.foldl (·+ ·) a=a+l.foldl (·+ ·) 0:=by
  intro l
  induction l with
  |nil=>intro a;simp
  |cons y r ih=>intro a;rw[List.foldl_cons,List.foldl_cons,ih,ih (0+y)];omega
 show(x::l).foldl (·+ ·) 0=x+l.foldl (·+ ·) 0
 rw[List.foldl_cons,key];omega
def newIm(l:List Int):List (List Sec):=if sizesE l=0 then l.map zeros else []
theorem new_p(l:List Int)(hl:l.length≤1000000):PC 186 [.snap (encL intRow l)] (.tup [.snap (encL volRow (newIm l)),zV (sizesE l)]):=by
 refine pstart Tryz.func186 Tryz.ntmps186 (by simp only[go_sem]) ?_
 have c1:=sizes_p l hl;unfold newIm;by_cases h:sizesE l=0
 ·obtain⟨h1,h2,h3⟩:=sizes_ok h
  have c2:=mapped_p l (by omega) fun x hx=>by have:=h3 x hx;omega
  refine zgo ?_;exact zfin
 ·refine zgo ?_
  simp only[encL_nil];exact zfin
theorem cloneI_o(l:List Int)(h:l≠[])(hl:l.length≤1000000):OCall Tryz.prog 78 [.snap (encL intRow l)] 3 1 (encL intRow l):=by
 refine ostart Tryz.func78 Tryz.ntmps78 (by simp only[go_sem]) (encL_ids l) ?_
 have h1:=isEmpty_f h;refine zgo ?_;exact⟨1,by simp only[go_sem],by simp only[go_sem]⟩
theorem cloneI_e(a:Option Addr)(cap:Nat):PC 78 [.c (.slice a 0 cap)] (.snap (encL intRow [])):=by
 refine pstart Tryz.func78 Tryz.ntmps78 (encL_noId _) ?_;cases a with
 |none=>
  refine zgo ?_;simp only[encL_nil];exact zfin
 |some a=>
  refine zgo ?_;simp only[encL_nil];exact zfin
theorem cloneI_p(l:List Int)(hl:l.length≤1000000):PC 78 [.snap (encL intRow l)] (.snap (encL intRow l)):=by
 by_cases h:l=[]
 ·subst h
  exact PCall.nil (pre:=[]) (post:=[]) cloneI_e
 ·refine pstart Tryz.func78 Tryz.ntmps78 (encL_noId l) ?_
  have h1:=isEmpty_f h;refine zgo ?_;exact zfin
end Go.Proofs.YtioafciifiggaaaGreatDoor
namespace Go.Proofs.YtioafciifiggaaaGreatDoor
open Go.Proofs Go.AL
set_option maxRecDepth 100000
set_option maxHeartbeats 1000000
attribute [local irreducible] endA AW aops thenA blockA hold
theorem gB(l:List Int)(k:Nat)(h:k<l.length):(encL byteRow l)[k]? =some (byteRow (l.getD k 0)):=encL_get 0 h
theorem byteK(l:List Int):∀row∈encL byteRow l,∀x∈row,∃v,x= .c v:=by
 intro row hr x hx;simp only[encL,List.mem_map]at hr;obtain⟨a,_,rfl⟩:=hr;simp[byteRow]at hx;exact⟨_,hx⟩
theorem expoB(G:Nat→Option Blk)(k:Nat)(l:List Int):(encL byteRow l).map (fun row=>row.map (expoD G k))=encL byteRow l:=encL_expoD (fun a x hx=>by simp[byteRow]at hx;exact⟨_,hx⟩) G k l
theorem idsB(G:Nat→Option Blk)(k:Nat)(l:List Int):(encL byteRow l).flatMap (fun row=>row.flatMap (idsD G k))=[]:=encL_idsD (fun a x hx=>by simp[byteRow]at hx;exact⟨_,hx⟩) G k l
attribute [go_sem] expoB idsB
def vg(n:Nat):List Int:=if h:n<128 then [(n:Int)]else((n % 128+128:Nat):Int)::vg (n/128)
termination_by n
decreasing_by omega
theorem vg_lt{n:Nat}(h:n<128):vg n=[(n:Int)]:=by rw[vg];simp[h]
theorem vg_ge{n:Nat}(h:¬n<128):vg n=((n % 128+128:Nat):Int)::vg (n/128):=by rw[vg];simp[h]
theorem vg_len:∀(f n:Nat),n<128 ^ (f+1)→(vg n).length≤f+1
 |0,n,h=>by rw[vg_lt (by simpa using h)];simp
 |f+1,n,h=>by
  by_cases hn:n<128
  ·rw[vg_lt hn];simp
  ·rw[vg_ge hn,List.length_cons]
   have:=vg_len f (n/128) (by rw[Nat.pow_succ]at h;omega)
   omega
def clampN(n:Int):Nat:=if n<0∨9007199254740991<n then 0 else n.toNat
def vint(n:Int):List Int:=vg (clampN n)
theorem or128{x:Int}(h0:0≤x)(h1:x<128):bits .or .u8 x 128=x+128:=by
 have key:∀i:Fin 128,bits .or .u8 ((i.val:Nat):Int) 128=((i.val:Nat):Int)+128:=by decide
 have:=key ⟨x.toNat,by omega⟩
 simp only at this
 rwa[show((x.toNat:Nat):Int)=x by omega]at this
theorem cloneB_o(l:List Int)(h:l≠[])(hl:l.length≤1000000):OCall Tryz.prog 151 [.snap (encL byteRow l)] 5 1 (encL byteRow l):=by
 refine ostart Tryz.func151 Tryz.ntmps151 (by simp only[go_sem]) (encL_ids l) ?_
 have h1:=isEmpty_f h;refine zgo ?_;exact⟨1,by simp only[go_sem],by simp only[go_sem]⟩
structure Out where
 n:Nat
 out:List Int
 o:AV
 t:List (Nat×Option Blk)
def OutOK(b:List Int)(n0:Nat)(m:Nat)(a:Out):Prop:=
 a.n≤9007199254740991∧a.out++vg a.n=b++vg n0∧((a.o= .c (.slice none 0 0)∧a.t=[]∧a.out=[])∨∃id,id<m∧a.o= .own id 0 a.out.length∧a.t=[(id,some (.cells 5 1 (encL byteRow a.out) true true))])
def ownB(r:AV)(H:Heap)(l:List Int):Prop:=∃i,r= .own i 0 l.length∧H.get i=some (.cells 5 1 (encL byteRow l) true true)
theorem putInt_a(b:List Int)(n:Int)(hb:b.length≤100000)(o:AV)(t:List (Nat×Option Blk))(N:Nat)(h:OutOK b (clampN n) N ⟨clampN n,b,o,t⟩):ACall Tryz.prog 159 [o,zV n] ⟨N,tabG t⟩ fun r H=>ownB r H (b++vint n):=by
 refine astart Tryz.func159 Tryz.ntmps159 ?_;have hcl:clampN n≤9007199254740991:=by unfold clampN;split<;>omega
 refine zgo ?_;refine zmerge [(0,true,o),(1,true,zV (clampN n))] N t ?_ ?_
 ·by_cases h1:n<0
  ·have h2:clampN n=0:=by unfold clampN;rw[if_pos (.inl h1)]
   refine zgo ?_;exact⟨rfl,zholds⟩
  by_cases h3:9007199254740991<n
  ·have h2:clampN n=0:=by unfold clampN;rw[if_pos (.inr h3)]
   refine zgo ?_;exact⟨rfl,zholds⟩
  ·have h2:(clampN n:Int)=n:=by unfold clampN;rw[if_neg (by omega)];omega
   refine zgo ?_;exact⟨rfl,zholds⟩
 refine zgo ?_;refine zwhile (α:=Out) (fun a=> [(0,true,a.o),(1,true,zV (a.n:Int))]) (fun a=>a.t) (OutOK b (clampN n)) (fun a=>a.n) ⟨clampN n,b,o,t⟩ ⟨N,h,zholds⟩ ?_
 rintro m ⟨k,out,o,t⟩ ⟨hk,hinv,ho⟩;simp only[]at hk hinv ho⊢
 have hl:out.length≤100008:=by
  have h1:=congrArg List.length hinv;have h2:=vg_len 7 (clampN n) (by omega)
  simp only[List.length_append]at h1;omega
 by_cases h4:k<128
 ·have h5:¬(128:Int)≤k:=by omega
  rw[vg_lt h4]at hinv;have h6:b++vint n=out++[(k:Int)]:=hinv.symm;clear hinv h;rw[h6];rcases ho with⟨rfl,rfl,rfl⟩|⟨id,hid,rfl,rfl⟩
  ·refine zgo ?_
   exact⟨m+1,rfl,zeq⟩
  ·refine zgo ?_
   exact⟨m+1,zeq,zeq⟩
 ·have h5:(128:Int)≤k:=by omega
  rw[vg_ge h4]at hinv;have h6:=or128 (x:=(k:Int) % 128) (by omega) (by omega)
  have h7:((k:Int)).tdiv 128=((k/128:Nat):Int):=rfl;have h8:(k:Int) % 128+128=((k % 128+128:Nat):Int):=by omega
  have hs:OutOK b (clampN n) (m+2) ⟨k/128,out++[((k % 128+128:Nat):Int)],.own (m+1) 0 (out++[((k % 128+128:Nat):Int)]).length,[(m+1,some (.cells 5 1 (encL byteRow (out++[((k % 128+128:Nat):Int)])) true true))]⟩:=
   ⟨by simp only[];omega,by simp only[];rw[List.append_assoc];exact hinv,.inr ⟨m+1,by omega,rfl,rfl⟩⟩
  clear hinv h;rcases ho with⟨rfl,rfl,rfl⟩|⟨id,hid,rfl,rfl⟩
  ·refine zgo ?_
   exact⟨m+2,_,by simp only[];omega,hs,zholds⟩
  ·refine zgo ?_
   exact⟨m+2,_,by simp only[];omega,hs,zholds⟩
end Go.Proofs.YtioafciifiggaaaGreatDoor
namespace Go.Proofs.YtioafciifiggaaaGreatDoor
open Go.Proofs Go.AL
set_option maxRecDepth 100000
set_option maxHeartbeats 1000000
attribute [local irreducible] endA AW aops thenA blockA hold
@[go_sem] theorem take_snoc{α:Type}(l:List α)(x:α):(l++[x]).take (l.length+1)=l++[x]:=List.take_of_length_le (by simp)
theorem clampN_le(n:Int):clampN n≤9007199254740991:=by unfold clampN;split<;>omega
theorem putInt_e(n:Int)(a:Option Addr)(cap:Nat):FOCall Tryz.prog 80 [.c (.slice a 0 cap),zV n] (.own 0 0 (encL byteRow ([]++vint n)).length) 5 1 (encL byteRow ([]++vint n)) true:=by
 refine fostart Tryz.func80 Tryz.ntmps80 (byteK _) ?_;refine zgo ?_;refine zin Tryz.func151 Tryz.ntmps151 ?_;cases a with
 |none=>
  refine zgo ?_;refine zact (putInt_a [] n (by simp) _ [] 0 ⟨clampN_le n,rfl,.inl ⟨rfl,rfl,rfl⟩⟩) ?_
  rintro r H ⟨i,rfl,hH⟩;refine zgo ?_;exact⟨i,zeq,hH⟩
 |some a=>
  refine zgo ?_;refine zact (putInt_a [] n (by simp) (.own 1 0 0) [(1,some (.cells 5 1 (encL byteRow []) true true))] 2 ⟨clampN_le n,rfl,.inr ⟨1,by omega,rfl,rfl⟩⟩) ?_
  rintro r H ⟨i,rfl,hH⟩;refine zgo ?_;exact⟨i,zeq,hH⟩
theorem putInt_fo(b:List Int)(n:Int)(hb:b.length≤100000):FOCall Tryz.prog 80 [.snap (encL byteRow b),zV n] (.own 0 0 (encL byteRow (b++vint n)).length) 5 1 (encL byteRow (b++vint n)) true:=by
 by_cases hne:b=[]
 ·subst hne
  exact FOCall.nil (pre:=[]) (post:=[zV n]) (putInt_e n)
 ·refine fostart Tryz.func80 Tryz.ntmps80 (byteK _) ?_
  have c1:=cloneB_o b hne (by omega)
  refine zgo ?_;refine zact (putInt_a b n hb _ _ 1 ⟨clampN_le n,rfl,.inr ⟨0,by omega,rfl,rfl⟩⟩) ?_
  rintro r H ⟨i,rfl,hH⟩;refine zgo ?_;exact⟨i,zeq,hH⟩
theorem rputInt_p(b:List Int)(n:Int)(hb:b.length≤100000):PC 168 [.snap (encL byteRow b),zV n] (.snap (encL byteRow (b++vint n))):=by
 refine pstart Tryz.func168 Tryz.ntmps168 (encL_noId _) ?_;have hcl:=clampN_le n;cases hbe:b.isEmpty
 case' false=>
  refine zgo ?_
  refine zmerge [(5,true,.own 0 0 b.length),(1,true,zV (clampN n))] 1 [(0,some (.cells 5 1 (encL byteRow b) true true))] (by
    by_cases h1:n<0
    ·have h2:clampN n=0:=by unfold clampN;rw[if_pos (.inl h1)]
     refine zgo ?_;exact⟨rfl,zholds⟩
    by_cases h3:9007199254740991<n
    ·have h2:clampN n=0:=by unfold clampN;rw[if_pos (.inr h3)]
     refine zgo ?_;exact⟨rfl,zholds⟩
    ·have h2:(clampN n:Int)=n:=by unfold clampN;rw[if_neg (by omega)];omega
     refine zgo ?_
     exact⟨rfl,zholds⟩) ?_
  refine zgo ?_;refine zwhile (α:=Out) (fun a=> [(5,true,a.o),(1,true,zV (a.n:Int))]) (fun a=>a.t) (OutOK b (clampN n)) (fun a=>a.n) ⟨clampN n,b,.own 0 0 b.length,[(0,some (.cells 5 1 (encL byteRow b) true true))]⟩ ⟨1,⟨hcl,rfl,.inr ⟨0,by omega,rfl,rfl⟩⟩,zholds⟩ ?_
 case' true=>
  have hb0:b=[]:=by simpa using hbe
  refine zgo ?_
  refine zmerge [(5,true,.c (.slice none 0 0)),(1,true,zV (clampN n))] 0 [] (by
    by_cases h1:n<0
    ·have h2:clampN n=0:=by unfold clampN;rw[if_pos (.inl h1)]
     refine zgo ?_;exact⟨rfl,zholds⟩
    by_cases h3:9007199254740991<n
    ·have h2:clampN n=0:=by unfold clampN;rw[if_pos (.inr h3)]
     refine zgo ?_;exact⟨rfl,zholds⟩
    ·have h2:(clampN n:Int)=n:=by unfold clampN;rw[if_neg (by omega)];omega
     refine zgo ?_
     exact⟨rfl,zholds⟩) ?_
  refine zgo ?_;refine zwhile (α:=Out) (fun a=> [(5,true,a.o),(1,true,zV (a.n:Int))]) (fun a=>a.t) (OutOK b (clampN n)) (fun a=>a.n) ⟨clampN n,b,.c (.slice none 0 0),[]⟩ ⟨0,⟨hcl,rfl,.inl ⟨rfl,rfl,hb0⟩⟩,zholds⟩ ?_
 all_goals
   rintro m ⟨k,out,o,t⟩ ⟨hk,hinv,ho⟩;simp only[]at hk hinv ho⊢
   have hl:out.length≤100008:=by
    have h1:=congrArg List.length hinv;have h2:=vg_len 7 (clampN n) (by omega)
    simp only[List.length_append]at h1;omega
   by_cases h4:k<128
   ·have h5:¬(128:Int)≤k:=by omega
    rw[vg_lt h4]at hinv;have h6:b++vint n=out++[(k:Int)]:=hinv.symm;clear hinv;rw[h6];rcases ho with⟨rfl,rfl,rfl⟩|⟨id,hid,rfl,rfl⟩
    ·refine zgo ?_
     exact zfin
    ·refine zgo ?_
     exact zfin
   ·have h5:(128:Int)≤k:=by omega
    rw[vg_ge h4]at hinv;have h6:=or128 (x:=(k:Int) % 128) (by omega) (by omega)
    have h7:((k:Int)).tdiv 128=((k/128:Nat):Int):=rfl;have h8:(k:Int) % 128+128=((k % 128+128:Nat):Int):=by omega
    have hs:OutOK b (clampN n) (m+2) ⟨k/128,out++[((k % 128+128:Nat):Int)],.own (m+1) 0 (out++[((k % 128+128:Nat):Int)]).length,[(m+1,some (.cells 5 1 (encL byteRow (out++[((k % 128+128:Nat):Int)])) true true))]⟩:=
     ⟨by simp only[];omega,by simp only[];rw[List.append_assoc];exact hinv,.inr ⟨m+1,by omega,rfl,rfl⟩⟩
    clear hinv;rcases ho with⟨rfl,rfl,rfl⟩|⟨id,hid,rfl,rfl⟩
    ·refine zgo ?_
     exact⟨m+2,_,by simp only[];omega,hs,zholds⟩
    ·refine zgo ?_
     exact⟨m+2,_,by simp only[];omega,hs,zholds⟩
theorem vint_len(n:Int):(vint n).length≤8:=vg_len 7 _ (by have:=clampN_le n;omega)
end Go.Proofs.YtioafciifiggaaaGreatDoor
