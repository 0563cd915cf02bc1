/- Staging: contracts of its functions (Ax). No condition but those named. -/
import Derived.Test.YtioafciifiggaaaGreatDoorAw
import Derived.Test.YtioafciifiggaaaGreatDoorAv
set_option linter.unusedVariables false
set_option linter.unusedSimpArgs false
namespace Go.Proofs.YtioafciifiggaaaGreatDoor
open Go.Proofs Go.AL
set_option maxRecDepth 100000
set_option maxHeartbeats 8000000
attribute [local irreducible] endA AW aops thenA blockA hold
attribute [local irreducible] numG
theorem guardId:Tryz.prog.eqGuardType Tryz.prog.depth 149=false:=by kernel_rfl
theorem eqId(xs ys:List Int)(hx:xs.length=3)(hy:ys.length=3):eqTop Tryz.prog 149 (.agg (xs.map zV)) (.agg (ys.map zV))=some (decide (xs=ys)):=by
 unfold eqTop;rw[guardId,if_neg (by simp)]
 have hk:keyD Tryz.prog 149=some (.array 3 0):=by kernel_rfl
 unfold keyD at hk;split at hk
 ·rename_i fs hu
  split at hk
  ·cases hk
  ·rename_i hp
   obtain⟨n,hm,he⟩:=map_some0 hk;simp only[TypeDesc.array.injEq,and_true]at he;subst he;have:=eqFs_flat (P:=Tryz.prog) (d:=9998) fs.toList 0 3 xs ys hm (by rw[hx]) (by rw[hy])
   simp only[List.drop_zero]at this
   show eqA Tryz.prog (9999+1) 149 (.agg (xs.map zV)) (.agg (ys.map zV))=_
   rw[eqA_struct hu,if_neg hp];have e1:∀l:List Int,l.map zV=(l.map iV).map AV.c:=fun l=>by rw[List.map_map];rfl
   rw[e1,e1];exact this
 ·cases hk
 ·rename_i hns hna
  exact absurd hk (hna _ _)
theorem guardRg:Tryz.prog.eqGuardType Tryz.prog.depth 27=false:=by kernel_rfl
theorem eqRg(xs ys:List Int)(hx:xs.length=2)(hy:ys.length=2):eqTop Tryz.prog 27 (.agg (xs.map zV)) (.agg (ys.map zV))=some (decide (xs=ys)):=by
 unfold eqTop;rw[guardRg,if_neg (by simp)]
 have hk:keyD Tryz.prog 27=some (.array 2 0):=by kernel_rfl
 unfold keyD at hk;split at hk
 ·rename_i fs hu
  split at hk
  ·cases hk
  ·rename_i hp
   obtain⟨n,hm,he⟩:=map_some0 hk;simp only[TypeDesc.array.injEq,and_true]at he;subst he;have:=eqFs_flat (P:=Tryz.prog) (d:=9998) fs.toList 0 2 xs ys hm (by rw[hx]) (by rw[hy])
   simp only[List.drop_zero]at this
   show eqA Tryz.prog (9999+1) 27 (.agg (xs.map zV)) (.agg (ys.map zV))=_
   rw[eqA_struct hu,if_neg hp];have e1:∀l:List Int,l.map zV=(l.map iV).map AV.c:=fun l=>by rw[List.map_map];rfl
   rw[e1,e1];exact this
 ·cases hk
 ·rename_i hns hna
  exact absurd hk (hna _ _)
def mixR(h:List (List Int))(k:Nat):List (List AV):=encL byteL (h.take k)++List.replicate (h.length-k) [.c (.slice none 0 0)]
theorem mixR_0(h:List (List Int)):List.replicate h.length [AV.c (.slice none 0 0)]=mixR h 0:=rfl
theorem mixR_all(h:List (List Int)):mixR h h.length=encL byteL h:=by unfold mixR;rw[List.take_length,Nat.sub_self];simp
theorem mixR_len{h:List (List Int)}{k:Nat}(hk:k≤h.length):(mixR h k).length=h.length:=by
 unfold mixR;rw[List.length_append,encL_len,List.length_take,List.length_replicate];omega
theorem mixR_get{h:List (List Int)}{k:Nat}(hk:k<h.length):(mixR h k)[k]? =some [.c (.slice none 0 0)]:=by
 unfold mixR;rw[List.getElem?_append_right (by rw[encL_len,List.length_take];omega),List.getElem?_replicate,if_pos (by rw[encL_len,List.length_take];omega)]
theorem mixR_set{h:List (List Int)}{k:Nat}(hk:k<h.length):(mixR h k).set k [.snap (encL byteRow (h.getD k []))]=mixR h (k+1):=by
 unfold mixR;have hl:(encL byteL (h.take k)).length=k:=by rw[encL_len,List.length_take];omega
 rw[List.set_append_right _ _ (by omega),hl,Nat.sub_self,take_snoc9 [] hk,←encL_app,show h.length-k=(h.length-(k+1))+1 by omega,List.replicate_succ,List.set_cons_zero,List.append_assoc]
 rfl
attribute [local irreducible] mixR
theorem badd_p(a:Asm)(b:List Int)(hA:AsmLen a)(hb:∀x∈b,ByteOK x)(hl:b.length≤100000):PC 74 [.agg (encA a),.snap (encL byteRow b)] (.tup [.agg (encA (addE a b).1),zV (addE a b).2]):=by
 refine pstartD Tryz.func74 Tryz.ntmps74 (by simp only[go_sem,encA]) ?_
 have c1:=bchk_p a (by have:=hA.have_;omega) (by have:=hA.seen;omega) (fun y hy=>by have:=(hA.one y hy).1;omega)
 have c2:=bparse_p b hb hl;have hok:=parE_ok hb;have h3:=asmE_3 (a:=a);have h4:=asmE_ok (a:=a);obtain⟨M,hM⟩:∃M,addE a b=M:=⟨_,rfl⟩;rw[hM];unfold addE at hM;generalize asmE a=ae at*;generalize parE b=R at*;obtain⟨⟨n,i,p,s,l⟩,e⟩:=R;obtain⟨an,ap,az,ah,aes⟩:=a;have hone:=hA.one;have hsl:=hA.seen;clear hA hb;unfold encA at*;simp only[]at*;by_cases g1:ae=0
 case neg=>
  rw[if_neg g1]at hM;subst hM;have h3:=h3 g1;subst h3;clear c2 hok h4 hone;unfold zAsm;refine zgo2 ?_;exact zfin
 rw[if_pos g1]at hM;obtain⟨-,-,p1,-,-,-,p2,p3,-⟩:=h4 g1;subst g1;clear h3 h4;by_cases g2:e=0
 case neg=>
  rw[if_neg g2]at hM;subst hM;clear hok hone;unfold zAsm;refine zgo2 ?_;exact zfin
 rw[if_pos g2]at hM;obtain⟨o1,o2,o3,o4,o5,o6,o7,o8,o9,o10,o11⟩:=hok g2;subst g2;clear hok;by_cases g3:n=an
 case neg=>
  rw[if_neg g3]at hM;subst hM;obtain⟨g,gx⟩:=dne g3;clear hone g3;unfold zAsm;refine zgo2 ?_;exact zfin
 rw[if_pos g3]at hM;by_cases g4:p=ap
 case neg=>
  rw[if_neg (fun h=>g4 h.1)]at hM
  subst hM g3;obtain⟨d1,d1x⟩:=dself n;have g:eqTop Tryz.prog 149 (.agg [zV n,zV p,zV s]) (.agg [zV n,zV ap,zV az])=some false:=(eqId [n,p,s] [n,ap,az] rfl rfl).trans (by rw[decide_eq_false (fun h=>g4 (by injection h with _ h;injection h))])
  clear hone g4;unfold zAsm;refine zgo2 ?_;exact zfin
 by_cases g5:s=az
 case neg=>
  rw[if_neg (fun h=>g5 h.2)]at hM
  subst hM g3 g4;obtain⟨d1,d1x⟩:=dself n;have g:eqTop Tryz.prog 149 (.agg [zV n,zV p,zV s]) (.agg [zV n,zV p,zV az])=some false:=(eqId [n,p,s] [n,p,az] rfl rfl).trans (by rw[decide_eq_false (fun h=>g5 (by injection h with _ h;injection h with _ h;injection h))])
  clear hone g5;unfold zAsm;refine zgo2 ?_;exact zfin
 rw[if_pos ⟨g4,g5⟩]at hM;subst g3 g4 g5;obtain⟨d1,d1x⟩:=dself n;obtain⟨i,rfl⟩:=Int.eq_ofNat_of_zero_le o3;rw[Int.toNat_natCast]at hM;subst p2;have hih:i<ah.length:=by omega
 have his:i<aes.length:=by omega
 have c3:=beq_p (ah.getD i []) l (hone _ (getD_mem' [] hih)).2 o10;have hgh:=gHb ah;have hgi:=hgh i hih
 replace hgh:=Lat.mk hgh
 have hgs:(encL boolRow aes)[i]? =some [bV (aes.getD i false)]:=gBl aes i his;have w1:∀k:Nat,k<ah.length→PC 151 [.snap (encL byteRow (ah.getD k []))] (.snap (encL byteRow (ah.getD k []))):=fun k hk=>cloneB_p _ (by have:=(hone _ (getD_mem' [] hk)).1;omega)
 clear hone o10
 replace w1:=Lat.mk w1
 have d4:eqTop Tryz.prog 149 (.agg [zV n,zV ah.length,zV s]) (.agg [zV n,zV ah.length,zV s])=some true:=(eqId [n,ah.length,s] [n,ah.length,s] rfl rfl).trans (by simp)
 generalize aes.getD i false=sb at*;have c4:=cloneBl_o aes (fun h=>by rw[h]at his;simp at his) (by omega)
 have m0:=mixR_0 ah;have hbs:(encL boolRow aes).set i [bV true]=encL boolRow (aes.set i true):=encL_set (f:=boolRow) aes i true;have hps:(encL byteL ah).set i [.snap (encL byteRow l)]=encL byteL (ah.set i l):=encL_set (f:=byteL) ah i l;cases sb with
 |true=>
  by_cases g6:ah.getD i []=l
  case neg=>
   rw[if_pos ⟨rfl,g6⟩]at hM;subst hM;rw[decide_eq_false g6]at c3;unfold zAsm;clear w1;refine zgo2 ?_;exact zfin
  rw[if_neg (fun h=>h.2 g6)]at hM
  subst hM;rw[decide_eq_true g6]at c3;clear g6;refine zgo2 ?_;refine zfor (α:=Unit) ah.length (fun k _=> [(81,true,zV k),(80,true,zV ah.length),(79,true,.snap (encL byteL ah)),(10,true,.ptr 4 0 0),(8,true,.snap (encL byteRow l)),(7,true,.ptr 2 0 0),(4,true,.ptr 1 0 0)]) (fun k _=> [(1,some (.cells 161 5 [[zV 0,zV 0,zV 0,.c (.slice none 0 0),.c (.slice none 0 0)]] true false)),(2,some (.cells 154 4 [[zV n,zV ah.length,zV s,zV i]] true false)),(4,some (.cells 161 5 [[zV n,zV ah.length,zV s,.own 11 0 ah.length,.own 8 0 aes.length]] true false)),(8,some (.cells 4 1 (encL boolRow aes) true true)),(11,some (.cells 74 1 (mixR ah k) true true))]) (fun k m _=>12≤m) ⟨100,(),by omega,zholds⟩ (fun k m _ hk hm=> ?_) (fun m _ hm=> ?_)
  ·have hgk:=hgh.out k hk
   have c5:=w1.out k hk;have m1:=mixR_get hk;have m2:=mixR_set hk;have m3:=mixR_len (h:=ah) (k:=k) (by omega)
   generalize ah.getD k []=x at*;clear hgh w1 hps hbs hgi hgs m0 c4;refine zgo2 ?_;exact⟨m+40,(),by omega,zholds⟩
  ·rw[mixR_all]
   have hl1:(encL byteL ah).length=ah.length:=encL_len ah;have hl2:(encL boolRow aes).length=aes.length:=encL_len aes;have t1:(ah.set i l).take ah.length=ah.set i l:=List.take_of_length_le (by simp)
   have t2:(aes.set i true).take aes.length=aes.set i true:=List.take_of_length_le (by simp)
   have n1:(∀row,row∈encL byteL (ah.set i l)→∀x,x∈row→NoId x)=True:=eq_true (encL_ids _);have n2:(∀row,row∈encL boolRow (aes.set i true)→∀x,x∈row→NoId x)=True:=eq_true (encL_ids _);have x1:=fun G k=>byteLs_expo G k (ah.set i l)
   have x2:=fun G k=>boolRows_expo G k (aes.set i true)
   clear hgh w1 m0 c4;refine zgo2 ?_;exact zfin2
 |false=>
  rw[if_neg (fun h=>absurd h.1 (by decide))]at hM
  subst hM;clear c3;refine zgo2 ?_;refine zfor (α:=Unit) ah.length (fun k _=> [(81,true,zV k),(80,true,zV ah.length),(79,true,.snap (encL byteL ah)),(10,true,.ptr 4 0 0),(8,true,.snap (encL byteRow l)),(7,true,.ptr 2 0 0),(4,true,.ptr 1 0 0)]) (fun k _=> [(1,some (.cells 161 5 [[zV 0,zV 0,zV 0,.c (.slice none 0 0),.c (.slice none 0 0)]] true false)),(2,some (.cells 154 4 [[zV n,zV ah.length,zV s,zV i]] true false)),(4,some (.cells 161 5 [[zV n,zV ah.length,zV s,.own 11 0 ah.length,.own 8 0 aes.length]] true false)),(8,some (.cells 4 1 (encL boolRow aes) true true)),(11,some (.cells 74 1 (mixR ah k) true true))]) (fun k m _=>12≤m) ⟨100,(),by omega,zholds⟩ (fun k m _ hk hm=> ?_) (fun m _ hm=> ?_)
  ·have hgk:=hgh.out k hk
   have c5:=w1.out k hk;have m1:=mixR_get hk;have m2:=mixR_set hk;have m3:=mixR_len (h:=ah) (k:=k) (by omega)
   generalize ah.getD k []=x at*;clear hgh w1 hps hbs hgi hgs m0 c4;refine zgo2 ?_;exact⟨m+40,(),by omega,zholds⟩
  ·rw[mixR_all]
   have hl1:(encL byteL ah).length=ah.length:=encL_len ah;have hl2:(encL boolRow aes).length=aes.length:=encL_len aes;have t1:(ah.set i l).take ah.length=ah.set i l:=List.take_of_length_le (by simp)
   have t2:(aes.set i true).take aes.length=aes.set i true:=List.take_of_length_le (by simp)
   have n1:(∀row,row∈encL byteL (ah.set i l)→∀x,x∈row→NoId x)=True:=eq_true (encL_ids _);have n2:(∀row,row∈encL boolRow (aes.set i true)→∀x,x∈row→NoId x)=True:=eq_true (encL_ids _);have x1:=fun G k=>byteLs_expo G k (ah.set i l)
   have x2:=fun G k=>boolRows_expo G k (aes.set i true)
   clear hgh w1 m0 c4;refine zgo2 ?_;exact zfin2
end Go.Proofs.YtioafciifiggaaaGreatDoor
namespace Go.Proofs.YtioafciifiggaaaGreatDoor
open Go.Proofs Go.AL
set_option maxRecDepth 100000
set_option maxHeartbeats 8000000
attribute [local irreducible] endA AW aops thenA blockA hold
attribute [local irreducible] numG
theorem jlen_p(a c:Int):PC 87 [.agg [zV a,zV c]] (zV (IntKind.i64.wrap (c-16))):=by
 refine pstart Tryz.func87 Tryz.ntmps87 (.c _) ?_;refine zgo2 ?_;exact zfin
theorem jsec_p(a c p:Int):PC 109 [.agg [zV a,zV c],zV p] (zV (IntKind.i64.wrap (IntKind.i64.wrap (a+16)+p))):=by
 refine pstart Tryz.func109 Tryz.ntmps109 (.c _) ?_;refine zgo2 ?_;exact zfin
theorem jnxt_p(j:Jr)(u:Int)(h0:1≤j.first)(h1:j.first≤1073741824)(hl:j.sizes.length≤100000):PC 85 [.agg (encS j u)] (zV (j.first+j.sizes.length)):=by
 refine pstart Tryz.func85 Tryz.ntmps85 (.c _) ?_;have w:=IntWalk.i64_in (j.first+j.sizes.length) (by omega)
 unfold encS;refine zgo2 ?_;exact zfin
theorem jfree_p(j:Jr)(u:Int)(h0:20≤j.count)(h1:j.count≤4096)(h2:0≤u)(h3:u≤4096):PC 58 [.agg (encS j u)] (zV (j.count-16-u)):=by
 refine pstart Tryz.func58 Tryz.ntmps58 (.c _) ?_;have c1:=jlen_p j.start j.count;have w:=IntWalk.i64_in (j.count-16) (by omega)
 have w2:=IntWalk.i64_in (j.count-16-u) (by omega)
 rw[w]at c1;unfold encS;refine zgo2 ?_;exact zfin
theorem ring_o(a c p:Int)(l:List Sec)(h1:0≤a)(h2:a≤4096)(h3:20≤c)(h4:c≤4096)(h5:0≤p)(h6:p<c-16)(hl:l.length≤100000):OCall Tryz.prog 103 [.agg [zV a,zV c],zV p,.snap (encL encSec l)] 100 3 (encL opRow (ringW a (c-16) p l)):=by
 refine ostart Tryz.func103 Tryz.ntmps103 (by simp only[go_sem]) (encL_ids _) ?_
 have c1:=jlen_p a c;have c2:=jsec_p a c p;have c3:=jsec_p a c 0;rw[IntWalk.i64_in (c-16) (by omega)]at c1
 rw[IntWalk.i64_in (a+16) (by omega),IntWalk.i64_in (a+16+p) (by omega)]at c2
 rw[IntWalk.i64_in (a+16) (by omega),IntWalk.i64_in (a+16+0) (by omega)]at c3
 have w:=IntWalk.i64_in (c-16-p) (by omega)
 unfold ringW;obtain⟨q,hq⟩:∃q:Nat,c-16-p=q:=⟨(c-16-p).toNat,by omega⟩
 rw[hq]at w⊢;rw[Int.toNat_natCast];by_cases g:(q:Int)<l.length
 ·rw[if_pos g]
  have g1:min (l.length:Int) q=q:=by omega
  have g2:¬(l.length:Int)<q:=by omega
  have r1:encL opRow [(0,a+16+p,l.take q),(0,a+16,l.drop q)]=[[zV 0,zV (a+16+p),.snap (encL encSec (l.take q))],[zV 0,zV (a+16),.snap (encL encSec (l.drop q))]]:=rfl;rw[r1];have h0:a+16+0=a+16:=by omega
  rw[h0]at c3;have hd:(l.drop q).take (l.length-q)=l.drop q:=List.take_of_length_le (by rw[List.length_drop];exact Nat.le_refl _)
  clear h0;refine zgo2 ?_;exact⟨_,zeq,zeq⟩
 ·rw[if_neg g]
  have g1:min (l.length:Int) q=l.length:=by omega
  have r1:encL opRow [(0,a+16+p,l)]=[[zV 0,zV (a+16+p),.snap (encL encSec l)]]:=rfl;rw[r1];have hd:l.take l.length=l:=List.take_length;refine zgo2 ?_;exact⟨_,zeq,zeq⟩
end Go.Proofs.YtioafciifiggaaaGreatDoor
