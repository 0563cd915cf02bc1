/- Staging: contracts of its functions (Au). No condition but those named. -/
import Derived.Test.YtioafciifiggaaaGreatDoorProg
import Derived.WalkKit
import Derived.Lib.Walk
import Derived.Lib.SliceRun
import Derived.Lib.JoinLaws
import Derived.Lib.AppendZeros
import Derived.Lib.AppendZerosOnto
import Derived.Lib.Overlaps
import Derived.Laws.Externs
import Derived.Laws.CopyRow
import Derived.Laws.IdiomCopy
import Derived.Laws.NewBlocks
import Derived.Deep.RegionLaw
import Derived.Shelf.RegionOpenPlain
set_option linter.unusedVariables false
set_option linter.unusedSimpArgs false
namespace Go.Proofs.YtioafciifiggaaaGreatDoor
open Go.Proofs Go.RowKit Go.Lib
set_option maxRecDepth 100000
theorem wpList_copy9{P:Program}(w:World){ops:Array Oper}{rest:List Oper}{o:Oper}{a:Act}{Q:Exit→Act→World→Prop}(hgd:o.guard=none)(d s:Operand)(t t':TypeId)
  (ho:o.op= .call {callee:= .builtin .copy,args:= #[d,s],argTypes:= #[t,t']}) (v u:Value) (hd:a.eval d=v) (hs:a.eval s=u) {v':Value} {w':World}
  (hr:(Builtin.copy_ #[t,t'] o.type #[v,u]).run P w= .ok v' w') (h:wpList P ops Q rest (a.put o.dst v') w'):wpList P ops Q (o::rest) a w:=
 wpList_plain hgd fun _ hK=>by
  unfold Oper.wp execOp;simp only[ho,resolve,invoke,builtin,Sem.run_bind,Sem.run_pure,Result.andThen_ok,List.map_toArray,List.map_cons,List.map_nil,hd,hs,hr];exact hK _ _ h
theorem step_copy9{P:Program}{ops:Array Oper}{o:Oper}{a:Act}{w:World}{K:Act→World→Prop}{Q:Exit→Act→World→Prop}{E:Prop}
  (hg:o.guard=none) (d x:Operand) (dT sT:TypeId) (hop:o.op=Op.call {callee:=Callee.builtin Builtin.copy,args:= #[d,x],argTypes:= #[dT,sT]})
  (v u:Value) (hd:a.eval d=v) (hx:a.eval x=u) {v':Value} {w':World} (hr:(Builtin.copy_ #[dT,sT] o.type #[v,u]).run P w= .ok v' w') (hK:K (a.put o.dst v') w'):
  if Region.wanted o (yielded ops a.tmps)=true then Oper.wp P o a w K Q else E:=by
 have hw:Region.wanted o (yielded ops a.tmps)=true:=by simp[Region.wanted,hg]
 rw[if_pos hw];unfold Oper.wp;simp[execOp,hop,resolve,invoke,builtin,hd,hx,hr,Result.andThen];exact hK
theorem run_copy9{P:Program}(w:World)(dT sT ty elem:TypeId)(k:Nat)(g o dLen dCap:Nat)(a:Addr)(sLen sCap:Nat)(cur:Array Value)(t:TypeId)(cs:List Value)
  (hu:P.underlying dT=some (.slice elem)) (hk:(P.info? elem).map (·.size)=some k)
  (hg:w.heap[g]? =some (.cells cur t (0,0))) (hn:cs.length=Nat.min sLen dLen*k)
  (hsrc:∀j v,cs[j]? =some v→w.cell? (a.add j)=some v) (hfit:o+cs.length≤cur.size) (h1:∀v∈cs,v.oneCell'=true):
  (Builtin.copy_ #[dT,sT] ty #[.slice (some ⟨g,o,none⟩) dLen dCap,.slice (some a) sLen sCap]).run P w=
    .ok (goInt (Nat.min sLen dLen:Nat)) (w.setRow g (cur.toList.take o++cs++cur.toList.drop (o+cs.length)).toArray):=by
 have hl:=run_loadCells_list (P:=P) w a cs hsrc;have hst:=run_storeCells_at P g o t cs 0 cur w hg (by simpa using hfit) h1
 cases hq:P.info? elem with
 |none=>simp[hq]at hk
 |some i=>
  have hi:i.size=k:=by simpa[hq]using hk
  simp[Builtin.copy_,run_underlying hu,Builtin.lenOf,Builtin.firstCells,sizeOf,typeInfo,hq,hi];rw[←hn,hl];simp[hst]
theorem uC:Tryz.prog.underlying 88=some (.slice 64):=by kernel_rfl
theorem uS:Tryz.prog.underlying 31=some (.slice 64):=by kernel_rfl
theorem kS:(Tryz.prog.info? 64).map (·.size)=some 7:=by kernel_rfl
theorem szS:∀w,(Go.sizeOf 64).run Tryz.prog w= .ok 7 w:=fun w=>by
 have h:=kS;unfold sizeOf typeInfo;cases hq:Tryz.prog.info? 64 with
 |none=>rw[hq]at h;cases h
 |some i=>
  rw[hq]at h;have:i.size=7:=by simpa using h
  simp[hq,this]
set_option maxHeartbeats 4000000 in
theorem ins_room(b n c i vb vc:Nat)(cur x:Array Value)(xl:List Value)(tx:TypeId)(W:World)(hi:i<n)(hroom:n+1≤c)(hc:c*7≤cur.size)(hxl:xl.length=7)(hxc:∀(j:Nat) (v:Value),xl[j]? =some v→x[j]? =some v)(hvb:vb≠b)(hbig:n≤1000000)
  (hb:W.heap[b]? =some (.cells cur 64 (0,0))) (hv:W.heap[vb]? =some (.cells x tx (0,0))) (h1c:∀v∈cur.toList.take (n*7),v.oneCell'=true) (h1v:∀v∈xl,v.oneCell'=true):
  Calls Tryz.prog 200 #[.slice (some ⟨b,0,none⟩) n c,.int .i64 i,.slice (some ⟨vb,0,none⟩) 1 vc] W fun e w'=>
   e= .returned (.slice (some ⟨b,0,none⟩) (n+1) c)∧w'=W.drew.setRow b ((cur.toList.take (i*7)++xl++(cur.toList.take (n*7)).drop (i*7))++cur.toList.drop ((n+1)*7)).toArray:=by
 have hz2:¬((i:Int)=(n:Int)):=by omega
 have hcl:cur.toList.length=cur.size:=by simp
 have hn7:(n+1)*7≤cur.size:=by omega
 have hov:∀lb cb o,(callFunc 240 #[.slice (some ⟨vb,0,none⟩) 1 vc,.slice (some ⟨b,o,none⟩) lb cb]).run Tryz.prog W= .ok (.value (.bool false)) W:=fun lb cb o=>by
  rw[run_callFunc_extern Tryz.func240 (by kernel_rfl) (by kernel_rfl) (by kernel_rfl) (e:=Extern.SlicesOverlaps.overlaps #[31,31] #[4]) (by kernel_rfl),
   Lib.run_overlaps_apart W 31 4 64 uS 7 szS ⟨vb,0,none⟩ ⟨b,o,none⟩ 1 vc lb cb hvb tx 64 x.size cur.size (by simp[World.shape?,hv]) (by simp[World.shape?,hb]) (by omega) (by simp[World.frozen?,hv]) (by simp[World.frozen?,hv])]
  rfl
 have hdl:((cur.toList.take (n*7)).drop (i*7)).length=(n-i)*7:=by
  rw[List.length_drop,List.length_take,hcl];omega
 have hmin1:Nat.min (n+1-i) (n-i)=n-i:=by simp only[Nat.min_def];split<;>omega
 have hbd:W.drew.heap[b]? =some (.cells cur 64 (0,0)):=hb
 have hcp1:∀ty dc sc,(Builtin.copy_ #[88,88] ty #[.slice (some ⟨b,(i+1)*7,none⟩) (n-i) dc,.slice (some ⟨b,i*7,none⟩) (n+1-i) sc]).run Tryz.prog W.drew= .ok (goInt (Nat.min (n+1-i) (n-i):Nat)) (W.drew.setRow b (cur.toList.take ((i+1)*7)++(cur.toList.take (n*7)).drop (i*7)++cur.toList.drop ((i+1)*7+((cur.toList.take (n*7)).drop (i*7)).length)).toArray):=fun ty dc sc=>
  run_copy9 W.drew _ _ ty 64 7 b ((i+1)*7) (n-i) dc ⟨b,i*7,none⟩ (n+1-i) sc cur 64 _ uC kS hbd (by rw[hmin1];exact hdl)
   (fun j v hj=>by
     rw[Addr.add_lit];rw[List.getElem?_drop,List.getElem?_take]at hj;split at hj
     ·simp[World.cell?,hbd]
      simpa using hj
     ·cases hj) (by rw[hdl];omega) (fun v hv=>h1c v (List.mem_of_mem_drop hv))
 obtain⟨C1,hC1⟩:∃C1,C1=(cur.toList.take ((i+1)*7)++(cur.toList.take (n*7)).drop (i*7)++cur.toList.drop ((i+1)*7+((cur.toList.take (n*7)).drop (i*7)).length)).toArray:=⟨_,rfl⟩;rw[←hC1]at hcp1
 have hC1s:C1.size=cur.size:=by
  rw[hC1];simp[hdl];omega
 have hb1:(W.drew.setRow b C1).heap[b]? =some (.cells C1 64 (0,0)):=setRow_heap W.drew b cur C1 _ _ hbd;have hmin2:∀dl:Nat,1≤dl→Nat.min 1 dl=1:=fun dl h=>by simp only[Nat.min_def];split<;>omega
 have hcp2:∀ty dc,(Builtin.copy_ #[88,31] ty #[.slice (some ⟨b,i*7,none⟩) (n+1-i) dc,.slice (some ⟨vb,0,none⟩) 1 vc]).run Tryz.prog (W.drew.setRow b C1)= .ok (goInt (Nat.min 1 (n+1-i):Nat)) ((W.drew.setRow b C1).setRow b (C1.toList.take (i*7)++xl++C1.toList.drop (i*7+xl.length)).toArray):=fun ty dc=>
  run_copy9 (W.drew.setRow b C1) _ _ ty 64 7 b (i*7) (n+1-i) dc ⟨vb,0,none⟩ 1 vc C1 64 xl uC kS hb1 (by rw[hmin2 _ (by omega),hxl])
   (fun j v hj=>by
     rw[Addr.add_lit,cell_setRow_other _ _ _ _ (show vb≠b from hvb)]
     have hvd:W.drew.heap[vb]? =some (.cells x tx (0,0)):=hv;simp[World.cell?,hvd]
     simpa using hxc j v hj) (by rw[hxl,hC1s];omega) h1v
 have hfin:(W.drew.setRow b C1).setRow b (C1.toList.take (i*7)++xl++C1.toList.drop (i*7+xl.length)).toArray=W.drew.setRow b ((cur.toList.take (i*7)++xl++(cur.toList.take (n*7)).drop (i*7))++cur.toList.drop ((n+1)*7)).toArray:=by
  rw[setRow_setRow,hC1];congr 2;simp only[List.toList_toArray];have e1:(i+1)*7+((cur.toList.take (n*7)).drop (i*7)).length=(n+1)*7:=by rw[hdl];omega
  rw[e1];have e2:i*7+xl.length=(i+1)*7:=by rw[hxl];omega
  rw[e2];have e3:(cur.toList.take ((i+1)*7)).length=(i+1)*7:=by rw[List.length_take,hcl];omega
  have e4:(cur.toList.take ((i+1)*7)++(cur.toList.take (n*7)).drop (i*7)++cur.toList.drop ((n+1)*7)).take (i*7)=cur.toList.take (i*7):=by
   rw[List.append_assoc,List.take_append_of_le_length (by omega),List.take_take]
   congr 1;omega
  have e5:(cur.toList.take ((i+1)*7)++(cur.toList.take (n*7)).drop (i*7)++cur.toList.drop ((n+1)*7)).drop ((i+1)*7)=(cur.toList.take (n*7)).drop (i*7)++cur.toList.drop ((n+1)*7):=by
   rw[List.append_assoc,List.drop_append_of_le_length (by omega),List.drop_of_length_le (by omega),List.nil_append]
  rw[e4,e5];simp only[List.append_assoc]
 obtain⟨C2,hC2⟩:∃C2,C2=(C1.toList.take (i*7)++xl++C1.toList.drop (i*7+xl.length)).toArray:=⟨_,rfl⟩;rw[←hC2]at hcp2 hfin;rw[←hfin];clear hC1 hC2 hfin hdl hC1s;have hw1:IntKind.i64.wrap ((i:Int)+1)=(i:Int)+1:=by rw[IntKind.wrap_i64];omega
 have mixed:Tryz.prog.follows .mixedOrders=true:=by kernel_rfl
 have hb1':(0:Int)≤(i:Int)+1:=by omega
 have hin:i≤n:=by omega
 have hb2:¬(c=i+1):=by omega
 have hb4:¬(c=i):=by omega
 have htn:((i:Int)+1).toNat=i+1:=by omega
 have hb3:(i:Int)≤(n:Int)+1:=by omega
 go_enter Tryz.func200,Tryz.ntmps200
 go_wp2_with (simp only[hov])
 go_region_law_o (refine step_copy9 rfl _ _ 88 88 rfl _ _ (by simp[Act.eval,Act.put]) (by simp[Act.eval,Act.put]) (hcp1 _ _ _) ?_)
 go_wp2_with (at_builtin;refine wpList_copy9 _ rfl _ _ 88 31 rfl _ _ rfl rfl (hcp2 _ _) ?_)
 go_ret
 exact⟨rfl,rfl⟩
theorem uI:Tryz.prog.underlying 3=some (.int .i64):=by kernel_rfl
theorem iS:∃i0 z,Tryz.prog.info? 64=some i0∧i0.zero=some z∧i0.size=7∧z.cells.size=7∧i0.bytes≤1000:=by
 have h:(match Tryz.prog.info? 64 with|some i=>(match i.zero with|some z=>(i.size==7&&(z.cells.size==7&&decide (i.bytes≤1000)))|none=>false)|none=>false)=true:=by kernel_rfl
 cases hq:Tryz.prog.info? 64 with
 |none=>rw[hq]at h;cases h
 |some i0=>
  rw[hq]at h;simp only[]at h;cases hz:i0.zero with
  |none=>rw[hz]at h;cases h
  |some z=>
   rw[hz]at h;simp only[Bool.and_eq_true,beq_iff_eq,decide_eq_true_eq]at h;exact⟨i0,z,rfl,hz,h.1,h.2.1,h.2.2⟩
def NewRow(W w':World)(C:Array Value):Prop:=w'.os=W.os∧w'.tape=W.tape∧w'.output=W.output∧(∀k,k<W.heap.size→w'.heap[k]? =W.heap[k]?)∧w'.heap.size=W.heap.size+1∧w'.heap[W.heap.size]? =some (.cells C 64 (0,0))
theorem NewRow.alloc(W:World)(C:Array Value):NewRow W (W.drew.alloc (.cells C 64)) C:=by
 refine⟨rfl,rfl,rfl,fun k hk=> ?_,?_,?_⟩
 ·exact Go.RowKit.Below.heap_alloc W.drew _ k hk
 ·show(W.heap.push _).size=_
  rw[Array.size_push]
 ·show(W.heap.push _)[W.heap.size]? =_
  rw[Array.getElem?_push_size]
theorem NewRow.drew{W w:World}{C:Array Value}(h:NewRow W w C):NewRow W w.drew C:=⟨h.1,h.2.1,h.2.2.1,h.2.2.2.1,h.2.2.2.2.1,h.2.2.2.2.2⟩
theorem NewRow.row{W w:World}{C:Array Value}(h:NewRow W w C)(D:Array Value):NewRow W (w.setRow W.heap.size D) D:=by
 obtain⟨h1,h2,h3,h4,h5,h6⟩:=h;exact⟨h1,h2,h3,fun k hk=>by rw[setRow_other _ _ _ _ (by omega)];exact h4 k hk,by rw[setRow_size];exact h5,setRow_heap w _ C D _ _ h6⟩
set_option maxHeartbeats 4000000 in
theorem ins_grow(b n c i vb vc:Nat)(cur x:Array Value)(xl:List Value)(tb tx:TypeId)(W:World)(hi:i<n)(hnc:n≤c)(hroom:c<n+1)(hc:n*7≤cur.size)(hxl:xl.length=7)(hxc:∀(j:Nat) (v:Value),xl[j]? =some v→x[j]? =some v)(hbig:n≤1000000)
  (hb:W.heap[b]? =some (.cells cur tb (0,0))) (hv:W.heap[vb]? =some (.cells x tx (0,0))) (h1c:∀v∈cur.toList.take (n*7),v.oneCell'=true) (h1v:∀v∈xl,v.oneCell'=true):
  Calls Tryz.prog 200 #[.slice (some ⟨b,0,none⟩) n c,.int .i64 i,.slice (some ⟨vb,0,none⟩) 1 vc] W fun e w'=>
   ∃c' C,e= .returned (.slice (some ⟨W.heap.size,0,none⟩) (n+1) c')∧n+1≤c'∧c'*7≤C.size∧C.toList.take ((n+1)*7)=cur.toList.take (i*7)++xl++(cur.toList.take (n*7)).drop (i*7)∧NewRow W w' C:=by
 obtain⟨i0,z,hi0,hz0,hzs,hzz,hzb⟩:=iS;have hz2:¬((i:Int)=(n:Int)):=by omega
 have hz3:(c:Int)<(n:Int)+1:=by omega
 have hcl:cur.toList.length=cur.size:=by simp
 have hbw:b<W.heap.size:=(Array.getElem?_eq_some_iff.1 hb).1;have hvw:vb<W.heap.size:=(Array.getElem?_eq_some_iff.1 hv).1;have hkk:(n:Int)+1-(i:Int)=((n+1-i:Nat):Int):=by omega
 have hik:i+(n+1-i)=n+1:=by omega
 have hcell:∀j v,(cur.toList.take (n*7))[j]? =some v→W.cell? ⟨b,j,none⟩=some v:=fun j v hj=>by
  rw[List.getElem?_take]at hj;split at hj
  ·simp[World.cell?,hb]
   simpa using hj
  ·cases hj
 have hold:(Builtin.firstCells i0.size i (.slice (some ⟨b,0,none⟩) i c)).run Tryz.prog W.drew= .ok (cur.toList.take (i*7)).toArray W.drew:=by
  rw[hzs]
  exact run_firstCells_some W.drew 7 i ⟨b,0,none⟩ i c (cur.toList.take (i*7)) (by rw[List.length_take,hcl];omega) (fun j v hj=>by
   rw[Addr.add_lit,Nat.zero_add];rw[List.getElem?_take]at hj;split at hj
   ·exact hcell j v (by rw[List.getElem?_take,if_pos (by omega)];exact hj)
   ·cases hj)
 have hrz:∀ty,(Builtin.append_ #[88,3] ty #[.slice (some ⟨b,0,none⟩) i c,.int .i64 ((n:Int)+1-(i:Int))]).run Tryz.prog W=
   .ok (.slice (some ⟨W.heap.size,0,none⟩) (n+1) (grownCap W (n+1) c 64)) (W.drew.alloc (.cells ((cur.toList.take (i*7)).toArray++Builtin.zeroCells z.cells (n+1-i)++Builtin.zeroCells z.cells (grownCap W (n+1) c 64-(n+1))) 64)):=fun ty=>by
  have h:=Lib.run_append_grow_zeros W 88 3 ty 64 i0 z .i64 .i64 uC uI hi0 hz0 (some ⟨b,0,none⟩) i c (cur.toList.take (i*7)) hold (n+1-i) (by omega) (by omega) (by omega) (by omega) (by
   have:(n+1-i)*i0.bytes≤1000001*1000:=Nat.mul_le_mul (by omega) hzb
   omega) (by
   rw[hik];refine growslice_fits hroom ?_;have:(n+1)*i0.bytes≤1000001*1000:=Nat.mul_le_mul (by omega) hzb
   omega)
  rw[hik]at h;rw[hkk];exact h
 have hGn:n+1≤grownCap W (n+1) c 64:=grownCap_ge W _ _ _
 have hG63:grownCap W (n+1) c 64≤9223372036854775807:=by
  have:=grownCap_le_maxLen W (n+1) c 64 (by unfold maxLen;omega)
  unfold maxLen at this;omega
 obtain⟨G,hG⟩:∃G,G=grownCap W (n+1) c 64:=⟨_,rfl⟩;rw[←hG]at hrz hGn hG63;obtain⟨ROW,hROW⟩:∃ROW:Array Value,ROW=(cur.toList.take (i*7)).toArray++Builtin.zeroCells z.cells (n+1-i)++Builtin.zeroCells z.cells (G-(n+1)):=⟨_,rfl⟩;rw[←hROW]at hrz
 have hRs:ROW.size=G*7:=by
  rw[hROW];simp only[Array.size_append,List.size_toArray,List.length_take,hcl,size_zeroCells,hzz];omega
 have hRt:ROW.toList.take (i*7)=cur.toList.take (i*7):=by
  rw[hROW];simp only[Array.toList_append,List.append_assoc];rw[List.take_append_of_le_length (by simp[hcl];omega),List.take_take,Nat.min_self]
 clear hG hROW hold;obtain⟨W1,hW1⟩:∃W1,W1=W.drew.alloc (.cells ROW 64):=⟨_,rfl⟩;have hN1:NewRow W W1 ROW:=by rw[hW1];exact NewRow.alloc W ROW
 rw[←hW1]at hrz;clear hW1;obtain⟨N,hN⟩:∃N,N=W.heap.size:=⟨_,rfl⟩;obtain⟨-,-,-,k1,k2,k3⟩:=id hN1;have hmin2:∀dl:Nat,1≤dl→Nat.min 1 dl=1:=fun dl h=>by simp only[Nat.min_def];split<;>omega
 have hvb1:W1.heap[vb]? =some (.cells x tx (0,0)):=by rw[k1 vb hvw];exact hv
 have hbb1:W1.heap[b]? =some (.cells cur tb (0,0)):=by rw[k1 b hbw];exact hb
 have hcpA:∀ty dc,(Builtin.copy_ #[88,31] ty #[.slice (some ⟨W.heap.size,i*7,none⟩) (n+1-i) dc,.slice (some ⟨vb,0,none⟩) 1 vc]).run Tryz.prog W1= .ok (goInt (Nat.min 1 (n+1-i):Nat)) (W1.setRow W.heap.size (ROW.toList.take (i*7)++xl++ROW.toList.drop (i*7+xl.length)).toArray):=fun ty dc=>
  run_copy9 W1 _ _ ty 64 7 W.heap.size (i*7) (n+1-i) dc ⟨vb,0,none⟩ 1 vc ROW 64 xl uC kS k3 (by rw[hmin2 _ (by omega),hxl])
   (fun j v hj=>by
     rw[Addr.add_lit];simp[World.cell?,hvb1]
     simpa using hxc j v hj) (by rw[hxl,hRs];omega) h1v
 obtain⟨RA,hRA⟩:∃RA,RA=(ROW.toList.take (i*7)++xl++ROW.toList.drop (i*7+xl.length)).toArray:=⟨_,rfl⟩;rw[←hRA]at hcpA
 have hRAs:RA.size=G*7:=by
  rw[hRA];simp only[List.size_toArray,List.length_append,List.length_take,List.length_drop,hxl,Array.length_toList,hRs];omega
 have hRAt:RA.toList.take ((i+1)*7)=cur.toList.take (i*7)++xl:=by
  have e1:(cur.toList.take (i*7)).length=i*7:=by rw[List.length_take,hcl];omega
  rw[hRA,hRt];simp only[List.toList_toArray];rw[List.take_append_of_le_length (by rw[List.length_append,e1,hxl];omega),List.take_of_length_le (by rw[List.length_append,e1,hxl];omega)]
 have hN2:NewRow W (W1.setRow W.heap.size RA).drew RA:=(hN1.row RA).drew;obtain⟨-,-,-,l1,l2,l3⟩:=id hN2
 have hdl:((cur.toList.take (n*7)).drop (i*7)).length=(n-i)*7:=by
  rw[List.length_drop,List.length_take,hcl];omega
 have hbb2:(W1.setRow W.heap.size RA).drew.heap[b]? =some (.cells cur tb (0,0)):=by rw[l1 b hbw];exact hb
 have hcpB:∀ty dc sc,(Builtin.copy_ #[88,88] ty #[.slice (some ⟨W.heap.size,(i+1)*7,none⟩) (n-i) dc,.slice (some ⟨b,i*7,none⟩) (n-i) sc]).run Tryz.prog (W1.setRow W.heap.size RA).drew= .ok (goInt (Nat.min (n-i) (n-i):Nat)) ((W1.setRow W.heap.size RA).drew.setRow W.heap.size (RA.toList.take ((i+1)*7)++(cur.toList.take (n*7)).drop (i*7)++RA.toList.drop ((i+1)*7+((cur.toList.take (n*7)).drop (i*7)).length)).toArray):=fun ty dc sc=>
  run_copy9 (W1.setRow W.heap.size RA).drew _ _ ty 64 7 W.heap.size ((i+1)*7) (n-i) dc ⟨b,i*7,none⟩ (n-i) sc RA 64 _ uC kS l3 (by rw[hdl,show Nat.min (n-i) (n-i)=n-i from Nat.min_self _])
   (fun j v hj=>by
     rw[Addr.add_lit];rw[List.getElem?_drop,List.getElem?_take]at hj;split at hj
     ·simp[World.cell?,hbb2]
      simpa using hj
     ·cases hj) (by rw[hdl,hRAs];omega) (fun v hv=>h1c v (List.mem_of_mem_drop hv))
 obtain⟨RB,hRB⟩:∃RB,RB=(RA.toList.take ((i+1)*7)++(cur.toList.take (n*7)).drop (i*7)++RA.toList.drop ((i+1)*7+((cur.toList.take (n*7)).drop (i*7)).length)).toArray:=⟨_,rfl⟩;rw[←hRB]at hcpB
 have hRBs:RB.size=G*7:=by
  rw[hRB];simp only[List.size_toArray,List.length_append,List.length_take,List.length_drop,hcl,Array.length_toList,hRAs];omega
 have hRBt:RB.toList.take ((n+1)*7)=cur.toList.take (i*7)++xl++(cur.toList.take (n*7)).drop (i*7):=by
  have e1:(cur.toList.take (i*7)).length=i*7:=by rw[List.length_take,hcl];omega
  rw[hRB,hRAt];simp only[List.toList_toArray];have e2:(cur.toList.take (i*7)++xl++(cur.toList.take (n*7)).drop (i*7)).length=(n+1)*7:=by rw[List.length_append,List.length_append,e1,hxl,hdl];omega
  rw[List.take_append_of_le_length (by rw[e2];exact Nat.le_refl _),List.take_of_length_le (by rw[e2];exact Nat.le_refl _)]
 have hfin:∃c' C,Ending.returned (.slice (some ⟨W.heap.size,0,none⟩) (n+1) G)= .returned (.slice (some ⟨W.heap.size,0,none⟩) (n+1) c')∧n+1≤c'∧c'*7≤C.size∧C.toList.take ((n+1)*7)=cur.toList.take (i*7)++xl++(cur.toList.take (n*7)).drop (i*7)∧NewRow W ((W1.setRow W.heap.size RA).drew.setRow W.heap.size RB) C:=
  ⟨G,RB,rfl,hGn,by rw[hRBs];exact Nat.le_refl _,hRBt,hN2.row RB⟩
 have mixed:Tryz.prog.follows .mixedOrders=true:=by kernel_rfl
 have hw1:IntKind.i64.wrap ((i:Int)+1)=(i:Int)+1:=by rw[IntKind.wrap_i64];omega
 have hb1':(0:Int)≤(i:Int)+1:=by omega
 have hin:i≤n:=by omega
 have hGi:¬(G=i):=by omega
 have hGim:¬(G=i+1):=by omega
 have hci:¬(c=i):=by omega
 have htn:((i:Int)+1).toNat=i+1:=by omega
 have hb3:(i:Int)≤(n:Int):=by omega
 clear hkk hik hRA hRB hRt hRAt hRBt hRAs hRBs hRs hdl hN1 hN2 k1 k2 k3 l1 l2 l3 hN hbb1 hbb2 hvb1
 go_enter Tryz.func200,Tryz.ntmps200
 go_wp2_with (first
  |(at_builtin;refine Lib.wpList_append_run _ rfl _ _ _ _ rfl _ _ rfl rfl _ _ (hrz _) ?_)
  |(at_builtin;refine wpList_copy9 _ rfl _ _ 88 31 rfl _ _ rfl rfl (hcpA _ _) ?_))
 go_region_law_o (refine step_copy9 rfl _ _ 88 88 rfl _ _ (by simp[Act.eval,Act.put]) (by simp[Act.eval,Act.put]) (hcpB _ _ _) ?_)
 go_wp2
 go_ret
 exact hfin
end Go.Proofs.YtioafciifiggaaaGreatDoor
