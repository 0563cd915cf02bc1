/- Staging. No condition. -/
import Derived.Test.YtioafciifiggaaaGreatDoorL0
import Derived.Test.YtioafciifiggaaaGreatDoorProg
import Derived.WalkKit
import Derived.Lib.Walk
import Derived.Lib.SliceRun
import Derived.Lib.JoinLaws
import Derived.Lib.AppendZeros
import Derived.Lib.AppendZerosOnto
import Derived.Lib.Overlaps
import Derived.Laws.Externs
import Derived.Laws.CopyRow
import Derived.Laws.IdiomCopy
import Derived.Laws.NewBlocks
import Derived.Deep.RegionLaw
import Derived.Shelf.RegionOpenPlain
set_option linter.all false
namespace Go.Proofs.YtioafciifiggaaaGreatDoor
open Go.Proofs Go.RowKit Go.Lib
set_option maxRecDepth 100000
theorem Zg{P:Program}(w:World){ops:Array Oper}{rest:List Oper}{o:Oper}{a:Act}{Q:Exit->Act->World->Prop}(Jt:o.guard=none)(d s:Operand)(t t':TypeId)
  (ho:o.op= .call {callee:= .builtin .copy,args:= #[d,s],argTypes:= #[t,t']}) (v u:Value) (hd:a.eval d=v) (hs:a.eval s=u) {v':Value} {w':World}
  (hr:(Builtin.copy_ #[t,t'] o.type #[v,u]).run P w= .ok v' w') (h:wpList P ops Q rest (a.put o.dst v') w'):wpList P ops Q (o::rest) a w:=
 wpList_plain Jt fun _ hK=>by
  unfold Oper.wp execOp;simp only[ho,resolve,invoke,builtin,Sem.run_bind,Sem.run_pure,Result.andThen_ok,BF,gJ,tK,hd,hs,hr];exact hK _ _ h
theorem Zh{P:Program}{ops:Array Oper}{o:Oper}{a:Act}{w:World}{K:Act->World->Prop}{Q:Exit->Act->World->Prop}{E:Prop}
  (hg:o.guard=none) (d x:Operand) (dT sT:TypeId) (aO:o.op=Op.call {callee:=Callee.builtin Builtin.copy,args:= #[d,x],argTypes:= #[dT,sT]})
  (v u:Value) (hd:a.eval d=v) (hx:a.eval x=u) {v':Value} {w':World} (hr:(Builtin.copy_ #[dT,sT] o.type #[v,u]).run P w= .ok v' w') (hK:K (a.put o.dst v') w'):
  if Region.wanted o (yielded ops a.tmps)=true then Oper.wp P o a w K Q else E:=by
 have hw:Region.wanted o (yielded ops a.tmps)=true:=by simp[Region.wanted,hg]
 rw[if_pos hw];unfold Oper.wp;simp[execOp,aO,resolve,invoke,builtin,hd,hx,hr,Result.andThen];exact hK
theorem Aw{P:Program}(w:World)(dT sT ty elem:TypeId)(k:Nat)(g o dLen dCap:Nat)(a:Addr)(sLen sCap:Nat)(cur:Array Value)(t:TypeId)(cs:List Value)
  (hu:P.underlying dT=some (.slice elem)) (hk:(P.info? elem).map (·.size)=some k)
  (hg:w.heap[g]? =some (.cells cur t (0,0))) (hn:cs.length=Nat.min sLen dLen*k)
  (Ju:∀j v,cs[j]? =some v->w.cell? (a.add j)=some v) (DG:o+cs.length<=cur.size) (h1:∀v∈cs,v.oneCell'=true):
  (Builtin.copy_ #[dT,sT] ty #[.slice (some ⟨g,o,none⟩) dLen dCap,.slice (some a) sLen sCap]).run P w=
    .ok (goInt (Nat.min sLen dLen:Nat)) (w.setRow g (cur.toList.take o++cs++cur.toList.drop (o+cs.length)).toArray):=by
 have hl:=run_loadCells_list (P:=P) w a cs Ju;have eG:=run_storeCells_at P g o t cs 0 cur w hg (by simpa using DG) h1
 cases hq:P.info? elem with
 |none=>simp[hq]at hk
 |some i=>
  have hi:i.size=k:=by simpa[hq]using hk
  simp[Builtin.copy_,run_underlying hu,Builtin.lenOf,Builtin.firstCells,sizeOf,typeInfo,hq,hi];rw[<-hn,hl];simp[eG]
theorem uC:Tryz.prog.underlying 88=some (.slice 64):=by kernel_rfl
theorem uS:Tryz.prog.underlying 31=some (.slice 64):=by kernel_rfl
theorem kS:(Tryz.prog.info? 64).map (·.size)=some 7:=by kernel_rfl
theorem szS:∀w,(Go.sizeOf 64).run Tryz.prog w= .ok 7 w:=fun w=>by
 have h:=kS;unfold sizeOf typeInfo;cases hq:Tryz.prog.info? 64 with
 |none=>rw[hq]at h;cases h
 |some i=>
  rw[hq]at h;have:i.size=7:=by simpa using h
  simp[hq,this]
set_option maxHeartbeats 4000000 in
theorem bh1(b n c i vb vc:Nat)(cur x:Array Value)(xl:List Value)(tx:TypeId)(W:World)(hi:i<n)(DH:n+1<=c)(hc:c*7<=cur.size)(pK:xl.length=7)(EU:∀(j:Nat) (v:Value),xl[j]? =some v->x[j]? =some v)(IG:vb≠b)(PD:n<=1000000)
  (hb:W.heap[b]? =some (.cells cur 64 (0,0))) (hv:W.heap[vb]? =some (.cells x tx (0,0))) (PE:∀v∈cur.toList.take (n*7),v.oneCell'=true) (PF:∀v∈xl,v.oneCell'=true):
  Calls Tryz.prog 200 #[.slice (some ⟨b,0,none⟩) n c,.int .i64 i,.slice (some ⟨vb,0,none⟩) 1 vc] W fun e w'=>
   e= .returned (.slice (some ⟨b,0,none⟩) (n+1) c)/\w'=W.drew.setRow b ((cur.toList.take (i*7)++xl++(cur.toList.take (n*7)).drop (i*7))++cur.toList.drop ((n+1)*7)).toArray:=by
 have Zi:¬((i:Int)=(n:Int)):=by omega
 have iE:cur.toList.length=cur.size:=by simp
 have Zj:(n+1)*7<=cur.size:=by omega
 have hov:∀lb cb o,(callFunc 240 #[.slice (some ⟨vb,0,none⟩) 1 vc,.slice (some ⟨b,o,none⟩) lb cb]).run Tryz.prog W= .ok (.value (.bool false)) W:=fun lb cb o=>by
  rw[run_callFunc_extern Tryz.func240 (by kernel_rfl) (by kernel_rfl) (by kernel_rfl) (e:=Extern.SlicesOverlaps.overlaps #[31,31] #[4]) (by kernel_rfl),
   Lib.run_overlaps_apart W 31 4 64 uS 7 szS ⟨vb,0,none⟩ ⟨b,o,none⟩ 1 vc lb cb IG tx 64 x.size cur.size (by simp[World.shape?,hv]) (by simp[World.shape?,hb]) (by omega) (by simp[World.frozen?,hv]) (by simp[World.frozen?,hv])]
  rfl
 have xR:((cur.toList.take (n*7)).drop (i*7)).length=(n-i)*7:=by
  rw[eF,cU,iE];omega
 have VG:Nat.min (n+1-i) (n-i)=n-i:=by simp only[Nat.min_def];split<;>omega
 have GL:W.drew.heap[b]? =some (.cells cur 64 (0,0)):=hb
 have Zk:∀ty dc sc,(Builtin.copy_ #[88,88] ty #[.slice (some ⟨b,(i+1)*7,none⟩) (n-i) dc,.slice (some ⟨b,i*7,none⟩) (n+1-i) sc]).run Tryz.prog W.drew= .ok (goInt (Nat.min (n+1-i) (n-i):Nat)) (W.drew.setRow b (cur.toList.take ((i+1)*7)++(cur.toList.take (n*7)).drop (i*7)++cur.toList.drop ((i+1)*7+((cur.toList.take (n*7)).drop (i*7)).length)).toArray):=fun ty dc sc=>
  Aw W.drew _ _ ty 64 7 b ((i+1)*7) (n-i) dc ⟨b,i*7,none⟩ (n+1-i) sc cur 64 _ uC kS GL (by rw[VG];exact xR)
   (fun j v hj=>by
     rw[Addr.add_lit];rw[mF,gU]at hj;split at hj
     ·simp[World.cell?,GL]
      simpa using hj
     ·cases hj) (by rw[xR];omega) (fun v hv=>PE v (lJ hv))
 obtain⟨C1,Ax⟩:∃C1,C1=(cur.toList.take ((i+1)*7)++(cur.toList.take (n*7)).drop (i*7)++cur.toList.drop ((i+1)*7+((cur.toList.take (n*7)).drop (i*7)).length)).toArray:=⟨_,rfl⟩;rw[<-Ax]at Zk
 have Zl:C1.size=cur.size:=by
  rw[Ax];simp[xR];omega
 have OS:(W.drew.setRow b C1).heap[b]? =some (.cells C1 64 (0,0)):=setRow_heap W.drew b cur C1 _ _ GL;have VH:∀dl:Nat,1<=dl->Nat.min 1 dl=1:=fun dl h=>by simp only[Nat.min_def];split<;>omega
 have Zm:∀ty dc,(Builtin.copy_ #[88,31] ty #[.slice (some ⟨b,i*7,none⟩) (n+1-i) dc,.slice (some ⟨vb,0,none⟩) 1 vc]).run Tryz.prog (W.drew.setRow b C1)= .ok (goInt (Nat.min 1 (n+1-i):Nat)) ((W.drew.setRow b C1).setRow b (C1.toList.take (i*7)++xl++C1.toList.drop (i*7+xl.length)).toArray):=fun ty dc=>
  Aw (W.drew.setRow b C1) _ _ ty 64 7 b (i*7) (n+1-i) dc ⟨vb,0,none⟩ 1 vc C1 64 xl uC kS OS (by rw[VH _ (by omega),pK])
   (fun j v hj=>by
     rw[Addr.add_lit,cell_setRow_other _ _ _ _ (show vb≠b from IG)]
     have hvd:W.drew.heap[vb]? =some (.cells x tx (0,0)):=hv;simp[World.cell?,hvd]
     simpa using EU j v hj) (by rw[pK,Zl];omega) PF
 have EV:(W.drew.setRow b C1).setRow b (C1.toList.take (i*7)++xl++C1.toList.drop (i*7+xl.length)).toArray=W.drew.setRow b ((cur.toList.take (i*7)++xl++(cur.toList.take (n*7)).drop (i*7))++cur.toList.drop ((n+1)*7)).toArray:=by
  rw[setRow_setRow,Ax];congr 2;simp only[Ga];have e1:(i+1)*7+((cur.toList.take (n*7)).drop (i*7)).length=(n+1)*7:=by rw[xR];omega
  rw[e1];have e2:i*7+xl.length=(i+1)*7:=by rw[pK];omega
  rw[e2];have e3:(cur.toList.take ((i+1)*7)).length=(i+1)*7:=by rw[cU,iE];omega
  have e4:(cur.toList.take ((i+1)*7)++(cur.toList.take (n*7)).drop (i*7)++cur.toList.drop ((n+1)*7)).take (i*7)=cur.toList.take (i*7):=by
   rw[fF,O9 (by omega),Tu]
   congr 1;omega
  have e5:(cur.toList.take ((i+1)*7)++(cur.toList.take (n*7)).drop (i*7)++cur.toList.drop ((n+1)*7)).drop ((i+1)*7)=(cur.toList.take (n*7)).drop (i*7)++cur.toList.drop ((n+1)*7):=by
   rw[fF,aG2 (by omega),aG0 (by omega),pW]
  rw[e4,e5];simp only[fF]
 obtain⟨C2,Zn⟩:∃C2,C2=(C1.toList.take (i*7)++xl++C1.toList.drop (i*7+xl.length)).toArray:=⟨_,rfl⟩;rw[<-Zn]at Zm EV;rw[<-EV];clear Ax Zn EV xR Zl;have GR:IntKind.i64.wrap ((i:Int)+1)=(i:Int)+1:=by rw[IntKind.wrap_i64];omega
 have mixed:Tryz.prog.follows .mixedOrders=true:=by kernel_rfl
 have bh4:(0:Int)<=(i:Int)+1:=by omega
 have kN:i<=n:=by omega
 have sE:¬(c=i+1):=by omega
 have hb4:¬(c=i):=by omega
 have VI:((i:Int)+1).toNat=i+1:=by omega
 have Ay:(i:Int)<=(n:Int)+1:=by omega
 go_enter Tryz.func200,Tryz.ntmps200
 go_wp2_with (simp only[hov])
 go_region_law_o (refine Zh rfl _ _ 88 88 rfl _ _ (by simp[Act.eval,Act.put]) (by simp[Act.eval,Act.put]) (Zk _ _ _) ?_)
 go_wp2_with (at_builtin;refine Zg _ rfl _ _ 88 31 rfl _ _ rfl rfl (Zm _ _) ?_)
 go_ret
 exact⟨rfl,rfl⟩
theorem uI:Tryz.prog.underlying 3=some (.int .i64):=by kernel_rfl
theorem iS:∃i0 z,Tryz.prog.info? 64=some i0/\i0.zero=some z/\i0.size=7/\z.cells.size=7/\i0.bytes<=1000:=by
 have h:(match Tryz.prog.info? 64 with|some i=>(match i.zero with|some z=>(i.size==7&&(z.cells.size==7&&decide (i.bytes<=1000)))|none=>false)|none=>false)=true:=by kernel_rfl
 cases hq:Tryz.prog.info? 64 with
 |none=>rw[hq]at h;cases h
 |some i0=>
  rw[hq]at h;simp only[]at h;cases hz:i0.zero with
  |none=>rw[hz]at h;cases h
  |some z=>
   rw[hz]at h;simp only[k6,beq_iff_eq,decide_eq_true_eq]at h;exact⟨i0,z,rfl,hz,h.1,h.2.1,h.2.2⟩
def AF(W w':World)(C:Array Value):Prop:=w'.os=W.os/\w'.tape=W.tape/\w'.output=W.output/\(∀k,k<W.heap.size->w'.heap[k]? =W.heap[k]?)/\w'.heap.size=W.heap.size+1/\w'.heap[W.heap.size]? =some (.cells C 64 (0,0))
theorem AF.alloc(W:World)(C:Array Value):AF W (W.drew.alloc (.cells C 64)) C:=by
 refine⟨rfl,rfl,rfl,fun k hk=> ?_,?_,?_⟩
 ·exact Go.RowKit.Below.heap_alloc W.drew _ k hk
 ·show(W.heap.push _).size=_
  rw[Array.size_push]
 ·show(W.heap.push _)[W.heap.size]? =_
  rw[Array.getElem?_push_size]
theorem AF.drew{W w:World}{C:Array Value}(h:AF W w C):AF W w.drew C:=⟨h.1,h.2.1,h.2.2.1,h.2.2.2.1,h.2.2.2.2.1,h.2.2.2.2.2⟩
theorem AF.row{W w:World}{C:Array Value}(h:AF W w C)(D:Array Value):AF W (w.setRow W.heap.size D) D:=by
 obtain⟨h1,h2,h3,h4,h5,h6⟩:=h;exact⟨h1,h2,h3,fun k hk=>by rw[setRow_other _ _ _ _ (by omega)];exact h4 k hk,by rw[setRow_size];exact h5,setRow_heap w _ C D _ _ h6⟩
set_option maxHeartbeats 4000000 in
theorem bh5(b n c i vb vc:Nat)(cur x:Array Value)(xl:List Value)(tb tx:TypeId)(W:World)(hi:i<n)(xN:n<=c)(DH:c<n+1)(hc:n*7<=cur.size)(pK:xl.length=7)(EU:∀(j:Nat) (v:Value),xl[j]? =some v->x[j]? =some v)(PD:n<=1000000)
  (hb:W.heap[b]? =some (.cells cur tb (0,0))) (hv:W.heap[vb]? =some (.cells x tx (0,0))) (PE:∀v∈cur.toList.take (n*7),v.oneCell'=true) (PF:∀v∈xl,v.oneCell'=true):
  Calls Tryz.prog 200 #[.slice (some ⟨b,0,none⟩) n c,.int .i64 i,.slice (some ⟨vb,0,none⟩) 1 vc] W fun e w'=>
   ∃c' C,e= .returned (.slice (some ⟨W.heap.size,0,none⟩) (n+1) c')/\n+1<=c'/\c'*7<=C.size/\C.toList.take ((n+1)*7)=cur.toList.take (i*7)++xl++(cur.toList.take (n*7)).drop (i*7)/\AF W w' C:=by
 obtain⟨i0,z,L8,hz0,VJ,hzz,Zo⟩:=iS;have Zi:¬((i:Int)=(n:Int)):=by omega
 have hz3:(c:Int)<(n:Int)+1:=by omega
 have iE:cur.toList.length=cur.size:=by simp
 have L7:b<W.heap.size:=(jG.1 hb).1;have hvw:vb<W.heap.size:=(jG.1 hv).1;have qA:(n:Int)+1-(i:Int)=((n+1-i:Nat):Int):=by omega
 have iH:i+(n+1-i)=n+1:=by omega
 have BO:∀j v,(cur.toList.take (n*7))[j]? =some v->W.cell? ⟨b,j,none⟩=some v:=fun j v hj=>by
  rw[gU]at hj;split at hj
  ·simp[World.cell?,hb]
   simpa using hj
  ·cases hj
 have hold:(Builtin.firstCells i0.size i (.slice (some ⟨b,0,none⟩) i c)).run Tryz.prog W.drew= .ok (cur.toList.take (i*7)).toArray W.drew:=by
  rw[VJ]
  exact run_firstCells_some W.drew 7 i ⟨b,0,none⟩ i c (cur.toList.take (i*7)) (by rw[cU,iE];omega) (fun j v hj=>by
   rw[Addr.add_lit,pJ];rw[gU]at hj;split at hj
   ·exact BO j v (by rw[gU,if_pos (by omega)];exact hj)
   ·cases hj)
 have Az:∀ty,(Builtin.append_ #[88,3] ty #[.slice (some ⟨b,0,none⟩) i c,.int .i64 ((n:Int)+1-(i:Int))]).run Tryz.prog W=
   .ok (.slice (some ⟨W.heap.size,0,none⟩) (n+1) (grownCap W (n+1) c 64)) (W.drew.alloc (.cells ((cur.toList.take (i*7)).toArray++Builtin.zeroCells z.cells (n+1-i)++Builtin.zeroCells z.cells (grownCap W (n+1) c 64-(n+1))) 64)):=fun ty=>by
  have h:=Lib.run_append_grow_zeros W 88 3 ty 64 i0 z .i64 .i64 uC uI L8 hz0 (some ⟨b,0,none⟩) i c (cur.toList.take (i*7)) hold (n+1-i) (by omega) (by omega) (by omega) (by omega) (by
   have:(n+1-i)*i0.bytes<=1000001*1000:=Nat.mul_le_mul (by omega) Zo
   omega) (by
   rw[iH];refine growslice_fits DH ?_;have:(n+1)*i0.bytes<=1000001*1000:=Nat.mul_le_mul (by omega) Zo
   omega)
  rw[iH]at h;rw[qA];exact h
 have Zp:n+1<=grownCap W (n+1) c 64:=grownCap_ge W _ _ _
 have bh9:grownCap W (n+1) c 64<=9223372036854775807:=by
  have:=grownCap_le_maxLen W (n+1) c 64 (by unfold maxLen;omega)
  unfold maxLen at this;omega
 obtain⟨G,hG⟩:∃G,G=grownCap W (n+1) c 64:=⟨_,rfl⟩;rw[<-hG]at Az Zp bh9;obtain⟨BX,Ba⟩:∃BX:Array Value,BX=(cur.toList.take (i*7)).toArray++Builtin.zeroCells z.cells (n+1-i)++Builtin.zeroCells z.cells (G-(n+1)):=⟨_,rfl⟩;rw[<-Ba]at Az
 have Jv:BX.size=G*7:=by
  rw[Ba];simp only[Tv,TL,cU,iE,size_zeroCells,hzz];omega
 have Zq:BX.toList.take (i*7)=cur.toList.take (i*7):=by
  rw[Ba];simp only[Array.toList_append,fF];rw[O9 (by simp[iE];omega),Tu,YW]
 clear hG Ba hold;obtain⟨W1,Jw⟩:∃W1,W1=W.drew.alloc (.cells BX 64):=⟨_,rfl⟩;have PG:AF W W1 BX:=by rw[Jw];exact AF.alloc W BX
 rw[<-Jw]at Az;clear Jw;obtain⟨N,hN⟩:∃N,N=W.heap.size:=⟨_,rfl⟩;obtain⟨-,-,-,k1,k2,k3⟩:=id PG;have VH:∀dl:Nat,1<=dl->Nat.min 1 dl=1:=fun dl h=>by simp only[Nat.min_def];split<;>omega
 have Zr:W1.heap[vb]? =some (.cells x tx (0,0)):=by rw[k1 vb hvw];exact hv
 have bi0:W1.heap[b]? =some (.cells cur tb (0,0)):=by rw[k1 b L7];exact hb
 have Zs:∀ty dc,(Builtin.copy_ #[88,31] ty #[.slice (some ⟨W.heap.size,i*7,none⟩) (n+1-i) dc,.slice (some ⟨vb,0,none⟩) 1 vc]).run Tryz.prog W1= .ok (goInt (Nat.min 1 (n+1-i):Nat)) (W1.setRow W.heap.size (BX.toList.take (i*7)++xl++BX.toList.drop (i*7+xl.length)).toArray):=fun ty dc=>
  Aw W1 _ _ ty 64 7 W.heap.size (i*7) (n+1-i) dc ⟨vb,0,none⟩ 1 vc BX 64 xl uC kS k3 (by rw[VH _ (by omega),pK])
   (fun j v hj=>by
     rw[Addr.add_lit];simp[World.cell?,Zr]
     simpa using EU j v hj) (by rw[pK,Jv];omega) PF
 obtain⟨RA,Bb⟩:∃RA,RA=(BX.toList.take (i*7)++xl++BX.toList.drop (i*7+xl.length)).toArray:=⟨_,rfl⟩;rw[<-Bb]at Zs
 have Jx:RA.size=G*7:=by
  rw[Bb];simp only[TL,bP,cU,eF,pK,YY,Jv];omega
 have Zt:RA.toList.take ((i+1)*7)=cur.toList.take (i*7)++xl:=by
  have e1:(cur.toList.take (i*7)).length=i*7:=by rw[cU,iE];omega
  rw[Bb,Zq];simp only[Ga];rw[O9 (by rw[bP,e1,pK];omega),eD (by rw[bP,e1,pK];omega)]
 have KS:AF W (W1.setRow W.heap.size RA).drew RA:=(PG.row RA).drew;obtain⟨-,-,-,l1,l2,l3⟩:=id KS
 have xR:((cur.toList.take (n*7)).drop (i*7)).length=(n-i)*7:=by
  rw[eF,cU,iE];omega
 have Zu:(W1.setRow W.heap.size RA).drew.heap[b]? =some (.cells cur tb (0,0)):=by rw[l1 b L7];exact hb
 have Zv:∀ty dc sc,(Builtin.copy_ #[88,88] ty #[.slice (some ⟨W.heap.size,(i+1)*7,none⟩) (n-i) dc,.slice (some ⟨b,i*7,none⟩) (n-i) sc]).run Tryz.prog (W1.setRow W.heap.size RA).drew= .ok (goInt (Nat.min (n-i) (n-i):Nat)) ((W1.setRow W.heap.size RA).drew.setRow W.heap.size (RA.toList.take ((i+1)*7)++(cur.toList.take (n*7)).drop (i*7)++RA.toList.drop ((i+1)*7+((cur.toList.take (n*7)).drop (i*7)).length)).toArray):=fun ty dc sc=>
  Aw (W1.setRow W.heap.size RA).drew _ _ ty 64 7 W.heap.size ((i+1)*7) (n-i) dc ⟨b,i*7,none⟩ (n-i) sc RA 64 _ uC kS l3 (by rw[xR,show Nat.min (n-i) (n-i)=n-i from YW _])
   (fun j v hj=>by
     rw[Addr.add_lit];rw[mF,gU]at hj;split at hj
     ·simp[World.cell?,Zu]
      simpa using hj
     ·cases hj) (by rw[xR,Jx];omega) (fun v hv=>PE v (lJ hv))
 obtain⟨RB,Bc⟩:∃RB,RB=(RA.toList.take ((i+1)*7)++(cur.toList.take (n*7)).drop (i*7)++RA.toList.drop ((i+1)*7+((cur.toList.take (n*7)).drop (i*7)).length)).toArray:=⟨_,rfl⟩;rw[<-Bc]at Zv
 have Zw:RB.size=G*7:=by
  rw[Bc];simp only[TL,bP,cU,eF,iE,YY,Jx];omega
 have Zx:RB.toList.take ((n+1)*7)=cur.toList.take (i*7)++xl++(cur.toList.take (n*7)).drop (i*7):=by
  have e1:(cur.toList.take (i*7)).length=i*7:=by rw[cU,iE];omega
  rw[Bc,Zt];simp only[Ga];have e2:(cur.toList.take (i*7)++xl++(cur.toList.take (n*7)).drop (i*7)).length=(n+1)*7:=by rw[bP,bP,e1,pK,xR];omega
  rw[O9 (by rw[e2];exact cE _),eD (by rw[e2];exact cE _)]
 have EV:∃c' C,Ending.returned (.slice (some ⟨W.heap.size,0,none⟩) (n+1) G)= .returned (.slice (some ⟨W.heap.size,0,none⟩) (n+1) c')/\n+1<=c'/\c'*7<=C.size/\C.toList.take ((n+1)*7)=cur.toList.take (i*7)++xl++(cur.toList.take (n*7)).drop (i*7)/\AF W ((W1.setRow W.heap.size RA).drew.setRow W.heap.size RB) C:=
  ⟨G,RB,rfl,Zp,by rw[Zw];exact cE _,Zx,KS.row RB⟩
 have mixed:Tryz.prog.follows .mixedOrders=true:=by kernel_rfl
 have GR:IntKind.i64.wrap ((i:Int)+1)=(i:Int)+1:=by rw[IntKind.wrap_i64];omega
 have bh4:(0:Int)<=(i:Int)+1:=by omega
 have kN:i<=n:=by omega
 have hGi:¬(G=i):=by omega
 have cD5:¬(G=i+1):=by omega
 have hci:¬(c=i):=by omega
 have VI:((i:Int)+1).toNat=i+1:=by omega
 have Ay:(i:Int)<=(n:Int):=by omega
 clear qA iH Bb Bc Zq Zt Zx Jx Zw Jv xR PG KS k1 k2 k3 l1 l2 l3 hN bi0 Zu Zr
 go_enter Tryz.func200,Tryz.ntmps200
 go_wp2_with (first
  |(at_builtin;refine Lib.wpList_append_run _ rfl _ _ _ _ rfl _ _ rfl rfl _ _ (Az _) ?_)
  |(at_builtin;refine Zg _ rfl _ _ 88 31 rfl _ _ rfl rfl (Zs _ _) ?_))
 go_region_law_o (refine Zh rfl _ _ 88 88 rfl _ _ (by simp[Act.eval,Act.put]) (by simp[Act.eval,Act.put]) (Zv _ _ _) ?_)
 go_wp2
 go_ret
 exact EV
end Go.Proofs.YtioafciifiggaaaGreatDoor
