/- Staging. No condition. -/
import Derived.Test.YtioafciifiggaaaGreatDoorL0
import Derived.Test.YtioafciifiggaaaGreatDoorProg
import Derived.WalkKit
import Derived.Lib.Walk
import Derived.Lib.SliceRun
import Derived.Lib.JoinLaws
import Derived.Lib.AppendZeros
import Derived.Lib.AppendZerosOnto
import Derived.Lib.Overlaps
import Derived.Laws.Externs
import Derived.Laws.CopyRow
import Derived.Laws.IdiomCopy
import Derived.Laws.NewBlocks
import Derived.Deep.RegionLaw
import Derived.Shelf.RegionOpenPlain
set_option linter.all false
namespace Go.Proofs.YtioafciifiggaaaGreatDoor
open Go.Proofs Go.RowKit Go.Lib
set_option maxRecDepth 100000
theorem Nc{P:Program}(w:World){ops:Array Oper}{rest:List Oper}{o:Oper}{a:Act}{Q:Exit->Act->World->Prop}(Bn:o.guard=none)(d s:Operand)(t t':TypeId)
  (ho:o.op= .call {callee:= .builtin .copy,args:= #[d,s],argTypes:= #[t,t']}) (v u:Value) (hd:a.eval d=v) (hs:a.eval s=u) {v':Value} {w':World}
  (hr:(Builtin.copy_ #[t,t'] o.type #[v,u]).run P w= .ok v' w') (h:wpList P ops Q rest (a.put o.dst v') w'):wpList P ops Q (o::rest) a w:=
 wpList_plain Bn fun _ hK=>by
  unfold Oper.wp execOp;simp only[ho,resolve,invoke,builtin,Sem.run_bind,Sem.run_pure,Result.andThen_ok,zU,jW,sM,hd,hs,hr];exact hK _ _ h
theorem Nd{P:Program}{ops:Array Oper}{o:Oper}{a:Act}{w:World}{K:Act->World->Prop}{Q:Exit->Act->World->Prop}{E:Prop}
  (hg:o.guard=none) (d x:Operand) (dT sT:TypeId) (aP:o.op=Op.call {callee:=Callee.builtin Builtin.copy,args:= #[d,x],argTypes:= #[dT,sT]})
  (v u:Value) (hd:a.eval d=v) (hx:a.eval x=u) {v':Value} {w':World} (hr:(Builtin.copy_ #[dT,sT] o.type #[v,u]).run P w= .ok v' w') (hK:K (a.put o.dst v') w'):
  if Region.wanted o (yielded ops a.tmps)=true then Oper.wp P o a w K Q else E:=by
 have hw:Region.wanted o (yielded ops a.tmps)=true:=by simp[Region.wanted,hg]
 rw[if_pos hw];unfold Oper.wp;simp[execOp,aP,resolve,invoke,builtin,hd,hx,hr,Result.andThen];exact hK
theorem VP{P:Program}(w:World)(dT sT ty elem:TypeId)(k:Nat)(g o dLen dCap:Nat)(a:Addr)(sLen sCap:Nat)(cur:Array Value)(t:TypeId)(cs:List Value)
  (hu:P.underlying dT=some (.slice elem)) (hk:(P.info? elem).map (·.size)=some k)
  (hg:w.heap[g]? =some (.cells cur t (0,0))) (hn:cs.length=Nat.min sLen dLen*k)
  (Bo:∀j v,cs[j]? =some v->w.cell? (a.add j)=some v) (AH:o+cs.length<=cur.size) (h1:∀v∈cs,v.oneCell'=true):
  (Builtin.copy_ #[dT,sT] ty #[.slice (some ⟨g,o,none⟩) dLen dCap,.slice (some a) sLen sCap]).run P w=
    .ok (goInt (Nat.min sLen dLen:Nat)) (w.setRow g (cur.toList.take o++cs++cur.toList.drop (o+cs.length)).toArray):=by
 have hl:=run_loadCells_list (P:=P) w a cs Bo;have eW:=run_storeCells_at P g o t cs 0 cur w hg (by simpa using AH) h1
 cases hq:P.info? elem with
 |none=>simp[hq]at hk
 |some i=>
  have hi:i.size=k:=by simpa[hq]using hk
  simp[Builtin.copy_,run_underlying hu,Builtin.lenOf,Builtin.firstCells,sizeOf,typeInfo,hq,hi];rw[<-hn,hl];simp[eW]
theorem uC:Tryz.prog.underlying 88=some (.slice 64):=by kernel_rfl
theorem uS:Tryz.prog.underlying 31=some (.slice 64):=by kernel_rfl
theorem kS:(Tryz.prog.info? 64).map (·.size)=some 7:=by kernel_rfl
theorem szS:∀w,(Go.sizeOf 64).run Tryz.prog w= .ok 7 w:=fun w=>by
 have h:=kS;unfold sizeOf typeInfo;cases hq:Tryz.prog.info? 64 with
 |none=>rw[hq]at h;cases h
 |some i=>
  rw[hq]at h;have:i.size=7:=by simpa using h
  simp[hq,this]
set_option maxHeartbeats 4000000 in
theorem ar2(b n c i vb vc:Nat)(cur x:Array Value)(xl:List Value)(tx:TypeId)(W:World)(hi:i<n)(AI:n+1<=c)(hc:c*7<=cur.size)(pC:xl.length=7)(FJ:∀(j:Nat) (v:Value),xl[j]? =some v->x[j]? =some v)(LR:vb≠b)(LS:n<=1000000)
  (hb:W.heap[b]? =some (.cells cur 64 (0,0))) (hv:W.heap[vb]? =some (.cells x tx (0,0))) (LU:∀v∈cur.toList.take (n*7),v.oneCell'=true) (LV:∀v∈xl,v.oneCell'=true):
  Calls Tryz.prog 200 #[.slice (some ⟨b,0,none⟩) n c,.int .i64 i,.slice (some ⟨vb,0,none⟩) 1 vc] W fun e w'=>
   e= .returned (.slice (some ⟨b,0,none⟩) (n+1) c)/\w'=W.drew.setRow b ((cur.toList.take (i*7)++xl++(cur.toList.take (n*7)).drop (i*7))++cur.toList.drop ((n+1)*7)).toArray:=by
 have hz2:¬((i:Int)=(n:Int)):=by omega
 have j7:cur.toList.length=cur.size:=by simp
 have Nf:(n+1)*7<=cur.size:=by omega
 have hov:∀lb cb o,(callFunc 240 #[.slice (some ⟨vb,0,none⟩) 1 vc,.slice (some ⟨b,o,none⟩) lb cb]).run Tryz.prog W= .ok (.value (.bool false)) W:=fun lb cb o=>by
  rw[run_callFunc_extern Tryz.func240 (by kernel_rfl) (by kernel_rfl) (by kernel_rfl) (e:=Extern.SlicesOverlaps.overlaps #[31,31] #[4]) (by kernel_rfl),
   Lib.run_overlaps_apart W 31 4 64 uS 7 szS ⟨vb,0,none⟩ ⟨b,o,none⟩ 1 vc lb cb LR tx 64 x.size cur.size (by simp[World.shape?,hv]) (by simp[World.shape?,hb]) (by omega) (by simp[World.frozen?,hv]) (by simp[World.frozen?,hv])]
  rfl
 have r6:((cur.toList.take (n*7)).drop (i*7)).length=(n-i)*7:=by
  rw[fX,eD,j7];omega
 have QM:Nat.min (n+1-i) (n-i)=n-i:=by simp only[Nat.min_def];split<;>omega
 have DD:W.drew.heap[b]? =some (.cells cur 64 (0,0)):=hb
 have Ng:∀ty dc sc,(Builtin.copy_ #[88,88] ty #[.slice (some ⟨b,(i+1)*7,none⟩) (n-i) dc,.slice (some ⟨b,i*7,none⟩) (n+1-i) sc]).run Tryz.prog W.drew= .ok (goInt (Nat.min (n+1-i) (n-i):Nat)) (W.drew.setRow b (cur.toList.take ((i+1)*7)++(cur.toList.take (n*7)).drop (i*7)++cur.toList.drop ((i+1)*7+((cur.toList.take (n*7)).drop (i*7)).length)).toArray):=fun ty dc sc=>
  VP W.drew _ _ ty 64 7 b ((i+1)*7) (n-i) dc ⟨b,i*7,none⟩ (n+1-i) sc cur 64 _ uC kS DD (by rw[QM];exact r6)
   (fun j v hj=>by
     rw[Addr.add_lit];rw[m9,gF]at hj;split at hj
     ·simp[World.cell?,DD]
      simpa using hj
     ·cases hj) (by rw[r6];omega) (fun v hv=>LU v (l5 hv))
 obtain⟨C1,VQ⟩:∃C1,C1=(cur.toList.take ((i+1)*7)++(cur.toList.take (n*7)).drop (i*7)++cur.toList.drop ((i+1)*7+((cur.toList.take (n*7)).drop (i*7)).length)).toArray:=⟨_,rfl⟩;rw[<-VQ]at Ng
 have Nh:C1.size=cur.size:=by
  rw[VQ];simp[r6];omega
 have QN:(W.drew.setRow b C1).heap[b]? =some (.cells C1 64 (0,0)):=setRow_heap W.drew b cur C1 _ _ DD;have QO:∀dl:Nat,1<=dl->Nat.min 1 dl=1:=fun dl h=>by simp only[Nat.min_def];split<;>omega
 have Ni:∀ty dc,(Builtin.copy_ #[88,31] ty #[.slice (some ⟨b,i*7,none⟩) (n+1-i) dc,.slice (some ⟨vb,0,none⟩) 1 vc]).run Tryz.prog (W.drew.setRow b C1)= .ok (goInt (Nat.min 1 (n+1-i):Nat)) ((W.drew.setRow b C1).setRow b (C1.toList.take (i*7)++xl++C1.toList.drop (i*7+xl.length)).toArray):=fun ty dc=>
  VP (W.drew.setRow b C1) _ _ ty 64 7 b (i*7) (n+1-i) dc ⟨vb,0,none⟩ 1 vc C1 64 xl uC kS QN (by rw[QO _ (by omega),pC])
   (fun j v hj=>by
     rw[Addr.add_lit,cell_setRow_other _ _ _ _ (show vb≠b from LR)]
     have hvd:W.drew.heap[vb]? =some (.cells x tx (0,0)):=hv;simp[World.cell?,hvd]
     simpa using FJ j v hj) (by rw[pC,Nh];omega) LV
 have uX:(W.drew.setRow b C1).setRow b (C1.toList.take (i*7)++xl++C1.toList.drop (i*7+xl.length)).toArray=W.drew.setRow b ((cur.toList.take (i*7)++xl++(cur.toList.take (n*7)).drop (i*7))++cur.toList.drop ((n+1)*7)).toArray:=by
  rw[setRow_setRow,VQ];congr 2;simp only[Z1];have e1:(i+1)*7+((cur.toList.take (n*7)).drop (i*7)).length=(n+1)*7:=by rw[r6];omega
  rw[e1];have e2:i*7+xl.length=(i+1)*7:=by rw[pC];omega
  rw[e2];have e3:(cur.toList.take ((i+1)*7)).length=(i+1)*7:=by rw[eD,j7];omega
  have e4:(cur.toList.take ((i+1)*7)++(cur.toList.take (n*7)).drop (i*7)++cur.toList.drop ((n+1)*7)).take (i*7)=cur.toList.take (i*7):=by
   rw[kA,Z2 (by omega),Yp]
   congr 1;omega
  have e5:(cur.toList.take ((i+1)*7)++(cur.toList.take (n*7)).drop (i*7)++cur.toList.drop ((n+1)*7)).drop ((i+1)*7)=(cur.toList.take (n*7)).drop (i*7)++cur.toList.drop ((n+1)*7):=by
   rw[kA,bv8 (by omega),Yi (by omega),x8]
  rw[e4,e5];simp only[kA]
 obtain⟨C2,Nj⟩:∃C2,C2=(C1.toList.take (i*7)++xl++C1.toList.drop (i*7+xl.length)).toArray:=⟨_,rfl⟩;rw[<-Nj]at Ni uX;rw[<-uX];clear VQ Nj uX r6 Nh;have I8:IntKind.i64.wrap ((i:Int)+1)=(i:Int)+1:=by rw[IntKind.wrap_i64];omega
 have mixed:Tryz.prog.follows .mixedOrders=true:=by kernel_rfl
 have ar6:(0:Int)<=(i:Int)+1:=by omega
 have I3:i<=n:=by omega
 have uY:¬(c=i+1):=by omega
 have hb4:¬(c=i):=by omega
 have QP:((i:Int)+1).toNat=i+1:=by omega
 have VR:(i:Int)<=(n:Int)+1:=by omega
 go_enter Tryz.func200,Tryz.ntmps200
 go_wp2_with (simp only[hov])
 go_region_law_o (refine Nd rfl _ _ 88 88 rfl _ _ (by simp[Act.eval,Act.put]) (by simp[Act.eval,Act.put]) (Ng _ _ _) ?_)
 go_wp2_with (at_builtin;refine Nc _ rfl _ _ 88 31 rfl _ _ rfl rfl (Ni _ _) ?_)
 go_ret
 exact⟨rfl,rfl⟩
theorem uI:Tryz.prog.underlying 3=some (.int .i64):=by kernel_rfl
theorem iS:∃i0 z,Tryz.prog.info? 64=some i0/\i0.zero=some z/\i0.size=7/\z.cells.size=7/\i0.bytes<=1000:=by
 have h:(match Tryz.prog.info? 64 with|some i=>(match i.zero with|some z=>(i.size==7&&(z.cells.size==7&&decide (i.bytes<=1000)))|none=>false)|none=>false)=true:=by kernel_rfl
 cases hq:Tryz.prog.info? 64 with
 |none=>rw[hq]at h;cases h
 |some i0=>
  rw[hq]at h;simp only[]at h;cases hz:i0.zero with
  |none=>rw[hz]at h;cases h
  |some z=>
   rw[hz]at h;simp only[jX,beq_iff_eq,decide_eq_true_eq]at h;exact⟨i0,z,rfl,hz,h.1,h.2.1,h.2.2⟩
def xO(W w':World)(C:Array Value):Prop:=w'.os=W.os/\w'.tape=W.tape/\w'.output=W.output/\(∀k,k<W.heap.size->w'.heap[k]? =W.heap[k]?)/\w'.heap.size=W.heap.size+1/\w'.heap[W.heap.size]? =some (.cells C 64 (0,0))
theorem xO.alloc(W:World)(C:Array Value):xO W (W.drew.alloc (.cells C 64)) C:=by
 refine⟨rfl,rfl,rfl,fun k hk=> ?_,?_,?_⟩
 ·exact Go.RowKit.Below.heap_alloc W.drew _ k hk
 ·show(W.heap.push _).size=_
  rw[Array.size_push]
 ·show(W.heap.push _)[W.heap.size]? =_
  rw[Array.getElem?_push_size]
theorem xO.drew{W w:World}{C:Array Value}(h:xO W w C):xO W w.drew C:=⟨h.1,h.2.1,h.2.2.1,h.2.2.2.1,h.2.2.2.2.1,h.2.2.2.2.2⟩
theorem xO.row{W w:World}{C:Array Value}(h:xO W w C)(D:Array Value):xO W (w.setRow W.heap.size D) D:=by
 obtain⟨h1,h2,h3,h4,h5,h6⟩:=h;exact⟨h1,h2,h3,fun k hk=>by rw[setRow_other _ _ _ _ (by omega)];exact h4 k hk,by rw[setRow_size];exact h5,setRow_heap w _ C D _ _ h6⟩
set_option maxHeartbeats 4000000 in
theorem ar7(b n c i vb vc:Nat)(cur x:Array Value)(xl:List Value)(tb tx:TypeId)(W:World)(hi:i<n)(wD:n<=c)(AI:c<n+1)(hc:n*7<=cur.size)(pC:xl.length=7)(FJ:∀(j:Nat) (v:Value),xl[j]? =some v->x[j]? =some v)(LS:n<=1000000)
  (hb:W.heap[b]? =some (.cells cur tb (0,0))) (hv:W.heap[vb]? =some (.cells x tx (0,0))) (LU:∀v∈cur.toList.take (n*7),v.oneCell'=true) (LV:∀v∈xl,v.oneCell'=true):
  Calls Tryz.prog 200 #[.slice (some ⟨b,0,none⟩) n c,.int .i64 i,.slice (some ⟨vb,0,none⟩) 1 vc] W fun e w'=>
   ∃c' C,e= .returned (.slice (some ⟨W.heap.size,0,none⟩) (n+1) c')/\n+1<=c'/\c'*7<=C.size/\C.toList.take ((n+1)*7)=cur.toList.take (i*7)++xl++(cur.toList.take (n*7)).drop (i*7)/\xO W w' C:=by
 obtain⟨i0,z,LW,hz0,QQ,hzz,Nk⟩:=iS;have hz2:¬((i:Int)=(n:Int)):=by omega
 have hz3:(c:Int)<(n:Int)+1:=by omega
 have j7:cur.toList.length=cur.size:=by simp
 have I7:b<W.heap.size:=(jB.1 hb).1;have hvw:vb<W.heap.size:=(jB.1 hv).1;have sA:(n:Int)+1-(i:Int)=((n+1-i:Nat):Int):=by omega
 have fE:i+(n+1-i)=n+1:=by omega
 have CC:∀j v,(cur.toList.take (n*7))[j]? =some v->W.cell? ⟨b,j,none⟩=some v:=fun j v hj=>by
  rw[gF]at hj;split at hj
  ·simp[World.cell?,hb]
   simpa using hj
  ·cases hj
 have hold:(Builtin.firstCells i0.size i (.slice (some ⟨b,0,none⟩) i c)).run Tryz.prog W.drew= .ok (cur.toList.take (i*7)).toArray W.drew:=by
  rw[QQ]
  exact run_firstCells_some W.drew 7 i ⟨b,0,none⟩ i c (cur.toList.take (i*7)) (by rw[eD,j7];omega) (fun j v hj=>by
   rw[Addr.add_lit,sN];rw[gF]at hj;split at hj
   ·exact CC j v (by rw[gF,if_pos (by omega)];exact hj)
   ·cases hj)
 have VS:∀ty,(Builtin.append_ #[88,3] ty #[.slice (some ⟨b,0,none⟩) i c,.int .i64 ((n:Int)+1-(i:Int))]).run Tryz.prog W=
   .ok (.slice (some ⟨W.heap.size,0,none⟩) (n+1) (grownCap W (n+1) c 64)) (W.drew.alloc (.cells ((cur.toList.take (i*7)).toArray++Builtin.zeroCells z.cells (n+1-i)++Builtin.zeroCells z.cells (grownCap W (n+1) c 64-(n+1))) 64)):=fun ty=>by
  have h:=Lib.run_append_grow_zeros W 88 3 ty 64 i0 z .i64 .i64 uC uI LW hz0 (some ⟨b,0,none⟩) i c (cur.toList.take (i*7)) hold (n+1-i) (by omega) (by omega) (by omega) (by omega) (by
   have:(n+1-i)*i0.bytes<=1000001*1000:=Nat.mul_le_mul (by omega) Nk
   omega) (by
   rw[fE];refine growslice_fits AI ?_;have:(n+1)*i0.bytes<=1000001*1000:=Nat.mul_le_mul (by omega) Nk
   omega)
  rw[fE]at h;rw[sA];exact h
 have Nl:n+1<=grownCap W (n+1) c 64:=grownCap_ge W _ _ _
 have as3:grownCap W (n+1) c 64<=9223372036854775807:=by
  have:=grownCap_le_maxLen W (n+1) c 64 (by unfold maxLen;omega)
  unfold maxLen at this;omega
 obtain⟨G,hG⟩:∃G,G=grownCap W (n+1) c 64:=⟨_,rfl⟩;rw[<-hG]at VS Nl as3;obtain⟨z7,VT⟩:∃z7:Array Value,z7=(cur.toList.take (i*7)).toArray++Builtin.zeroCells z.cells (n+1-i)++Builtin.zeroCells z.cells (G-(n+1)):=⟨_,rfl⟩;rw[<-VT]at VS
 have Bp:z7.size=G*7:=by
  rw[VT];simp only[Iz,PE,eD,j7,size_zeroCells,hzz];omega
 have QR:z7.toList.take (i*7)=cur.toList.take (i*7):=by
  rw[VT];simp only[Array.toList_append,kA];rw[Z2 (by simp[j7];omega),Yp,YT]
 clear hG VT hold;obtain⟨W1,Bq⟩:∃W1,W1=W.drew.alloc (.cells z7 64):=⟨_,rfl⟩;have DH:xO W W1 z7:=by rw[Bq];exact xO.alloc W z7
 rw[<-Bq]at VS;clear Bq;obtain⟨N,hN⟩:∃N,N=W.heap.size:=⟨_,rfl⟩;obtain⟨-,-,-,k1,k2,k3⟩:=id DH;have QO:∀dl:Nat,1<=dl->Nat.min 1 dl=1:=fun dl h=>by simp only[Nat.min_def];split<;>omega
 have Nm:W1.heap[vb]? =some (.cells x tx (0,0)):=by rw[k1 vb hvw];exact hv
 have as4:W1.heap[b]? =some (.cells cur tb (0,0)):=by rw[k1 b I7];exact hb
 have Nn:∀ty dc,(Builtin.copy_ #[88,31] ty #[.slice (some ⟨W.heap.size,i*7,none⟩) (n+1-i) dc,.slice (some ⟨vb,0,none⟩) 1 vc]).run Tryz.prog W1= .ok (goInt (Nat.min 1 (n+1-i):Nat)) (W1.setRow W.heap.size (z7.toList.take (i*7)++xl++z7.toList.drop (i*7+xl.length)).toArray):=fun ty dc=>
  VP W1 _ _ ty 64 7 W.heap.size (i*7) (n+1-i) dc ⟨vb,0,none⟩ 1 vc z7 64 xl uC kS k3 (by rw[QO _ (by omega),pC])
   (fun j v hj=>by
     rw[Addr.add_lit];simp[World.cell?,Nm]
     simpa using FJ j v hj) (by rw[pC,Bp];omega) LV
 obtain⟨RA,VU⟩:∃RA,RA=(z7.toList.take (i*7)++xl++z7.toList.drop (i*7+xl.length)).toArray:=⟨_,rfl⟩;rw[<-VU]at Nn
 have Br:RA.size=G*7:=by
  rw[VU];simp only[PE,cP,eD,fX,pC,Ja,Bp];omega
 have No:RA.toList.take ((i+1)*7)=cur.toList.take (i*7)++xl:=by
  have e1:(cur.toList.take (i*7)).length=i*7:=by rw[eD,j7];omega
  rw[VU,QR];simp only[Z1];rw[Z2 (by rw[cP,e1,pC];omega),cR (by rw[cP,e1,pC];omega)]
 have DI:xO W (W1.setRow W.heap.size RA).drew RA:=(DH.row RA).drew;obtain⟨-,-,-,l1,l2,l3⟩:=id DI
 have r6:((cur.toList.take (n*7)).drop (i*7)).length=(n-i)*7:=by
  rw[fX,eD,j7];omega
 have Np:(W1.setRow W.heap.size RA).drew.heap[b]? =some (.cells cur tb (0,0)):=by rw[l1 b I7];exact hb
 have Nq:∀ty dc sc,(Builtin.copy_ #[88,88] ty #[.slice (some ⟨W.heap.size,(i+1)*7,none⟩) (n-i) dc,.slice (some ⟨b,i*7,none⟩) (n-i) sc]).run Tryz.prog (W1.setRow W.heap.size RA).drew= .ok (goInt (Nat.min (n-i) (n-i):Nat)) ((W1.setRow W.heap.size RA).drew.setRow W.heap.size (RA.toList.take ((i+1)*7)++(cur.toList.take (n*7)).drop (i*7)++RA.toList.drop ((i+1)*7+((cur.toList.take (n*7)).drop (i*7)).length)).toArray):=fun ty dc sc=>
  VP (W1.setRow W.heap.size RA).drew _ _ ty 64 7 W.heap.size ((i+1)*7) (n-i) dc ⟨b,i*7,none⟩ (n-i) sc RA 64 _ uC kS l3 (by rw[r6,show Nat.min (n-i) (n-i)=n-i from YT _])
   (fun j v hj=>by
     rw[Addr.add_lit];rw[m9,gF]at hj;split at hj
     ·simp[World.cell?,Np]
      simpa using hj
     ·cases hj) (by rw[r6,Br];omega) (fun v hv=>LU v (l5 hv))
 obtain⟨RB,VV⟩:∃RB,RB=(RA.toList.take ((i+1)*7)++(cur.toList.take (n*7)).drop (i*7)++RA.toList.drop ((i+1)*7+((cur.toList.take (n*7)).drop (i*7)).length)).toArray:=⟨_,rfl⟩;rw[<-VV]at Nq
 have Nr:RB.size=G*7:=by
  rw[VV];simp only[PE,cP,eD,fX,j7,Ja,Br];omega
 have Ns:RB.toList.take ((n+1)*7)=cur.toList.take (i*7)++xl++(cur.toList.take (n*7)).drop (i*7):=by
  have e1:(cur.toList.take (i*7)).length=i*7:=by rw[eD,j7];omega
  rw[VV,No];simp only[Z1];have e2:(cur.toList.take (i*7)++xl++(cur.toList.take (n*7)).drop (i*7)).length=(n+1)*7:=by rw[cP,cP,e1,pC,r6];omega
  rw[Z2 (by rw[e2];exact cA _),cR (by rw[e2];exact cA _)]
 have uX:∃c' C,Ending.returned (.slice (some ⟨W.heap.size,0,none⟩) (n+1) G)= .returned (.slice (some ⟨W.heap.size,0,none⟩) (n+1) c')/\n+1<=c'/\c'*7<=C.size/\C.toList.take ((n+1)*7)=cur.toList.take (i*7)++xl++(cur.toList.take (n*7)).drop (i*7)/\xO W ((W1.setRow W.heap.size RA).drew.setRow W.heap.size RB) C:=
  ⟨G,RB,rfl,Nl,by rw[Nr];exact cA _,Ns,DI.row RB⟩
 have mixed:Tryz.prog.follows .mixedOrders=true:=by kernel_rfl
 have I8:IntKind.i64.wrap ((i:Int)+1)=(i:Int)+1:=by rw[IntKind.wrap_i64];omega
 have ar6:(0:Int)<=(i:Int)+1:=by omega
 have I3:i<=n:=by omega
 have hGi:¬(G=i):=by omega
 have bG8:¬(G=i+1):=by omega
 have hci:¬(c=i):=by omega
 have QP:((i:Int)+1).toNat=i+1:=by omega
 have VR:(i:Int)<=(n:Int):=by omega
 clear sA fE VU VV QR No Ns Br Nr Bp r6 DH DI k1 k2 k3 l1 l2 l3 hN as4 Np Nm
 go_enter Tryz.func200,Tryz.ntmps200
 go_wp2_with (first
  |(at_builtin;refine Lib.wpList_append_run _ rfl _ _ _ _ rfl _ _ rfl rfl _ _ (VS _) ?_)
  |(at_builtin;refine Nc _ rfl _ _ 88 31 rfl _ _ rfl rfl (Nn _ _) ?_))
 go_region_law_o (refine Nd rfl _ _ 88 88 rfl _ _ (by simp[Act.eval,Act.put]) (by simp[Act.eval,Act.put]) (Nq _ _ _) ?_)
 go_wp2
 go_ret
 exact uX
end Go.Proofs.YtioafciifiggaaaGreatDoor
