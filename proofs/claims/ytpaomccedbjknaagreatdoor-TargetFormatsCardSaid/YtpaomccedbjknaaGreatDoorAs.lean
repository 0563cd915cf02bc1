/- Target: contracts of its functions (As). No condition but those named. -/
import Derived.Test.YtpaomccedbjknaaGreatDoorL0
import Derived.Test.YtpaomccedbjknaaGreatDoorProg
import Derived.WalkKit
import Derived.Lib.Walk
import Derived.Lib.SliceRun
import Derived.Lib.JoinLaws
import Derived.Lib.AppendZeros
import Derived.Lib.AppendZerosOnto
import Derived.Lib.Overlaps
import Derived.Laws.Externs
import Derived.Laws.CopyRow
import Derived.Laws.IdiomCopy
import Derived.Laws.NewBlocks
import Derived.Deep.RegionLaw
import Derived.Shelf.RegionOpenPlain
set_option linter.all false
namespace Go.Proofs.YtpaomccedbjknaaGreatDoor
open Go.Proofs Go.RowKit Go.Lib
set_option maxRecDepth 100000
theorem Ns{P:Program}(w:World){ops:Array Oper}{rest:List Oper}{o:Oper}{a:Act}{Q:Exit->Act->World->Prop}(Aq:o.guard=none)(d s:Operand)(t t':TypeId)
  (ho:o.op= .call {callee:= .builtin .copy,args:= #[d,s],argTypes:= #[t,t']}) (v u:Value) (hd:a.eval d=v) (hs:a.eval s=u) {v':Value} {w':World}
  (hr:(Builtin.copy_ #[t,t'] o.type #[v,u]).run P w= .ok v' w') (h:wpList P ops Q rest (a.put o.dst v') w'):wpList P ops Q (o::rest) a w:=
 wpList_plain Aq fun _ hK=>by
  unfold Oper.wp execOp;simp only[ho,resolve,invoke,builtin,Sem.run_bind,Sem.run_pure,Result.andThen_ok,T9,qE,GU,hd,hs,hr];exact hK _ _ h
theorem Nt{P:Program}{ops:Array Oper}{o:Oper}{a:Act}{w:World}{K:Act->World->Prop}{Q:Exit->Act->World->Prop}{E:Prop}
  (hg:o.guard=none) (d x:Operand) (dT sT:TypeId) (aS:o.op=Op.call {callee:=Callee.builtin Builtin.copy,args:= #[d,x],argTypes:= #[dT,sT]})
  (v u:Value) (hd:a.eval d=v) (hx:a.eval x=u) {v':Value} {w':World} (hr:(Builtin.copy_ #[dT,sT] o.type #[v,u]).run P w= .ok v' w') (hK:K (a.put o.dst v') w'):
  if Region.wanted o (yielded ops a.tmps)=true then Oper.wp P o a w K Q else E:=by
 have hw:Region.wanted o (yielded ops a.tmps)=true:=by simp[Region.wanted,hg]
 rw[if_pos hw];unfold Oper.wp;simp[execOp,aS,resolve,invoke,builtin,hd,hx,hr,Result.andThen];exact hK
theorem UZ{P:Program}(w:World)(dT sT ty elem:TypeId)(k:Nat)(g o dLen dCap:Nat)(a:Addr)(sLen sCap:Nat)(cur:Array Value)(t:TypeId)(cs:List Value)
  (hu:P.underlying dT=some (.slice elem)) (hk:(P.info? elem).map (·.size)=some k)
  (hg:w.heap[g]? =some (.cells cur t (0,0))) (hn:cs.length=Nat.min sLen dLen*k)
  (As:∀j v,cs[j]? =some v->w.cell? (a.add j)=some v) (LB:o+cs.length<=cur.size) (h1:∀v∈cs,v.oneCell'=true):
  (Builtin.copy_ #[dT,sT] ty #[.slice (some ⟨g,o,none⟩) dLen dCap,.slice (some a) sLen sCap]).run P w=
    .ok (goInt (Nat.min sLen dLen:Nat)) (w.setRow g (cur.toList.take o++cs++cur.toList.drop (o+cs.length)).toArray):=by
 have hl:=run_loadCells_list (P:=P) w a cs As;have iR:=run_storeCells_at P g o t cs 0 cur w hg (by simpa using LB) h1
 cases hq:P.info? elem with
 |none=>simp[hq]at hk
 |some i=>
  have hi:i.size=k:=by simpa[hq]using hk
  simp[Builtin.copy_,run_underlying hu,Builtin.lenOf,Builtin.firstCells,sizeOf,typeInfo,hq,hi];rw[<-hn,hl];simp[iR]
theorem uC:Tryz.prog.underlying 213=some (.slice 192):=by kernel_rfl
theorem uS:Tryz.prog.underlying 40=some (.slice 192):=by kernel_rfl
theorem kS:(Tryz.prog.info? 192).map (·.size)=some 7:=by kernel_rfl
theorem szS:∀w,(Go.sizeOf 192).run Tryz.prog w= .ok 7 w:=fun w=>by
 have h:=kS;unfold sizeOf typeInfo;cases hq:Tryz.prog.info? 192 with
 |none=>rw[hq]at h;cases h
 |some i=>
  rw[hq]at h;have:i.size=7:=by simpa using h
  simp[hq,this]
set_option maxHeartbeats 4000000 in
theorem az1(b n c i vb vc:Nat)(cur x:Array Value)(xl:List Value)(tx:TypeId)(W:World)(hi:i<n)(AE:n+1<=c)(hc:c*7<=cur.size)(pY:xl.length=7)(BU:∀(j:Nat) (v:Value),xl[j]? =some v->x[j]? =some v)(LC:vb≠b)(LD:n<=1000000)
  (hb:W.heap[b]? =some (.cells cur 192 (0,0))) (hv:W.heap[vb]? =some (.cells x tx (0,0))) (LF:∀v∈cur.toList.take (n*7),v.oneCell'=true) (LG:∀v∈xl,v.oneCell'=true):
  Calls Tryz.prog 243 #[.slice (some ⟨b,0,none⟩) n c,.int .i64 i,.slice (some ⟨vb,0,none⟩) 1 vc] W fun e w'=>
   e= .returned (.slice (some ⟨b,0,none⟩) (n+1) c)/\w'=W.drew.setRow b ((cur.toList.take (i*7)++xl++(cur.toList.take (n*7)).drop (i*7))++cur.toList.drop ((n+1)*7)).toArray:=by
 have xT:¬((i:Int)=(n:Int)):=oM
 have gZ:cur.toList.length=cur.size:=by simp
 have Nu:(n+1)*7<=cur.size:=oM
 have hov:∀lb cb o,(callFunc 266 #[.slice (some ⟨vb,0,none⟩) 1 vc,.slice (some ⟨b,o,none⟩) lb cb]).run Tryz.prog W= .ok (.value (.bool false)) W:=fun lb cb o=>by
  rw[run_callFunc_extern Tryz.func266 (by kernel_rfl) (by kernel_rfl) (by kernel_rfl) (e:=Extern.SlicesOverlaps.overlaps #[40,40] #[4]) (by kernel_rfl),
   Lib.run_overlaps_apart W 40 4 192 uS 7 szS ⟨vb,0,none⟩ ⟨b,o,none⟩ 1 vc lb cb LC tx 192 x.size cur.size (by simp[World.shape?,hv]) (by simp[World.shape?,hb]) oM (by simp[World.frozen?,hv]) (by simp[World.frozen?,hv])]
  rfl
 have AF:((cur.toList.take (n*7)).drop (i*7)).length=(n-i)*7:=by
  rw[kR,dX,gZ];omega
 have QB:Nat.min (n+1-i) (n-i)=n-i:=by simp only[Nat.min_def];split<;>omega
 have HS:W.drew.heap[b]? =some (.cells cur 192 (0,0)):=hb
 have Nv:∀ty dc sc,(Builtin.copy_ #[213,213] ty #[.slice (some ⟨b,(i+1)*7,none⟩) (n-i) dc,.slice (some ⟨b,i*7,none⟩) (n+1-i) sc]).run Tryz.prog W.drew= .ok (goInt (Nat.min (n+1-i) (n-i):Nat)) (W.drew.setRow b (cur.toList.take ((i+1)*7)++(cur.toList.take (n*7)).drop (i*7)++cur.toList.drop ((i+1)*7+((cur.toList.take (n*7)).drop (i*7)).length)).toArray):=fun ty dc sc=>
  UZ W.drew _ _ ty 192 7 b ((i+1)*7) (n-i) dc ⟨b,i*7,none⟩ (n+1-i) sc cur 192 _ uC kS HS (by rw[QB];exact AF)
   (fun j v hj=>by
     rw[Addr.add_lit];rw[vA,pK]at hj;split at hj
     ·simp[World.cell?,HS]
      simpa using hj
     ·cases hj) (by rw[AF];omega) (fun v hv=>LF v (BA hv))
 obtain⟨C1,V0⟩:∃C1,C1=(cur.toList.take ((i+1)*7)++(cur.toList.take (n*7)).drop (i*7)++cur.toList.drop ((i+1)*7+((cur.toList.take (n*7)).drop (i*7)).length)).toArray:=⟨_,rfl⟩;rw[<-V0]at Nv
 have Nw:C1.size=cur.size:=by
  rw[V0];simp[AF];omega
 have QC:(W.drew.setRow b C1).heap[b]? =some (.cells C1 192 (0,0)):=setRow_heap W.drew b cur C1 _ _ HS;have QD:∀dl:Nat,1<=dl->Nat.min 1 dl=1:=fun dl h=>by simp only[Nat.min_def];split<;>omega
 have Nx:∀ty dc,(Builtin.copy_ #[213,40] ty #[.slice (some ⟨b,i*7,none⟩) (n+1-i) dc,.slice (some ⟨vb,0,none⟩) 1 vc]).run Tryz.prog (W.drew.setRow b C1)= .ok (goInt (Nat.min 1 (n+1-i):Nat)) ((W.drew.setRow b C1).setRow b (C1.toList.take (i*7)++xl++C1.toList.drop (i*7+xl.length)).toArray):=fun ty dc=>
  UZ (W.drew.setRow b C1) _ _ ty 192 7 b (i*7) (n+1-i) dc ⟨vb,0,none⟩ 1 vc C1 192 xl uC kS QC (by rw[QD _ oM,pY])
   (fun j v hj=>by
     rw[Addr.add_lit,cell_setRow_other _ _ _ _ (show vb≠b from LC)]
     have hvd:W.drew.heap[vb]? =some (.cells x tx (0,0)):=hv;simp[World.cell?,hvd]
     simpa using BU j v hj) (by rw[pY,Nw];omega) LG
 have QE:(W.drew.setRow b C1).setRow b (C1.toList.take (i*7)++xl++C1.toList.drop (i*7+xl.length)).toArray=W.drew.setRow b ((cur.toList.take (i*7)++xl++(cur.toList.take (n*7)).drop (i*7))++cur.toList.drop ((n+1)*7)).toArray:=by
  rw[setRow_setRow,V0];congr 2;simp only[Y9];have e1:(i+1)*7+((cur.toList.take (n*7)).drop (i*7)).length=(n+1)*7:=by rw[AF];omega
  rw[e1];have e2:i*7+xl.length=(i+1)*7:=by rw[pY];omega
  rw[e2];have e3:(cur.toList.take ((i+1)*7)).length=(i+1)*7:=by rw[dX,gZ];omega
  have e4:(cur.toList.take ((i+1)*7)++(cur.toList.take (n*7)).drop (i*7)++cur.toList.drop ((n+1)*7)).take (i*7)=cur.toList.take (i*7):=by
   rw[nH,YA oM,Zo]
   congr 1;omega
  have e5:(cur.toList.take ((i+1)*7)++(cur.toList.take (n*7)).drop (i*7)++cur.toList.drop ((n+1)*7)).drop ((i+1)*7)=(cur.toList.take (n*7)).drop (i*7)++cur.toList.drop ((n+1)*7):=by
   rw[nH,List.drop_append_of_le_length oM,Zh oM,sF]
  rw[e4,e5];simp only[nH]
 obtain⟨C2,Ny⟩:∃C2,C2=(C1.toList.take (i*7)++xl++C1.toList.drop (i*7+xl.length)).toArray:=⟨_,rfl⟩;rw[<-Ny]at Nx QE;rw[<-QE];clear V0 Ny QE AF Nw;have BV:IntKind.i64.wrap ((i:Int)+1)=(i:Int)+1:=by rw[IntKind.wrap_i64];omega
 have mixed:Tryz.prog.follows .mixedOrders=true:=by kernel_rfl
 have az4:(0:Int)<=(i:Int)+1:=oM
 have wN:i<=n:=oM
 have u5:¬(c=i+1):=oM
 have hb4:¬(c=i):=oM
 have V1:((i:Int)+1).toNat=i+1:=oM
 have V2:(i:Int)<=(n:Int)+1:=oM
 go_enter Tryz.func243,Tryz.ntmps243
 go_wp2_with (simp only[hov])
 go_region_law_o (refine Nt rfl _ _ 213 213 rfl _ _ (by simp[Act.eval,Act.put]) (by simp[Act.eval,Act.put]) (Nv _ _ _) ?_)
 go_wp2_with (at_builtin;refine Ns _ rfl _ _ 213 40 rfl _ _ rfl rfl (Nx _ _) ?_)
 go_ret
 exact⟨rfl,rfl⟩
theorem uI:Tryz.prog.underlying 3=some (.int .i64):=by kernel_rfl
theorem iS:∃i0 z,Tryz.prog.info? 192=some i0/\i0.zero=some z/\i0.size=7/\z.cells.size=7/\i0.bytes<=1000:=by
 have h:(match Tryz.prog.info? 192 with|some i=>(match i.zero with|some z=>(i.size==7&&(z.cells.size==7&&decide (i.bytes<=1000)))|none=>false)|none=>false)=true:=by kernel_rfl
 cases hq:Tryz.prog.info? 192 with
 |none=>rw[hq]at h;cases h
 |some i0=>
  rw[hq]at h;simp only[]at h;cases hz:i0.zero with
  |none=>rw[hz]at h;cases h
  |some z=>
   rw[hz]at h;simp only[jF,beq_iff_eq,decide_eq_true_eq]at h;exact⟨i0,z,rfl,hz,h.1,h.2.1,h.2.2⟩
def xU(W w':World)(C:Array Value):Prop:=w'.os=W.os/\w'.tape=W.tape/\w'.output=W.output/\(∀k,k<W.heap.size->w'.heap[k]? =W.heap[k]?)/\w'.heap.size=W.heap.size+1/\w'.heap[W.heap.size]? =some (.cells C 192 (0,0))
theorem xU.alloc(W:World)(C:Array Value):xU W (W.drew.alloc (.cells C 192)) C:=by
 refine⟨rfl,rfl,rfl,fun k hk=> ?_,?_,?_⟩
 ·exact Go.RowKit.Below.heap_alloc W.drew _ k hk
 ·show(W.heap.push _).size=_
  rw[Array.size_push]
 ·show(W.heap.push _)[W.heap.size]? =_
  rw[Array.getElem?_push_size]
theorem xU.drew{W w:World}{C:Array Value}(h:xU W w C):xU W w.drew C:=⟨h.1,h.2.1,h.2.2.1,h.2.2.2.1,h.2.2.2.2.1,h.2.2.2.2.2⟩
theorem xU.row{W w:World}{C:Array Value}(h:xU W w C)(D:Array Value):xU W (w.setRow W.heap.size D) D:=by
 obtain⟨h1,h2,h3,h4,h5,h6⟩:=h;exact⟨h1,h2,h3,fun k hk=>by rw[setRow_other _ _ _ _ oM];exact h4 k hk,by rw[setRow_size];exact h5,setRow_heap w _ C D _ _ h6⟩
set_option maxHeartbeats 4000000 in
theorem az5(b n c i vb vc:Nat)(cur x:Array Value)(xl:List Value)(tb tx:TypeId)(W:World)(hi:i<n)(BW:n<=c)(AE:c<n+1)(hc:n*7<=cur.size)(pY:xl.length=7)(BU:∀(j:Nat) (v:Value),xl[j]? =some v->x[j]? =some v)(LD:n<=1000000)
  (hb:W.heap[b]? =some (.cells cur tb (0,0))) (hv:W.heap[vb]? =some (.cells x tx (0,0))) (LF:∀v∈cur.toList.take (n*7),v.oneCell'=true) (LG:∀v∈xl,v.oneCell'=true):
  Calls Tryz.prog 243 #[.slice (some ⟨b,0,none⟩) n c,.int .i64 i,.slice (some ⟨vb,0,none⟩) 1 vc] W fun e w'=>
   ∃c' C,e= .returned (.slice (some ⟨W.heap.size,0,none⟩) (n+1) c')/\n+1<=c'/\c'*7<=C.size/\C.toList.take ((n+1)*7)=cur.toList.take (i*7)++xl++(cur.toList.take (n*7)).drop (i*7)/\xU W w' C:=by
 obtain⟨i0,z,V3,hz0,QF,V4,Nz⟩:=iS;have xT:¬((i:Int)=(n:Int)):=oM
 have QG:(c:Int)<(n:Int)+1:=oM
 have gZ:cur.toList.length=cur.size:=by simp
 have I0:b<W.heap.size:=(k7.1 hb).1;have hvw:vb<W.heap.size:=(k7.1 hv).1;have r8:(n:Int)+1-(i:Int)=((n+1-i:Nat):Int):=oM
 have iJ:i+(n+1-i)=n+1:=oM
 have I1:∀j v,(cur.toList.take (n*7))[j]? =some v->W.cell? ⟨b,j,none⟩=some v:=fun j v hj=>by
  rw[pK]at hj;split at hj
  ·simp[World.cell?,hb]
   simpa using hj
  ·cases hj
 have hold:(Builtin.firstCells i0.size i (.slice (some ⟨b,0,none⟩) i c)).run Tryz.prog W.drew= .ok (cur.toList.take (i*7)).toArray W.drew:=by
  rw[QF]
  exact run_firstCells_some W.drew 7 i ⟨b,0,none⟩ i c (cur.toList.take (i*7)) (by rw[dX,gZ];omega) (fun j v hj=>by
   rw[Addr.add_lit,vB];rw[pK]at hj;split at hj
   ·exact I1 j v (by rw[pK,if_pos oM];exact hj)
   ·cases hj)
 have V5:∀ty,(Builtin.append_ #[213,3] ty #[.slice (some ⟨b,0,none⟩) i c,.int .i64 ((n:Int)+1-(i:Int))]).run Tryz.prog W=
   .ok (.slice (some ⟨W.heap.size,0,none⟩) (n+1) (grownCap W (n+1) c 192)) (W.drew.alloc (.cells ((cur.toList.take (i*7)).toArray++Builtin.zeroCells z.cells (n+1-i)++Builtin.zeroCells z.cells (grownCap W (n+1) c 192-(n+1))) 192)):=fun ty=>by
  have h:=Lib.run_append_grow_zeros W 213 3 ty 192 i0 z .i64 .i64 uC uI V3 hz0 (some ⟨b,0,none⟩) i c (cur.toList.take (i*7)) hold (n+1-i) oM oM oM oM (by
   have:(n+1-i)*i0.bytes<=1000001*1000:=Nat.mul_le_mul oM Nz
   omega) (by
   rw[iJ];refine growslice_fits AE ?_;have:(n+1)*i0.bytes<=1000001*1000:=Nat.mul_le_mul oM Nz
   omega)
  rw[iJ]at h;rw[r8];exact h
 have Oa:n+1<=grownCap W (n+1) c 192:=grownCap_ge W _ _ _
 have az8:grownCap W (n+1) c 192<=9223372036854775807:=by
  have:=grownCap_le_maxLen W (n+1) c 192 (by unfold maxLen;omega)
  unfold maxLen at this;omega
 obtain⟨G,hG⟩:∃G,G=grownCap W (n+1) c 192:=⟨_,rfl⟩;rw[<-hG]at V5 Oa az8;obtain⟨z1,V6⟩:∃z1:Array Value,z1=(cur.toList.take (i*7)).toArray++Builtin.zeroCells z.cells (n+1-i)++Builtin.zeroCells z.cells (G-(n+1)):=⟨_,rfl⟩;rw[<-V6]at V5
 have Au:z1.size=G*7:=by
  rw[V6];simp only[Io,OS,dX,gZ,size_zeroCells,V4];omega
 have Ob:z1.toList.take (i*7)=cur.toList.take (i*7):=by
  rw[V6];simp only[Array.toList_append,nH];rw[YA (by simp[gZ];omega),Zo,XZ]
 clear hG V6 hold;obtain⟨W1,Av⟩:∃W1,W1=W.drew.alloc (.cells z1 192):=⟨_,rfl⟩;have Aw:xU W W1 z1:=by rw[Av];exact xU.alloc W z1
 rw[<-Av]at V5;clear Av;obtain⟨N,hN⟩:∃N,N=W.heap.size:=⟨_,rfl⟩;obtain⟨-,-,-,k1,k2,k3⟩:=id Aw;have QD:∀dl:Nat,1<=dl->Nat.min 1 dl=1:=fun dl h=>by simp only[Nat.min_def];split<;>omega
 have Oc:W1.heap[vb]? =some (.cells x tx (0,0)):=by rw[k1 vb hvw];exact hv
 have az9:W1.heap[b]? =some (.cells cur tb (0,0)):=by rw[k1 b I0];exact hb
 have Od:∀ty dc,(Builtin.copy_ #[213,40] ty #[.slice (some ⟨W.heap.size,i*7,none⟩) (n+1-i) dc,.slice (some ⟨vb,0,none⟩) 1 vc]).run Tryz.prog W1= .ok (goInt (Nat.min 1 (n+1-i):Nat)) (W1.setRow W.heap.size (z1.toList.take (i*7)++xl++z1.toList.drop (i*7+xl.length)).toArray):=fun ty dc=>
  UZ W1 _ _ ty 192 7 W.heap.size (i*7) (n+1-i) dc ⟨vb,0,none⟩ 1 vc z1 192 xl uC kS k3 (by rw[QD _ oM,pY])
   (fun j v hj=>by
     rw[Addr.add_lit];simp[World.cell?,Oc]
     simpa using BU j v hj) (by rw[pY,Au];omega) LG
 obtain⟨RA,V7⟩:∃RA,RA=(z1.toList.take (i*7)++xl++z1.toList.drop (i*7+xl.length)).toArray:=⟨_,rfl⟩;rw[<-V7]at Od
 have Ax:RA.size=G*7:=by
  rw[V7];simp only[OS,cU,dX,kR,pY,Ip,Au];omega
 have Oe:RA.toList.take ((i+1)*7)=cur.toList.take (i*7)++xl:=by
  have e1:(cur.toList.take (i*7)).length=i*7:=by rw[dX,gZ];omega
  rw[V7,Ob];simp only[Y9];rw[YA (by rw[cU,e1,pY];omega),cN (by rw[cU,e1,pY];omega)]
 have Ay:xU W (W1.setRow W.heap.size RA).drew RA:=(Aw.row RA).drew;obtain⟨-,-,-,l1,l2,l3⟩:=id Ay
 have AF:((cur.toList.take (n*7)).drop (i*7)).length=(n-i)*7:=by
  rw[kR,dX,gZ];omega
 have Of:(W1.setRow W.heap.size RA).drew.heap[b]? =some (.cells cur tb (0,0)):=by rw[l1 b I0];exact hb
 have Og:∀ty dc sc,(Builtin.copy_ #[213,213] ty #[.slice (some ⟨W.heap.size,(i+1)*7,none⟩) (n-i) dc,.slice (some ⟨b,i*7,none⟩) (n-i) sc]).run Tryz.prog (W1.setRow W.heap.size RA).drew= .ok (goInt (Nat.min (n-i) (n-i):Nat)) ((W1.setRow W.heap.size RA).drew.setRow W.heap.size (RA.toList.take ((i+1)*7)++(cur.toList.take (n*7)).drop (i*7)++RA.toList.drop ((i+1)*7+((cur.toList.take (n*7)).drop (i*7)).length)).toArray):=fun ty dc sc=>
  UZ (W1.setRow W.heap.size RA).drew _ _ ty 192 7 W.heap.size ((i+1)*7) (n-i) dc ⟨b,i*7,none⟩ (n-i) sc RA 192 _ uC kS l3 (by rw[AF,show Nat.min (n-i) (n-i)=n-i from XZ _])
   (fun j v hj=>by
     rw[Addr.add_lit];rw[vA,pK]at hj;split at hj
     ·simp[World.cell?,Of]
      simpa using hj
     ·cases hj) (by rw[AF,Ax];omega) (fun v hv=>LF v (BA hv))
 obtain⟨RB,V8⟩:∃RB,RB=(RA.toList.take ((i+1)*7)++(cur.toList.take (n*7)).drop (i*7)++RA.toList.drop ((i+1)*7+((cur.toList.take (n*7)).drop (i*7)).length)).toArray:=⟨_,rfl⟩;rw[<-V8]at Og
 have Oh:RB.size=G*7:=by
  rw[V8];simp only[OS,cU,dX,kR,gZ,Ip,Ax];omega
 have Oi:RB.toList.take ((n+1)*7)=cur.toList.take (i*7)++xl++(cur.toList.take (n*7)).drop (i*7):=by
  have e1:(cur.toList.take (i*7)).length=i*7:=by rw[dX,gZ];omega
  rw[V8,Oe];simp only[Y9];have e2:(cur.toList.take (i*7)++xl++(cur.toList.take (n*7)).drop (i*7)).length=(n+1)*7:=by rw[cU,cU,e1,pY,AF];omega
  rw[YA (by rw[e2];exact cA _),cN (by rw[e2];exact cA _)]
 have QE:∃c' C,Ending.returned (.slice (some ⟨W.heap.size,0,none⟩) (n+1) G)= .returned (.slice (some ⟨W.heap.size,0,none⟩) (n+1) c')/\n+1<=c'/\c'*7<=C.size/\C.toList.take ((n+1)*7)=cur.toList.take (i*7)++xl++(cur.toList.take (n*7)).drop (i*7)/\xU W ((W1.setRow W.heap.size RA).drew.setRow W.heap.size RB) C:=
  ⟨G,RB,rfl,Oa,by rw[Oh];exact cA _,Oi,Ay.row RB⟩
 have mixed:Tryz.prog.follows .mixedOrders=true:=by kernel_rfl
 have BV:IntKind.i64.wrap ((i:Int)+1)=(i:Int)+1:=by rw[IntKind.wrap_i64];omega
 have az4:(0:Int)<=(i:Int)+1:=oM
 have wN:i<=n:=oM
 have hGi:¬(G=i):=oM
 have bW4:¬(G=i+1):=oM
 have hci:¬(c=i):=oM
 have V1:((i:Int)+1).toNat=i+1:=oM
 have V2:(i:Int)<=(n:Int):=oM
 clear r8 iJ V7 V8 Ob Oe Oi Ax Oh Au AF Aw Ay k1 k2 k3 l1 l2 l3 hN az9 Of Oc
 go_enter Tryz.func243,Tryz.ntmps243
 go_wp2_with (first
  |(at_builtin;refine Lib.wpList_append_run _ rfl _ _ _ _ rfl _ _ rfl rfl _ _ (V5 _) ?_)
  |(at_builtin;refine Ns _ rfl _ _ 213 40 rfl _ _ rfl rfl (Od _ _) ?_))
 go_region_law_o (refine Nt rfl _ _ 213 213 rfl _ _ (by simp[Act.eval,Act.put]) (by simp[Act.eval,Act.put]) (Og _ _ _) ?_)
 go_wp2
 go_ret
 exact QE
end Go.Proofs.YtpaomccedbjknaaGreatDoor
