/- Staging: contracts of its functions (Av). No condition but those named. -/
import Derived.Test.YtioafciifiggaaaGreatDoorAu
import Derived.Test.YtioafciifiggaaaGreatDoorLg
import Derived.Test.YtioafciifiggaaaGreatDoorAt
set_option linter.unusedVariables false
set_option linter.unusedSimpArgs false
namespace Go.Proofs.YtioafciifiggaaaGreatDoor
open Go.Proofs Go.RowKit Go.AL
set_option maxRecDepth 100000
def InsOK(W:World)(b n i:Nat)(cur:Array Value)(xl:List Value)(e:Ending)(w':World):Prop:=
 ∃(B c':Nat) (C:Array Value),e= .returned (.slice (some ⟨B,0,none⟩) (n+1) c')∧n+1≤c'∧c'*7≤C.size∧C.toList.take ((n+1)*7)=cur.toList.take (i*7)++xl++(cur.toList.take (n*7)).drop (i*7)∧
  w'.os=W.os∧w'.tape=W.tape∧w'.output=W.output∧w'.heap[B]? =some (.cells C 64 (0,0))∧(B=b∨W.heap.size≤B)∧W.heap.size≤w'.heap.size∧(∀k,k<W.heap.size→k≠b→w'.heap[k]? =W.heap[k]?)∧∃cur',w'.heap[b]? =some (.cells cur' 64 (0,0))∧cur'.size=cur.size
theorem ins_w(b n c i vb vc:Nat)(cur x:Array Value)(xl:List Value)(tx:TypeId)(W:World)(hi:i<n)(hnc:n≤c)(hc:c*7≤cur.size)(hxl:xl.length=7)(hxc:∀(j:Nat) (v:Value),xl[j]? =some v→x[j]? =some v)(hvb:vb≠b)(hbig:n≤1000000)
  (hb:W.heap[b]? =some (.cells cur 64 (0,0))) (hv:W.heap[vb]? =some (.cells x tx (0,0))) (h1c:∀v∈cur.toList.take (n*7),v.oneCell'=true) (h1v:∀v∈xl,v.oneCell'=true):
  Calls Tryz.prog 200 #[.slice (some ⟨b,0,none⟩) n c,.int .i64 i,.slice (some ⟨vb,0,none⟩) 1 vc] W (InsOK W b n i cur xl):=by
 have hbw:b<W.heap.size:=(Array.getElem?_eq_some_iff.1 hb).1;by_cases hroom:n+1≤c
 ·refine(ins_room b n c i vb vc cur x xl tx W hi hroom hc hxl hxc hvb hbig hb hv h1c h1v).mono fun e w' ⟨h1,h2⟩=> ?_
  have hcl:cur.toList.length=cur.size:=by simp
  have e1:(cur.toList.take (i*7)).length=i*7:=by rw[List.length_take,hcl];omega
  have e2:((cur.toList.take (n*7)).drop (i*7)).length=(n-i)*7:=by
   rw[List.length_drop,List.length_take,hcl];omega
  have e3:(cur.toList.take (i*7)++xl++(cur.toList.take (n*7)).drop (i*7)).length=(n+1)*7:=by rw[List.length_append,List.length_append,e1,hxl,e2];omega
  have hbd:W.drew.heap[b]? =some (.cells cur 64 (0,0)):=hb
  have hs:((cur.toList.take (i*7)++xl++(cur.toList.take (n*7)).drop (i*7))++cur.toList.drop ((n+1)*7)).toArray.size=cur.size:=by
   rw[List.size_toArray,List.length_append,e3,List.length_drop,hcl];omega
  subst h2;refine⟨b,c,_,h1,hroom,by rw[hs];exact hc,?_,rfl,rfl,rfl,setRow_heap W.drew b cur _ _ _ hbd,.inl rfl,by rw[setRow_size];exact Nat.le_refl _,fun k hk hne=>setRow_other W.drew b k _ hne,_,setRow_heap W.drew b cur _ _ _ hbd,hs⟩
  simp only[List.toList_toArray];rw[List.take_append_of_le_length (by rw[e3];exact Nat.le_refl _),List.take_of_length_le (by rw[e3];exact Nat.le_refl _)]
 ·refine(ins_grow b n c i vb vc cur x xl 64 tx W hi hnc (by omega) (by omega) hxl hxc hbig hb hv h1c h1v).mono fun e w' ⟨c',C,h1,h2,h3,h4,h5,h6,h7,h8,h9,h10⟩=> ?_
  exact⟨W.heap.size,c',C,h1,h2,h3,h4,h5,h6,h7,h10,.inr (Nat.le_refl _),by omega,fun k hk _=>h8 k hk,cur,by rw[h8 b hbw];exact hb,rfl⟩
def insR(rows:List (List AV))(i:Nat)(row:List AV):List (List AV):=rows.take i++[row]++rows.drop i
theorem ins_act{H:Heap}{id id2 i:Nat}{rows:List (List AV)}{row:List AV}{w2 a2:Bool}(hne:id2≠id)(hg:H.get id=some (.cells 64 7 rows true true))(hg2:H.get id2=some (.cells 64 7 [row] w2 a2))(hi:i<rows.length)(hbig:rows.length≤1000000)
  (hone:rows.all (fun r=>r.length==7&&r.all AV.one)=true) (hone2:[row].all (fun r=>r.length==7&&r.all AV.one)=true):
  ACall Tryz.prog 200 [.own id 0 rows.length,zV i,.own id2 0 1] H fun r H'=>r= .own H.next 0 (rows.length+1)∧H'=⟨H.next+1,upd H.get [(id,none),(H.next,some (.cells 64 7 (insR rows i row) true true))]⟩:=by
 refine⟨by kernel_rfl,fun E W vs hH hr=> ?_⟩
 obtain⟨hUid,hbok⟩:=hH.core.ok id _ hg;obtain⟨hU2,hbok2⟩:=hH.core.ok id2 _ hg2;have hnid:¬E.U H.next:=fun h=>Nat.lt_irrefl _ (hH.next _ h)
 obtain⟨b1,b2,⟨cur,b3,b4,b5⟩,b6,b7⟩:=hbok;obtain⟨d1,d2,⟨x,d3,d4,d5⟩,-,-⟩:=hbok2;have hL0:=(b6 rfl).1;have hvb:E.ι id2≠E.ι id:=(b6 rfl).2 id2 _ hne hg2
 obtain⟨v0,v1,v2,rfl⟩:∃v0 v1 v2,vs=[v0,v1,v2]:=by
  have hl:=hr.1
  match vs,hl with
  |[a,b,c],_=>exact⟨a,b,c,rfl⟩
 have r0:=hr.2 0 _ v0 rfl rfl;have r1:=hr.2 1 _ v1 rfl rfl;have r2:=hr.2 2 _ v2 rfl rfl;have hv1:v1= .int .i64 i:=by cases r1;rfl
 subst hv1
 have hro:rowsOf H.get (.own id 0 rows.length)=some (rows,[id]):=by
  simp only[rowsOf,hg,Nat.zero_add,Nat.le_refl,if_true,List.drop_zero,List.take_length]
 have hro2:rowsOf H.get (.own id2 0 1)=some ([row],[id2]):=by
  simp[rowsOf,hg2]
 have hne0:rows≠[]:=fun h=>by rw[h]at hi;simp at hi
 obtain⟨q0,p0,cap0,hq0,news,n1,n2,n3,n4⟩:=rows_flat hH.core r0 hro hne0 (k:=7) hone;obtain⟨q2,p2,cap2,hq2,xl,m1,m2,m3,m4⟩:=rows_flat hH.core r2 hro2 (by simp) (k:=7) hone2
 rcases(own_inv r0).2 with⟨cap,hv0,hlc,cur',e,f,h4,h5⟩|⟨hl0,a,rfl⟩
 case inr=>omega
 rcases(own_inv r2).2 with⟨capx,hv2,hlc2,x',e2,f2,h6,h7⟩|⟨hl0,a,rfl⟩
 case inr=>omega
 rw[b3]at h4;injection h4 with h4
 injection h4 with h4 h4e h4f
 subst h4;rw[b1,Nat.zero_add]at h5;rw[hv0]at hq0;rw[hv2]at hq2;injection hq0 with hq0 _ hq0c
 injection hq0 with hq0
 injection hq0 with hq0b hq0p
 injection hq2 with hq2 _ hq2c
 injection hq2 with hq2
 injection hq2 with hq2b hq2p
 rw[Nat.zero_mul]at hq0p hq2p hv0 hv2;subst hq0b hq0p hq2b hq2p hv0 hv2;have hcl:cur.toList.length=cur.size:=by simp
 have hnews:cur.toList.take (rows.length*7)=news:=by
  refine List.ext_getElem? fun j=> ?_
  by_cases hj:j<rows.length*7
  ·have h8:j<news.length:=by rw[n1];exact hj
   have h9:=n2 j _ (List.getElem?_eq_getElem h8);rw[Nat.zero_add]at h9;rw[List.getElem?_take,if_pos hj,List.getElem?_eq_getElem h8,←h9];simp[World.cell?,b3]
  ·rw[List.getElem?_eq_none (by rw[List.length_take];omega),List.getElem?_eq_none (by omega)]
 have hxc:∀(j:Nat) (v:Value),xl[j]? =some v→x[j]? =some v:=fun j v hj=>by
  have h9:=m2 j v hj;rw[Nat.zero_add]at h9;simpa[World.cell?,d3]using h9
 have hxl:xl.length=7:=by rw[m1];rfl
 refine(ins_w (E.ι id) rows.length cap i (E.ι id2) capx cur x xl 64 W hi hlc h5 hxl hxc hvb hbig b3 d3 (fun v hv=>n3 v (by rw[hnews]at hv;exact hv)) m3).mono fun e' W' ⟨B,c',C,he,hc1,hc2,hC,ho,ht,hou,hB,hBn,hsz,hold,curN,hcurN,hcurS⟩=> ?_
 rw[hnews]at hC
 let E':Env:=⟨fun q=>if q=H.next then B else E.ι q,fun q=>if q=H.next then 7 else E.sz q,fun q=>E.U q∨q=H.next,E.L⟩
 have hι:∀q,E.U q→E'.ι q=E.ι q:=fun q hid=>by
  show(if q=H.next then _ else _)=_
  rw[if_neg];rintro rfl;exact hnid hid
 have hs:∀q,E.U q→E'.sz q=E.sz q:=fun q hid=>by
  show(if q=H.next then _ else _)=_
  rw[if_neg];rintro rfl;exact hnid hid
 have hιn:E'.ι H.next=B:=by show(if H.next=H.next then _ else _)=_;rw[if_pos rfl]
 have hsn:E'.sz H.next=7:=by show(if H.next=H.next then _ else _)=_;rw[if_pos rfl]
 have hbW:E.ι id<W.heap.size:=hH.core.inW id hUid
 have hLB:E.L B=0:=by
  rcases hBn with h|h
  ·rw[h];exact hL0
  ·exact hH.core.lim B h
 have hEvo:Evo E W E' W':=by
  refine⟨ho,ht,hou,hsz,fun q h=> .inl h,fun q hid=>⟨hι q hid,hs q hid⟩,fun _=>Nat.le_refl _,fun k j hj=> ?_,fun k hk hf=>hold k hk fun h=>hf id hUid h.symm,fun k cu el fr hk=> ?_,fun _ _ _=>rfl,fun q h1 h2=> ?_,fun k r hk=> ?_⟩
  ·have h8:k<W.heap.size:=by
    rcases Nat.lt_or_ge k W.heap.size with h|h
    ·exact h
    ·have:=hH.core.lim k h;omega
   have h9:k≠E.ι id:=fun h=>by rw[h,hL0]at hj;omega
   unfold World.cell?;simp only[hold k h8 h9]
  ·by_cases h9:k=E.ι id
   ·subst h9
    rw[b3]at hk;injection hk with hk
    injection hk with hk1 hk2 hk3
    subst hk1 hk2;exact⟨curN,_,hcurN,hcurS⟩
   ·exact⟨cu,fr,by rw[hold k (Array.getElem?_eq_some_iff.1 hk).1 h9];exact hk,rfl⟩
  ·rcases h2 with h2|h2
   ·exact absurd h2 h1
   ·subst h2
    rw[hιn];rcases hBn with h|h
    ·exact .inr ⟨id,hUid,h.symm⟩
    ·exact .inl h
  ·have h9:k≠E.ι id:=fun h=>by rw[h,b3]at hk;cases hk
   exact⟨r,by rw[hold k (Array.getElem?_eq_some_iff.1 hk).1 h9];exact hk,rfl⟩
 have hapart:∀q bk,q≠id→H.get q=some bk→E.ι q≠E.ι id:=fun q bk hq hqb=>(b6 rfl).2 q bk hq hqb
 have holdne:∀q bk,q≠id→H.get q=some bk→E'.ι q≠B:=fun q bk hq hqb heq=>by
  have hU:=(hH.core.ok q bk hqb).1;rw[hι q hU]at heq;rcases hBn with h|h
  ·rw[h]at heq
   exact hapart q bk hq hqb heq
  ·have:=hH.core.inW q hU
   omega
 have hget:∀q bk,q≠H.next→upd H.get [(id,none),(H.next,some (.cells 64 7 (insR rows i row) true true))] q=some bk→q≠id∧H.get q=some bk:=fun q bk hq hqb=>by
  simp only[upd,if_neg hq]at hqb;by_cases hqi:q=id
  ·rw[if_pos hqi]at hqb;cases hqb
  ·rw[if_neg hqi]at hqb;exact⟨hqi,hqb⟩
 have hlen:(insR rows i row).length=rows.length+1:=by
  unfold insR;simp;omega
 have hn7:cur.toList.take (i*7)=news.take (i*7):=by
  rw[←hnews,List.take_take];congr 1;omega
 rw[hn7]at hC
 have hCj:∀q,q<(rows.length+1)*7→C[q]? =(news.take (i*7)++xl++news.drop (i*7))[q]? :=fun q hq=>by
  rw[←hC,List.getElem?_take,if_pos hq];simp
 have e1:(news.take (i*7)).length=i*7:=by rw[List.length_take,n1];omega
 have hrow:∀(j:Nat) r,(insR rows i row)[j]? =some r→r.length=7∧∀(z:Nat) a,r[z]? =some a→∃u,C[j*7+z]? =some u∧RV E W a u:=fun j r hj=>by
  have hjl:j<rows.length+1:=by rw[←hlen];exact(List.getElem?_eq_some_iff.1 hj).1
  have f1:(rows.take i).length=i:=by rw[List.length_take];omega
  unfold insR at hj;rcases Nat.lt_trichotomy j i with h|h|h
  ·rw[List.append_assoc,List.getElem?_append_left (by omega),List.getElem?_take,if_pos h]at hj
   refine⟨b2 j r hj,fun z a hz=> ?_⟩
   have hz7:z<7:=by rw[←b2 j r hj];exact(List.getElem?_eq_some_iff.1 hz).1
   obtain⟨u,h1,h2⟩:=n4 j z r a hj hz;refine⟨u,?_,h2⟩;rw[hCj _ (by omega),List.append_assoc,List.getElem?_append_left (by omega),List.getElem?_take,if_pos (by omega)]
   exact h1
  ·subst h
   rw[List.append_assoc,List.getElem?_append_right (by omega),f1,Nat.sub_self]at hj
   simp only[List.singleton_append,List.getElem?_cons_zero,Option.some.injEq]at hj;subst hj;have hr7:row.length=7:=by simp at hone2;exact hone2.1
   refine⟨hr7,fun z a hz=> ?_⟩
   have hz7:z<7:=by rw[←hr7];exact(List.getElem?_eq_some_iff.1 hz).1
   obtain⟨u,h1,h2⟩:=m4 0 z row a rfl hz;refine⟨u,?_,h2⟩;rw[hCj _ (by omega),List.append_assoc,List.getElem?_append_right (by omega),e1,List.getElem?_append_left (by omega)]
   rw[show j*7+z-j*7=0*7+z by omega]
   exact h1
  ·rw[List.getElem?_append_right (by rw[List.length_append,f1];simp;omega),List.length_append,f1,List.getElem?_drop]at hj
   simp only[List.length_cons,List.length_nil]at hj;rw[show i+(j-(i+(0+1)))=j-1 by omega]at hj
   refine⟨b2 _ r hj,fun z a hz=> ?_⟩
   have hz7:z<7:=by rw[←b2 _ r hj];exact(List.getElem?_eq_some_iff.1 hz).1
   obtain⟨u,h1,h2⟩:=n4 (j-1) z r a hj hz;refine⟨u,?_,h2⟩;rw[hCj _ (by omega),List.getElem?_append_right (by rw[List.length_append,e1,hxl];omega),List.length_append,e1,hxl,List.getElem?_drop]
   rw[show i*7+(j*7+z-(i*7+7))=(j-1)*7+z by omega]
   exact h1
 refine⟨_,he,E',_,⟨H.next+1,_⟩,hEvo,⟨fun q hq=> ?_,⟨fun k hk=>hH.core.lim k (by omega),fun q hq=> ?_,fun q bk hqb=> ?_⟩⟩,?_,rfl,rfl⟩
 ·rcases hq with hq|hq
  ·exact Nat.lt_succ_of_lt (hH.next q hq)
  ·subst hq;exact Nat.lt_succ_self _
 ·rcases hq with hq|hq
  ·rw[hι q hq];exact Nat.lt_of_lt_of_le (hH.core.inW q hq) hsz
  ·subst hq;rw[hιn];exact(Array.getElem?_eq_some_iff.1 hB).1
 ·by_cases hid:q=H.next
  ·subst hid
   simp only[upd]at hqb;rw[if_pos trivial]at hqb;injection hqb with hqb
   subst hqb;refine⟨.inr rfl,hsn,fun j r hj=>(hrow j r hj).1,⟨C,by rw[hιn];exact hB,by rw[hlen];exact Nat.le_trans (Nat.mul_le_mul_right 7 hc1) hc2,fun j z r a h1 h2=> ?_⟩,fun _=>⟨by rw[hιn];exact hLB,fun id' b' hne' hg' heq=> ?_⟩,fun _=>⟨by rw[hιn];show E.L _≤_;rw[hLB];exact Nat.zero_le _,fun id' b' hne' hg' heq=> ?_⟩⟩
   ·obtain⟨u,h3,h4⟩:=(hrow j r h1).2 z a h2
    exact⟨u,h3,h4.mono hEvo⟩
   ·rw[hιn]at heq
    obtain⟨h1,h2⟩:=hget id' b' hne' hg';exact holdne id' b' h1 h2 heq
   ·rw[hιn]at heq
    obtain⟨h1,h2⟩:=hget id' b' hne' hg';exact absurd heq (holdne id' b' h1 h2)
  ·obtain⟨hqi,hb⟩:=hget q bk hid hqb
   obtain⟨hU,hok⟩:=hH.core.ok q bk hb;have hap:=hapart q bk hqi hb;refine⟨.inl hU,hok.mono hEvo hU (hold _ (hH.core.inW q hU) hap) rfl fun id' b' hne' hg' heq=> ?_⟩
   by_cases hid':id'=H.next
   ·subst hid'
    rw[hιn]at heq;rcases hBn with h|h
    ·rw[h]at heq;exact absurd heq.symm hap
    ·have:=hH.core.inW q hU
     omega
   ·obtain⟨h1,h2⟩:=hget id' b' hid' hg'
    exact⟨b',h2,by rw[←heq,hι id' (hH.core.ok id' b' h2).1],rfl,fun h=>h⟩
 ·have h6:=RV.own (E:=E') (W:=W') H.next 0 (rows.length+1) c' (.inr rfl) hc1 (by rw[hιn,hsn];exact⟨C,_,_,hB,by rw[Nat.zero_add];exact hc2⟩)
  rw[hιn,hsn,Nat.zero_mul]at h6;exact h6
end Go.Proofs.YtioafciifiggaaaGreatDoor
namespace Go.Proofs.YtioafciifiggaaaGreatDoor
open Go.Proofs Go.AL
set_option maxRecDepth 100000
set_option maxHeartbeats 1000000
attribute [local irreducible] endA AW aops thenA blockA hold deriving instance DecidableEq for Asm
def litB(n:Int):Nat→List Int
 |0=> []
 |k+1=>(n % 256)::litB (n/256) k
theorem litB_len:∀(k:Nat) (n:Int),(litB n k).length=k
 |0,_=>rfl
 |k+1,n=>by rw[litB,List.length_cons,litB_len k]
theorem litB_ok:∀(k:Nat) (n:Int),∀x∈litB n k,ByteOK x
 |0,_,x,h=>by simp[litB]at h
 |k+1,n,x,h=>by
  rw[litB]at h;rcases List.mem_cons.1 h with rfl|h
  ·unfold ByteOK;omega
  ·exact litB_ok k _ x h
def strW(k:Int)(p:List Int):List Int:=k::litB p.length 2++p
def strG(k:Int)(p:List Int):List Int:=strW k p++litB (crc (strW k p)) 4
def secN(s:Int)(l:List Int):Sec:=((s % 256,s/256 % 256,s/256/256 % 256,s/256/256/256 % 256),(l.getD 0 0,l.getD 1 0,l.getD 2 0,l.getD 3 0))
def recE(k s:Int)(p:List Int):List Sec×Int:=
 if k<1∨255<k∨s<1∨4294967295<s then([],2)
 else if 4096<p.length then([],5)
 else((List.range (nParts (strG k p).length 4)).map fun i=>secN s (pieceN (strG k p) 4 i),0)
def ringW(start n p:Int)(l:List Sec):List Wrt:=
 if n-p<l.length then [(0,start+16+p,l.take (n-p).toNat),(0,start+16,l.drop (n-p).toNat)]else [(0,start+16+p,l)]
def appE(j:Jr)(k:Int)(p:List Int):Jr×List Wrt×Int:=
 if jE j=0 then
  if(recE k (jN j) p).2=0 then
   if 1073741824≤jN j then(zJr,[],6)
   else if j.count-16-j.sizes.sum<(recE k (jN j) p).1.length then(zJr,[],11)
   else(⟨j.start,j.count,j.head,(j.tail+(recE k (jN j) p).1.length) % (j.count-16),j.first,j.sizes++[((recE k (jN j) p).1.length:Int)]⟩,ringW j.start (j.count-16) j.tail (recE k (jN j) p).1++[(1,0,[])],0)
  else(zJr,[],(recE k (jN j) p).2)
 else(zJr,[],3)
def putSt(l:List Stg)(x:Stg):List Stg:=
 if fndB l x.number=true then l.set (fndI l x.number) x else l.take (fndI l x.number)++x::l.drop (fndI l x.number)
def stgOf(a:Asm)(r:List Int)(c:Bool):Stg:=⟨a.number,a.parts,a.sum,a.have_,a.seen,r,c⟩
def addedE(s:Stag)(k:Int)(p:List Int)(x:Stg):Stag×List Wrt×Int:=
 if(appE s.j k p).2.2=0 then(⟨(appE s.j k p).1,putSt s.cycles x⟩,(appE s.j k p).2.1,0)else(zStag,[],(appE s.j k p).2.2)
def addS(s:Stag)(p:List Int):Stag×List Wrt×Int:=
 if stgE s=0 then
  if(parE p).2=0 then
   if fndB s.cycles (parE p).1.number=true then
    if(addE (asm (s.cycles.getD (fndI s.cycles (parE p).1.number) zStg)) p).2=0 then
     if(addE (asm (s.cycles.getD (fndI s.cycles (parE p).1.number) zStg)) p).1=asm (s.cycles.getD (fndI s.cycles (parE p).1.number) zStg)then(s,[],0)
     else addedE s 1 p (stgOf (addE (asm (s.cycles.getD (fndI s.cycles (parE p).1.number) zStg)) p).1 ((s.cycles.getD (fndI s.cycles (parE p).1.number) zStg).records++[jN s.j]) (s.cycles.getD (fndI s.cycles (parE p).1.number) zStg).closed)
    else(zStag,[],(addE (asm (s.cycles.getD (fndI s.cycles (parE p).1.number) zStg)) p).2)
   else if 1024≤s.cycles.length then(zStag,[],6)
   else addedE s 1 p (stgOf (begE p).1 [jN s.j] false)
  else(zStag,[],(parE p).2)
 else(zStag,[],stgE s)
def sealS(s:Stag)(n:Int):Stag×List Wrt×Int:=
 if stgE s=0 then
  if fndB s.cycles n=true then
   if(s.cycles.getD (fndI s.cycles n) zStg).closed=true then(s,[],0)
   else if(acyE (asm (s.cycles.getD (fndI s.cycles n) zStg))).2=0 then
    addedE s 2 (vint n) (stgOf (asm (s.cycles.getD (fndI s.cycles n) zStg)) ((s.cycles.getD (fndI s.cycles n) zStg).records++[jN s.j]) true)
   else(zStag,[],(acyE (asm (s.cycles.getD (fndI s.cycles n) zStg))).2)
  else(zStag,[],7)
 else(zStag,[],stgE s)
def jfmE(a c:Int):Jr×List Wrt×Int:=
 if validB a c=true then
  if(sbFmt a (vint 0++vint 1)).2=0 then(⟨a,c,0,0,1,[]⟩,[(0,a+16,zeros (c-16)),(1,0,[])]++(sbFmt a (vint 0++vint 1)).1,0)
  else(zJr,[],(sbFmt a (vint 0++vint 1)).2)
 else(zJr,[],2)
def sfmE(a c:Int):Stag×List Wrt×Int:=
 if(jfmE a c).2.2=0 then(⟨(jfmE a c).1,[]⟩,(jfmE a c).2.1,0)else(zStag,[],(jfmE a c).2.2)
end Go.Proofs.YtioafciifiggaaaGreatDoor
