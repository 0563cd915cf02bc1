/- Staging: contracts of its functions (Ag). No condition but those named. -/
import Derived.Test.YtioafciifiggaaaGreatDoorAf
import Derived.Test.YtioafciifiggaaaGreatDoorLe
set_option linter.unusedVariables false
set_option linter.unusedSimpArgs false
namespace Go.Proofs.YtioafciifiggaaaGreatDoor
open Go.Proofs Go.AL
set_option maxRecDepth 100000
set_option maxHeartbeats 1000000
attribute [local irreducible] endA AW aops thenA blockA hold
theorem op_noIds(l:List (Int×Int×List Sec)):∀row∈encL opRow l,∀x∈row,NoId x:=fun row hr x hx=>by
 simp only[encL,List.mem_map]at hr;obtain⟨o,_,rfl⟩:=hr;exact op_noId o x hx
theorem okO_pair(n:Nat)(e:Int):OkO (.tup [.own 0 0 n,zV e]):= .inr ⟨_,rfl,fun x hx=>by
 simp only[List.mem_cons,List.not_mem_nil,or_false]at hx;rcases hx with rfl|rfl
 ·exact .inl ⟨0,n,rfl⟩
 ·exact .inr (.c _)⟩
theorem store_t(d:Dsk)(a:Int)(p:List Int)(A B:List Sec)(x y:List Int)(gx gy N:Int)(hp:p.length≤31)(hA:A.length=8)(hB:B.length=8)(h3:0≤a)(h4:a≤1000000)(hN:N=0∨N=1)(hk:∀s∈A++B,SecOK s)(hTn:topS (A++B)≠4294967295)(hc:PC 161 [.agg (encD d),zV a] (.tup [.agg [zV gx,.snap (encL byteRow x),.snap (encL encSec A),zV gy,.snap (encL byteRow y),.snap (encL encSec B)],zV N,zV 0])):
  TOCall Tryz.prog 88 [.agg (encD d),zV a,.snap (encL byteRow p)] (.tup [.own 0 0 2,zV 0]) 100 3 (encL opRow [(0,a+8-8*N,putS (topS (A++B)+1) p),(1,0,[])]):=by
 refine tstart2 Tryz.func88 Tryz.ntmps88 (by simp only[go_sem,encD]) (okO_pair 2 0) (op_noIds _) ?_
 have hT:=topS_in _ hk;have g2:¬(31:Int)<p.length:=by omega
 have hgA:=gS A;have hgB:=gS B;have e0:A.take 0=[]:=rfl;have e2:topS ([]:List Sec)=0:=rfl;unfold encD at hc⊢;refine zgo ?_;refine w_rounds 3 ?_;refine w_round ?_;refine zgo ?_;refine zfor1 8 40 [] (fun k=> [(37,true,zV k),(36,true,zV 8),(35,true,.snap (encL encSec A)),(31,true,zV 0),(30,true,.agg [zV gx,.snap (encL byteRow x),.snap (encL encSec A),zV gy,.snap (encL byteRow y),.snap (encL encSec B)]),(11,true,zV (topS (A.take k))),(9,true,zV N),(1,true,zV a),(2,true,.snap (encL byteRow p))]) zholds (fun k m hkk hm=> ?_) (fun m hm=> ?_)
 ·have hs:=(hk (A.getD k zSec) (List.mem_append_left _ (getD_mem' zSec (by omega)))).1
  have c2:=generation_p (A.getD k zSec) hs;have h7:=topS_succ (l:=A) (k:=k) (by omega)
  have h8:(if genS (A.getD k zSec)>topS (A.take k)then genS (A.getD k zSec)else topS (A.take k))=topS (A.take (k+1)):=by
   rw[←h7];split<;>omega
  clear hk hs h7;refine zgo ?_;refine⟨m+9,by omega,?_⟩
  exact zholds
 ·have e8:A.take 8=A:=List.take_of_length_le (by omega)
  have e9:topS (A++B.take 0)=topS A:=by rw[List.take_zero,List.append_nil]
  rw[e8];refine zgo ?_;refine zfor1 8 (m+40) [] (fun k=> [(37,true,zV k),(36,true,zV 8),(35,true,.snap (encL encSec B)),(31,true,zV 1),(30,true,.agg [zV gx,.snap (encL byteRow x),.snap (encL encSec A),zV gy,.snap (encL byteRow y),.snap (encL encSec B)]),(11,true,zV (topS (A++B.take k))),(9,true,zV N),(1,true,zV a),(2,true,.snap (encL byteRow p))]) zholds (fun k m hkk hm=> ?_) (fun m hm=> ?_)
  ·have hs:=(hk (B.getD k zSec) (List.mem_append_right _ (getD_mem' zSec (by omega)))).1
   have c2:=generation_p (B.getD k zSec) hs;have h7:=topS_app (A:=A) (B:=B) (k:=k) (by omega)
   have h8:(if genS (B.getD k zSec)>topS (A++B.take k)then genS (B.getD k zSec)else topS (A++B.take k))=topS (A++B.take (k+1)):=by
    rw[←h7];split<;>omega
   clear hk hs h7 e9 e8;refine zgo ?_;refine⟨m+9,by omega,?_⟩
   exact zholds
  ·have e10:B.take 8=B:=List.take_of_length_le (by omega)
   rw[e10];clear hk e9 e8 e10 hgA hgB;generalize topS (A++B)=T at*;have c3:=put_p (T+1) p hp;have w1:IntKind.i64.wrap (T+1)=T+1:=IntWalk.i64_in _ (by omega)
   have w2:IntKind.i64.wrap (1-N)=1-N:=IntWalk.i64_in _ (by omega)
   have w3:IntKind.i64.wrap ((1-N)*8)=(1-N)*8:=IntWalk.i64_in _ (by omega)
   have w4:IntKind.i64.wrap (a+(1-N)*8)=a+8-8*N:=by rw[IntWalk.i64_in _ (by omega)];omega
   refine zgo ?_;refine⟨m,rfl,[[zV 0,zV (a+8-8*N),.snap (encL encSec (putS (T+1) p))],[zV 1,zV 0,.c (.slice none 0 0)]],?_,wkr_cons (wks_refl _) (wkr_cons (wks_cons (.refl _) (wks_cons (.refl _) (wks_cons .nil wks_nil))) wkr_nil)⟩;exact zeq
theorem storeE_len{d:Dsk}{a:Int}{p:List Int}(h:(storeE d a p).2=0):(storeE d a p).1.length=2:=by
 unfold storeE at h⊢;split
 ·rename_i h1
  rw[if_pos h1]at h;split
  ·rename_i h2
   rw[if_pos h2]at h;exact absurd h (by decide)
  ·rename_i h2
   rw[if_neg h2]at h;split
   ·rename_i h3
    rw[if_pos h3]at h;exact absurd h (by decide)
   ·rfl
 ·rename_i h1
  rw[if_neg h1]at h;exact absurd h h1
theorem newE_01(A B:List Int×Int):(newE A B).1=0∨(newE A B).1=1:=by
 unfold newE;split
 ·split
  ·exact .inl rfl
  ·exact .inr rfl
 ·split
  ·exact .inl rfl
  ·exact .inl rfl
theorem sstore_t(d:Dsk)(a:Int)(p:List Int)(hs:d.st.length≤1000000)(h2:d.ca.length≤1000000)(hk:∀s∈newL d.st d.ca,SecOK s)(h:(storeE d a p).2=0):
  TOCall Tryz.prog 88 [.agg (encD d),zV a,.snap (encL byteRow p)] (.tup [.own 0 0 2,zV 0]) 100 3 (encL opRow (storeE d a p).1):=by
 by_cases g0:(findE d a).2.2.2.2=0
 ·have g:(readE d a 16).2=0:=by
   by_cases g:(readE d a 16).2=0
   ·exact g
   ·rw[findE_err hs g]at g0;exact absurd g0 g
  obtain⟨h0,h3,h4⟩:=readE_ok g;have hk2:∀s∈sbL d a,SecOK s:=fun s hs=>hk s (List.mem_of_mem_drop (List.mem_of_mem_take hs))
  have gA:=parseS_gen (l:=(sbL d a).take 8) fun s hs=>hk2 s (List.mem_of_mem_take hs)
  have gB:=parseS_gen (l:=(sbL d a).drop 8) fun s hs=>hk2 s (List.mem_of_mem_drop hs)
  have hf:=find_new h0 h3 h4 gA.1 gB.1;have c:=find_ok d a hs h2 hk h0 h3 h4;have e0:=newL_len d.ca d.st;have e1:(sbL d a).length=16:=by unfold sbL;rw[List.length_take,List.length_drop];omega
  have e2:(sbL d a).take 8++(sbL d a).drop 8=sbL d a:=List.take_append_drop 8 _;unfold storeE at h⊢;rw[if_pos g0]at h⊢;by_cases g1:31<p.length
  ·rw[if_pos g1]at h;exact absurd h (by decide)
  rw[if_neg g1]at h⊢;by_cases g2:topS (sbL d a)=4294967295
  ·rw[if_pos g2]at h;exact absurd h (by decide)
  rw[if_neg g2]
  have hn:(newE (parseS ((sbL d a).take 8)) (parseS ((sbL d a).drop 8))).2=0∧(findE d a).2.1=(newE (parseS ((sbL d a).take 8)) (parseS ((sbL d a).drop 8))).1∧((newE (parseS ((sbL d a).take 8)) (parseS ((sbL d a).drop 8))).1=0∨(newE (parseS ((sbL d a).take 8)) (parseS ((sbL d a).drop 8))).1=1):=by
   by_cases g3:(newE (parseS ((sbL d a).take 8)) (parseS ((sbL d a).drop 8))).2=0
   ·rw[if_pos g3]at hf
    by_cases g4:(newE (parseS ((sbL d a).take 8)) (parseS ((sbL d a).drop 8))).1=1
    ·rw[if_pos g4]at hf
     exact⟨g3,by rw[hf,g4],.inr g4⟩
    ·rw[if_neg g4]at hf
     have g5:(newE (parseS ((sbL d a).take 8)) (parseS ((sbL d a).drop 8))).1=0:=by
      have:=newE_01 (parseS ((sbL d a).take 8)) (parseS ((sbL d a).drop 8));rcases this with h|h
      ·exact h
      ·exact absurd h g4
     exact⟨g3,by rw[hf,g5],.inl g5⟩
   ·rw[if_neg g3]at hf
    rw[hf]at g0;exact absurd g0 (by decide)
  obtain⟨n1,n2,n3⟩:=hn;rw[n2];rw[n1]at c;have t:=store_t d a p ((sbL d a).take 8) ((sbL d a).drop 8) _ _ _ _ _ (by omega) (by rw[List.length_take];omega) (by rw[List.length_drop];omega) h3 (by omega) n3 (by rw[e2];exact hk2) (by rw[e2];exact g2) c
  rw[e2]at t;exact t
 ·unfold storeE at h
  rw[if_neg g0]at h;exact absurd h g0
end Go.Proofs.YtioafciifiggaaaGreatDoor
namespace Go.Proofs.YtioafciifiggaaaGreatDoor
open Go.Proofs Go.AL
set_option maxRecDepth 100000
set_option maxHeartbeats 1000000
attribute [local irreducible] endA AW aops thenA blockA hold
theorem sfind_err(d:Dsk)(a e:Int)(p:List Int)(A B:List Int×Int)(l m:List Sec)(n:Int)(he:e≠0)(hc:PC 161 [.agg (encD d),zV a] (.tup [.agg (bothV A B l m),zV n,zV e])):PC 88 [.agg (encD d),zV a,.snap (encL byteRow p)] (.tup [.snap (encL opRow []),zV e]):=by
 refine pstart Tryz.func88 Tryz.ntmps88 (by simp only[go_sem]) ?_
 unfold encD bothV at*;refine zgo ?_;exact zfin
theorem newE_09(A B:List Int×Int):(newE A B).2=0∨(newE A B).2=9:=by
 unfold newE;split
 ·split
  ·exact .inr rfl
  ·exact .inl rfl
 ·split
  ·exact .inr rfl
  ·exact .inl rfl
theorem sstore_f(d:Dsk)(a:Int)(p:List Int)(hp:p.length≤31)(hs:d.st.length≤1000000)(h2:d.ca.length≤1000000)(hk:∀s∈newL d.st d.ca,SecOK s)(h:(storeE d a p).2≠0):
  PC 88 [.agg (encD d),zV a,.snap (encL byteRow p)] (.tup [.snap (encL opRow []),zV (storeE d a p).2]):=by
 by_cases g:(readE d a 16).2=0
 ·obtain⟨h0,h3,h4⟩:=readE_ok g
  have hk2:∀s∈sbL d a,SecOK s:=fun s hs=>hk s (List.mem_of_mem_drop (List.mem_of_mem_take hs))
  have gA:=parseS_gen (l:=(sbL d a).take 8) fun s hs=>hk2 s (List.mem_of_mem_take hs)
  have gB:=parseS_gen (l:=(sbL d a).drop 8) fun s hs=>hk2 s (List.mem_of_mem_drop hs)
  have hf:=find_new h0 h3 h4 gA.1 gB.1;have c:=find_ok d a hs h2 hk h0 h3 h4;have e0:=newL_len d.ca d.st;have e1:(sbL d a).length=16:=by unfold sbL;rw[List.length_take,List.length_drop];omega
  have e2:(sbL d a).take 8++(sbL d a).drop 8=sbL d a:=List.take_append_drop 8 _;by_cases g3:(newE (parseS ((sbL d a).take 8)) (parseS ((sbL d a).drop 8))).2=0
  ·have g0:(findE d a).2.2.2.2=0:=by
    rw[hf,if_pos g3];split<;>rfl
   have g2:topS (sbL d a)=4294967295:=by
    by_cases g2:topS (sbL d a)=4294967295
    ·exact g2
    ·unfold storeE at h
     rw[if_pos g0,if_neg (by omega),if_neg g2]at h
     exact absurd rfl h
   have g4:(storeE d a p).2=11:=by
    unfold storeE;rw[if_pos g0,if_neg (by omega),if_pos g2]
   rw[g3]at c;have t:=store_ok d a p ((sbL d a).take 8) ((sbL d a).drop 8) _ _ _ _ _ hp (by rw[List.length_take];omega) (by rw[List.length_drop];omega) h3 (by omega) (newE_01 _ _) (by rw[e2];exact hk2) c
   rw[e2,if_pos g2]at t;rw[g4];exact t
  ·have g9:(newE (parseS ((sbL d a).take 8)) (parseS ((sbL d a).drop 8))).2=9:=by
    have:=newE_09 (parseS ((sbL d a).take 8)) (parseS ((sbL d a).drop 8));rcases this with h|h
    ·exact absurd h g3
    ·exact h
   have g4:(storeE d a p).2=9:=by
    unfold storeE;rw[hf,if_neg g3];rfl
   rw[g9]at c;rw[g4];exact sfind_err d a 9 p _ _ _ _ _ (by decide) c
 ·have g4:(storeE d a p).2=(readE d a 16).2:=by
   unfold storeE;rw[findE_err hs g,if_neg g]
  rw[g4];exact sfind_err d a _ p _ _ _ _ _ g (find_err d a hs h2 g)
@[go_sem] theorem by_fresh(G:Nat→Option Blk)(k:Nat)(l:List Int):((encL byteRow l).all fun row=>row.all (fresh G k))=true:=by
  rw[List.all_eq_true];intro row hr;simp only[encL,List.mem_map]at hr;obtain⟨x,_,rfl⟩:=hr;cases k<;>rfl
end Go.Proofs.YtioafciifiggaaaGreatDoor
namespace Go.Proofs.YtioafciifiggaaaGreatDoor
open Go.Proofs Go.AL
set_option maxRecDepth 100000
set_option maxHeartbeats 1000000
attribute [local irreducible] endA AW aops thenA blockA hold
theorem storeE_nil{d:Dsk}{a:Int}{p:List Int}(h:(storeE d a p).2≠0):(storeE d a p).1=[]:=by
 unfold storeE at h⊢;split
 ·rename_i h1
  rw[if_pos h1]at h;split
  ·rfl
  ·rename_i h2
   rw[if_neg h2]at h;split
   ·rfl
   ·rename_i h3
    rw[if_neg h3]at h;exact absurd rfl h
 ·rfl
theorem sstore_p(d:Dsk)(a:Int)(p:List Int)(hp:p.length≤31)(hs:d.st.length≤1000000)(h2:d.ca.length≤1000000)(hk:∀s∈newL d.st d.ca,SecOK s):
  PC 88 [.agg (encD d),zV a,.snap (encL byteRow p)] (.tup [.snap (encL opRow (storeE d a p).1),zV (storeE d a p).2]):=by
 by_cases h:(storeE d a p).2=0
 ·have t:=sstore_t d a p hs h2 hk h
  have hl:=storeE_len h;rw[h];refine t.toP (by simp only[go_sem]) ?_
  generalize (storeE d a p).1=F at*;have e:List.take 2 F=F:=List.take_of_length_le (by omega)
  simp only[go_sem,renO,renO1,upd,hl,e];exact .refl _
 ·rw[storeE_nil h]
  exact sstore_f d a p hp hs h2 hk h
end Go.Proofs.YtioafciifiggaaaGreatDoor
namespace Go.Proofs.YtioafciifiggaaaGreatDoor
open Go.Proofs Go.AL
set_option maxRecDepth 100000
set_option maxHeartbeats 1000000
attribute [local irreducible] endA AW aops thenA blockA hold
def inB(n lo hi:Int):Bool:=decide (lo≤n)&&decide (n≤hi)
theorem in_p(n lo hi:Int):PC 187 [zV n,zV lo,zV hi] (bV (inB n lo hi)):=by
 refine pstart Tryz.func187 Tryz.ntmps187 (.c _) ?_;unfold inB;by_cases g1:lo≤n
 ·refine zgo ?_
  exact zfin
 ·refine zgo ?_
  exact zfin
def badPos(n:Int):Bool:= !(inB n 0 1073741824)
theorem pos1_p(n:Int):PC 232 [zV n] (bV (badPos n)):=by
 refine pstart Tryz.func232 Tryz.ntmps232 (.c _) ?_;have c1:=in_p n 0 1073741824;unfold badPos;refine zgo ?_;exact zfin
theorem posIdx_p(l:List Int)(hl:l.length≤1000000):PC 274 [.snap (encL intRow l),.fn (.func 232) [] []] (zV (idxZ (l.findIdx? badPos))):=by
 refine pstart Tryz.func274 Tryz.ntmps274 (.c _) ?_;unfold idxZ;refine zgo ?_;have hg:=gI l;have c1:=pos1_p;refine zfor (α:=Unit) l.length (fun k _=> [(8,true,zV k),(7,true,zV l.length),(0,true,.snap (encL intRow l)),(1,true,.fn (.func 232) [] [])]) (fun _ _=> []) (fun k m _=>∀i,i<k→badPos (l.getD i 0)=false) ⟨0,(),fun i hi=>by omega,zholds⟩ (fun k m _ hk hR=> ?_) (fun m _ hR=> ?_)
 ·refine zgo ?_
  refine zsplit (fun h=> ?_) (fun h=> ?_)
  ·have hf:l.findIdx? badPos=some k:=by
    rw[List.findIdx?_eq_some_iff_getElem];exact⟨hk,by simpa[hk]using h,fun j hj=>by have:=hR j hj;simp[show j<l.length by omega]at this;simpa using this⟩
   refine zgo ?_;exact zfin
  ·refine zgo ?_
   refine⟨m,(),fun i hi=> ?_,zholds⟩
   by_cases hik:i=k
   ·subst hik;exact h
   ·exact hR i (by omega)
 ·have hf:l.findIdx? badPos=none:=by
   rw[List.findIdx?_eq_none_iff];intro x hx;obtain⟨i,hi⟩:=List.mem_iff_getElem?.1 hx;obtain⟨h1,h2⟩:=List.getElem?_eq_some_iff.1 hi;have:=hR i h1;simp[h1,h2]at this;exact this
  refine zgo ?_;exact zfin
theorem idxZ_any{α:Type}(q:α→Bool)(l:List α):decide (0≤idxZ (l.findIdx? q))=l.any q:=by
 cases h:l.findIdx? q with
 |none=>
  rw[List.findIdx?_eq_none_iff]at h;simp only[idxZ];symm;simpa using h
 |some i=>
  rw[List.findIdx?_eq_some_iff_getElem]at h;obtain⟨h1,h2,_⟩:=h;simp only[idxZ];have:l.any q=true:=List.any_eq_true.2 ⟨_,List.getElem_mem h1,h2⟩;rw[this];simp
theorem posAny_p(l:List Int)(hl:l.length≤1000000):PC 231 [.snap (encL intRow l),.fn (.func 232) [] []] (bV (l.any badPos)):=by
 refine pstart Tryz.func231 Tryz.ntmps231 (.c _) ?_;have c1:=posIdx_p l hl;have h1:=idxZ_any badPos l;refine zgo ?_;exact zfin
def posE(l:List Int):Int:=if 8<l.length then 6 else if l.any badPos=true then 2 else 0
theorem positions_p(l:List Int)(hl:l.length≤1000000):PC 188 [.snap (encL intRow l),zV 0] (zV (posE l)):=by
 refine pstart Tryz.func188 Tryz.ntmps188 (.c _) ?_;have c1:=in_p (l.length:Int) 0 8;have c2:=posAny_p l hl;unfold posE;unfold inB at c1;by_cases g1:8<l.length
 ·rw[if_pos g1]
  rw[dec_leT (by omega),dec_leF (by omega)]at c1
  refine zgo ?_;exact zfin
 ·rw[if_neg g1]
  rw[dec_leT (by omega),dec_leT (by omega)]at c1
  cases h:l.any badPos with
  |true=>
   rw[h]at c2;refine zgo ?_;exact zfin
  |false=>
   rw[h]at c2;refine zgo ?_;exact zfin
theorem rpos_p(l:List Int)(hl:l.length≤1000000):PC 260 [.snap (encL intRow l)] (zV (if l.any badPos=true then 2 else 0)):=by
 refine pstart Tryz.func260 Tryz.ntmps260 (.c _) ?_;have hg:=gI l;refine zgo ?_;refine zfor (α:=Unit) l.length (fun k _=> [(3,true,zV k),(0,true,.snap (encL intRow l))]) (fun _ _=> []) (fun k m _=>∀i,i<k→badPos (l.getD i 0)=false) ⟨0,(),fun i hi=>by omega,zholds⟩ (fun k m _ hk hR=> ?_) (fun m _ hR=> ?_)
 ·have h4:=getD_mem' 0 hk
  by_cases g1:l.getD k 0<0
  ·have h3:l.any badPos=true:=List.any_eq_true.2 ⟨_,h4,by unfold badPos inB;rw[dec_leF (by omega)];rfl⟩
   rw[if_pos h3];clear hR;refine zgo ?_;exact zfin
  ·by_cases g2:1073741824<l.getD k 0
   ·have h3:l.any badPos=true:=List.any_eq_true.2 ⟨_,h4,by unfold badPos inB;rw[dec_leF (a:=l.getD k 0) (by omega)];simp⟩
    rw[if_pos h3];clear hR;refine zgo ?_;exact zfin
   ·have hR2:∀i,i<k+1→badPos (l.getD i 0)=false:=fun i hi=>by
     by_cases hik:i=k
     ·subst hik;unfold badPos inB;rw[dec_leT (by omega),dec_leT (by omega)];rfl
     ·exact hR i (by omega)
    clear hR;refine zgo ?_;exact⟨m,(),hR2,zholds⟩
 ·have h3:l.any badPos=false:=by
   rw[List.any_eq_false];intro x hx;obtain⟨i,hi⟩:=List.mem_iff_getElem?.1 hx;obtain⟨h1,h2⟩:=List.getElem?_eq_some_iff.1 hi;have:=hR i h1;simp[h1,h2]at this;simp[this]
  rw[h3,if_neg (by decide)]
  clear hR h3;refine zgo ?_;exact zfin
def szOf(im:List (List Sec)):List Int:=im.map fun v=>(v.length:Int)
theorem gV(l:List (List Sec))(k:Nat)(h:k<l.length):(encL volRow l)[k]? =some (volRow (l.getD k [])):=encL_get [] h
theorem len1_p(v:List Sec):PC 303 [.snap (encL encSec v)] (zV v.length):=by
 refine pstart Tryz.func303 Tryz.ntmps303 (.c _) ?_;refine zgo ?_;exact zfin
theorem lens_p(im:List (List Sec))(hl:im.length≤1000):PC 302 [.snap (encL volRow im),.fn (.func 303) [] []] (.snap (encL intRow (szOf im))):=by
 refine pstart Tryz.func302 Tryz.ntmps302 (encL_noId _) ?_;have hg:=gV im;have c1:=len1_p;unfold szOf;refine zgo ?_;refine zfor (α:=Nat) im.length (fun k id=> [(13,true,zV k),(12,true,zV im.length),(11,true,.snap (encL volRow im)),(1,true,.fn (.func 303) [] []),(5,true,.own id 0 k)]) (fun k id=> [(id,some (.cells 3 1 (encL intRow ((im.map fun v=>(v.length:Int)).take k)) true true))]) (fun k m id=>id<m) ⟨9,0,by omega,zholds⟩ (fun k m id hk hR=> ?_) (fun m id hR=> ?_)
 ·have h5:=map_snoc (fun v:List Sec=>(v.length:Int)) [] hk
  have h6:((im.map fun v=>(v.length:Int)).take k).length=k:=by simp;omega
  refine zgo ?_;exact⟨m+2,m+1,by omega,zholds⟩
 ·have h6:(im.map fun v=>(v.length:Int)).take im.length=im.map fun v=>(v.length:Int):=List.take_of_length_le (by simp)
  refine zgo ?_;exact zfin
theorem szs_p(im:List (List Sec))(hl:im.length≤1000):PC 294 [.snap (encL volRow im)] (.snap (encL intRow (szOf im))):=by
 refine pstart Tryz.func294 Tryz.ntmps294 (encL_noId _) ?_;have c1:=lens_p im hl;refine zgo ?_;exact zfin
theorem szOf_len(im:List (List Sec)):(szOf im).length=im.length:=by simp[szOf]
theorem icheck_p(im:List (List Sec))(hl:im.length≤1000):PC 275 [.snap (encL volRow im)] (zV (sizesE (szOf im))):=by
 refine pstart Tryz.func275 Tryz.ntmps275 (.c _) ?_;have c1:=szs_p im hl;have c2:=sizes_p (szOf im) (by rw[szOf_len];omega)
 refine zgo ?_;exact zfin
def fitE(sz:List Int)(w:Int×Int×List Sec):Int:=
 if w.1<0∨(sz.length:Int)≤w.1 then 7
 else if w.2.2.length=0 then 1
 else if w.2.1<0∨sz.getD w.1.toNat 0-w.2.2.length<w.2.1 then 2
 else 0
theorem fits_p(im:List (List Sec))(w:Int×Int×List Sec)(hl:im.length≤1000)(hv:∀v∈im,v.length≤1000000)(hw:w.2.2.length≤1000000):PC 276 [.snap (encL volRow im),.agg (opRow w)] (zV (fitE (szOf im) w)):=by
 refine pstart Tryz.func276 Tryz.ntmps276 (.c _) ?_;have hg:=gV im;obtain⟨v,s,l⟩:=w;unfold opRow;simp only[]at*;unfold fitE;by_cases g1:v<0
 ·rw[if_pos (.inl g1)]
  refine zgo ?_;exact zfin
 by_cases g2:(im.length:Int)≤v
 ·rw[if_pos (by rw[szOf_len];exact .inr g2)]
  refine zgo ?_;exact zfin
 rw[if_neg (by rw[szOf_len];omega)]
 by_cases g3:l.length=0
 ·rw[if_pos g3]
  have g4:(l.length:Int)=0:=by omega
  refine zgo ?_;exact zfin
 rw[if_neg g3];have g4:¬(l.length:Int)=0:=by omega
 obtain⟨n,rfl⟩:=Int.eq_ofNat_of_zero_le (by omega:0≤v)
 have g5:n<im.length:=by omega
 have e1:(szOf im).getD ((n:Int)).toNat 0=((im.getD n []).length:Int):=by
  rw[Int.toNat_natCast];unfold szOf;rw[List.getD_eq_getElem?_getD,List.getD_eq_getElem?_getD,List.getElem?_map,List.getElem?_eq_getElem g5];rfl
 rw[e1];have hvn:=hv _ (getD_mem' [] g5);have hgn:=hg n g5;clear hg hv e1;generalize im.getD n []=V at*;have w1:IntKind.i64.wrap ((V.length:Int)-l.length)=(V.length:Int)-l.length:=IntWalk.i64_in _ (by omega)
 by_cases g6:s<0
 ·rw[if_pos (.inl g6)]
  refine zgo ?_;exact zfin
 by_cases g7:(V.length:Int)-l.length<s
 ·rw[if_pos (.inr g7)]
  refine zgo ?_;exact zfin
 rw[if_neg (fun h=>by simp only[]at h;omega)]
 refine zgo ?_;exact zfin
theorem fitsI_p(im:List (List Sec))(w:Int×Int×List Sec)(hl:im.length≤1000)(hv:∀v∈im,v.length≤1000000)(hw:w.2.2.length≤1000000):PC 235 [.snap (encL volRow im),.agg (opRow w)] (zV (if sizesE (szOf im)=0 then fitE (szOf im) w else sizesE (szOf im))):=by
 refine pstart Tryz.func235 Tryz.ntmps235 (.c _) ?_;have c1:=icheck_p im hl;have c2:=fits_p im w hl hv hw;unfold opRow at*;by_cases g:sizesE (szOf im)=0
 ·rw[if_pos g]
  rw[g]at c1;refine zgo ?_;exact zfin
 ·rw[if_neg g]
  refine zgo ?_;exact zfin
end Go.Proofs.YtioafciifiggaaaGreatDoor
