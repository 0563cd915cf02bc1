/- Staging: contracts of its functions (Azg). No condition but those named. -/
import Derived.Test.YtpeldefimkdkdaaGreatAzf
set_option linter.unusedVariables false
set_option linter.unusedSimpArgs false
namespace Go.Proofs.YtpeldefimkdkdaaGreat
open Go.Proofs Go.AL
set_option maxRecDepth 100000
set_option maxHeartbeats 1000000
attribute [local irreducible] endA AW aops thenA blockA hold
def npt(c:Cyc)(most:Nat):Nat:=nParts (encE c).1.length most
def pcN(c:Cyc)(most i:Nat):List Int:=pieceN (encE c).1 most i
def ptN(c:Cyc)(most i:Nat):List Int:=parW c.number (i:Int) ((npt c most:Nat):Int) (crc (encE c).1) (pcN c most i)
structure CP(c:Cyc)(most:Nat):Prop where
 enc:(encE c).2=0
 m1:1≤most
 m2:most≤4096
theorem CP.num{c:Cyc}{most:Nat}(h:CP c most):1≤c.number∧c.number≤1073741824:=by
 have:=cyc_ok (dec_enc h.enc).2.1;have h1:=this.base;have h2:=this.number;omega
theorem CP.len{c:Cyc}{most:Nat}(h:CP c most):1≤(encE c).1.length∧(encE c).1.length≤65536:=by
 obtain⟨-,-,h3,h4⟩:=dec_enc h.enc;rw[h3];refine⟨?_,h4⟩;unfold cycW;have:=vint_pos c.base;simp only[List.length_append];omega
theorem nParts_in{l most i:Nat}(h:1≤most)(hi:i<nParts l most):i*most<l:=by
 unfold nParts at hi;have h1:=(Nat.le_div_iff_mul_le (by omega:0<most)).1 (Nat.succ_le_of_lt hi)
 rw[Nat.succ_mul]at h1;omega
theorem nParts_out(l:Nat){most:Nat}(h:1≤most):l≤nParts l most*most:=by
 unfold nParts;have h1:=Nat.div_add_mod (l+most-1) most;have h2:=Nat.mod_lt (l+most-1) (by omega:0<most)
 rw[Nat.mul_comm]at h1;omega
theorem CP.npt{c:Cyc}{most:Nat}(h:CP c most):1≤npt c most∧npt c most≤65536:=by
 have h1:=h.len;have h2:=nParts_out (encE c).1.length h.m1;unfold Go.Proofs.YtpeldefimkdkdaaGreat.npt;constructor
 ·rcases Nat.eq_zero_or_pos (nParts (encE c).1.length most)with h3|h3
  ·rw[h3]at h2;omega
  ·exact h3
 ·rcases Nat.lt_or_ge 65536 (nParts (encE c).1.length most)with h3|h3
  ·have h4:=nParts_in h.m1 h3
   have:=Nat.le_mul_of_pos_right 65536 (by have:=h.m1;omega:0<most)
   omega
  ·exact h3
theorem pcN_len{c:Cyc}{most i:Nat}(h:CP c most)(hi:i<npt c most):1≤(pcN c most i).length∧(pcN c most i).length≤most:=by
 have h1:=nParts_in h.m1 hi;have:=h.m1;unfold pcN pieceN;rw[List.length_take,List.length_drop];omega
theorem pieces_flat(b:List Int)(most:Nat):∀k,((List.range k).map (pieceN b most)).flatten=b.take (k*most)
 |0=>by simp
 |k+1=>by
  rw[List.range_succ,List.map_append,List.flatten_append,pieces_flat b most k,Nat.succ_mul,List.take_add];simp[pieceN]
theorem pcN_flat{c:Cyc}{most:Nat}(h:CP c most):((List.range (npt c most)).map (pcN c most)).flatten=(encE c).1:=by
 have h1:=pieces_flat (encE c).1 most (npt c most);have h2:=nParts_out (encE c).1.length h.m1;have h3:(encE c).1.take (npt c most*most)=(encE c).1:=List.take_of_length_le h2;rw[h3]at h1;exact h1
theorem splE_pt{c:Cyc}{most:Nat}(h:CP c most):splE c (most:Int)=((List.range (npt c most)).map (ptN c most),0):=by
 have h1:=h.m1;have h2:=h.m2;unfold splE;rw[if_pos h.enc,if_neg (by omega)]
 rfl
theorem parE_pt{c:Cyc}{most i:Nat}(h:CP c most)(hi:i<npt c most):parE (ptN c most i)=(⟨c.number,(i:Int),((npt c most:Nat):Int),crc (encE c).1,pcN c most i⟩,0):=by
 have h1:=h.num;have h2:=h.npt;have h3:=pcN_len h hi;have h4:=crc_rng (encE c).1;have h5:=h.m2
 have e1:intE (ptN c most i)=(c.number,vint (i:Int)++(vint ((npt c most:Nat):Int)++(vint (crc (encE c).1)++pcN c most i)),0):=by
  unfold ptN parW;simp only[List.append_assoc];exact intE_vintS (by omega) (by omega) _
 have e2:=intE_vintS (n:=(i:Int)) (by omega) (by omega) (vint ((npt c most:Nat):Int)++(vint (crc (encE c).1)++pcN c most i))
 have e3:=intE_vintS (n:=((npt c most:Nat):Int)) (by omega) (by omega) (vint (crc (encE c).1)++pcN c most i)
 have e4:=intE_vintS (n:=crc (encE c).1) (by omega) (by omega) (pcN c most i)
 unfold parE;rw[e1];simp only[];rw[e2];simp only[];rw[e3];simp only[];rw[e4];unfold parG;simp only[if_true];rw[if_neg];unfold badP;have h6:pcN c most i≠[]:=fun h=>by rw[h]at h3;simp at h3
 intro h7;rcases h7 with h7|h7|h7|h7|h7|h7|h7
 ·omega
 ·omega
 ·omega
 ·omega
 ·omega
 ·exact h6 h7
 ·omega
def pA(c:Cyc)(most:Nat)(S:List Bool):Asm:=⟨c.number,((npt c most:Nat):Int),crc (encE c).1,(List.range (npt c most)).map (fun i=>if S.getD i false=true then pcN c most i else []),S⟩
theorem pA_get{c:Cyc}{most:Nat}{S:List Bool}{i:Nat}(hi:i<npt c most):(pA c most S).have_.getD i []=if S.getD i false=true then pcN c most i else []:=by
 unfold pA;simp[List.getD_eq_getElem?_getD,List.getElem?_range hi]
theorem pA_len(c:Cyc)(most:Nat)(S:List Bool):(pA c most S).have_.length=npt c most:=by simp[pA]
theorem asmE_pA{c:Cyc}{most:Nat}{S:List Bool}(h:CP c most)(hS:S.length=npt c most):asmE (pA c most S)=0:=by
 have h1:=h.num;have h2:=h.npt;have h4:=crc_rng (encE c).1;have h5:=pA_len c most S;unfold asmE;rw[if_neg,if_pos]
 ·rw[List.all_eq_true,h5]
  intro i hi;have hi:=List.mem_range.1 hi;have h3:=pcN_len h hi;have:=h.m2;unfold pieceOK;rw[pA_get hi]
  show _=true
  have h6:(pA c most S).seen=S:=rfl;rw[h6];cases hs:S.getD i false with
  |false=>simp
  |true=>
   simp only[if_true];rw[decide_eq_true (by omega:0<(pcN c most i).length),decide_eq_true (by omega:(pcN c most i).length≤4096)]
   rfl
 ·intro h7
  have e1:(pA c most S).number=c.number:=rfl;have e2:(pA c most S).parts=((npt c most:Nat):Int):=rfl;have e3:(pA c most S).sum=crc (encE c).1:=rfl;have e4:(pA c most S).seen.length=S.length:=rfl;rw[h5,e1,e2,e3,e4]at h7;omega
theorem set_have{c:Cyc}{most:Nat}{S:List Bool}{i:Nat}(hS:S.length=npt c most)(hi:i<npt c most):(pA c most S).have_.set i (pcN c most i)=(pA c most (S.set i true)).have_:=by
 refine List.ext_getElem (by simp[pA]) fun j h1 h2=> ?_
 have hj:j<npt c most:=by simpa[pA]using h2
 rw[List.getElem_set];simp only[pA,List.getElem_map,List.getElem_range];by_cases g:i=j
 ·subst g
  simp[List.getD_eq_getElem?_getD,hS,hi]
 ·rw[if_neg g]
  simp[List.getD_eq_getElem?_getD,List.getElem?_set_ne g]
theorem pA_set{c:Cyc}{most:Nat}{S:List Bool}{i:Nat}(hS:S.length=npt c most)(hi:i<npt c most):(⟨c.number,((npt c most:Nat):Int),crc (encE c).1,(pA c most S).have_.set i (pcN c most i),S.set i true⟩:Asm)=pA c most (S.set i true):=by
 rw[set_have hS hi];rfl
theorem pA_none(c:Cyc)(most:Nat):(pA c most (List.replicate (npt c most) false)).have_=List.replicate (npt c most) []:=by
 refine List.ext_getElem (by simp[pA]) fun j h1 h2=> ?_
 have hj:j<npt c most:=by simpa[pA]using h1
 simp[pA,List.getD_eq_getElem?_getD,hj]
def noS(c:Cyc)(most:Nat):List Bool:=List.replicate (npt c most) false
theorem begE_pt{c:Cyc}{most i:Nat}(h:CP c most)(hi:i<npt c most):begE (ptN c most i)=(pA c most ((noS c most).set i true),0):=by
 unfold begE;rw[parE_pt h hi];simp only[if_true,Int.toNat_natCast];rw[←pA_none,set_have (by simp) hi]
 rfl
theorem addE_pt{c:Cyc}{most i:Nat}{S:List Bool}(h:CP c most)(hS:S.length=npt c most)(hi:i<npt c most):addE (pA c most S) (ptN c most i)=(pA c most (S.set i true),0):=by
 unfold addE;rw[if_pos (asmE_pA h hS),parE_pt h hi];simp only[if_true,Int.toNat_natCast];have e1:(pA c most S).number=c.number:=rfl;have e2:(pA c most S).parts=((npt c most:Nat):Int):=rfl;have e3:(pA c most S).sum=crc (encE c).1:=rfl;have e4:(pA c most S).seen=S:=rfl;rw[e1,e2,e3,e4,if_pos rfl,if_pos ⟨rfl,rfl⟩,if_neg,pA_set hS hi];intro h7;rw[pA_get hi,if_pos h7.1]at h7;exact h7.2 rfl
theorem acyE_pA{c:Cyc}{most:Nat}{S:List Bool}(h:CP c most)(hS:S.length=npt c most):acyE (pA c most S)=if S.all id=true then(c,0)else(zCyc,15):=by
 unfold acyE;rw[if_pos (asmE_pA h hS)];have e4:(pA c most S).seen=S:=rfl;rw[e4];by_cases g:S.all id=true
 ·rw[if_pos g,if_pos g]
  have h1:(pA c most S).have_=(List.range (npt c most)).map (pcN c most):=by
   unfold pA;refine List.map_congr_left fun i hi=> ?_
   have hi:=List.mem_range.1 hi;rw[if_pos];have:=List.all_eq_true.1 g (S.getD i false) (getD_mem' false (by omega))
   simpa using this
  obtain⟨d1,-,-,-⟩:=dec_enc h.enc;rw[h1,pcN_flat h,d1,if_neg (by have:=h.len;omega),if_pos (by rfl)]
  simp only[if_true];rw[if_pos (by rfl)]
 ·rw[if_neg g,if_neg g]
theorem seen_set:∀(S:List Bool) (i:Nat),i<S.length→S.getD i false=false→((S.set i true).filter id).length=(S.filter id).length+1
 |[],_,h,_=>by simp at h
 |b::S,0,_,hb=>by
  have:b=false:=by simpa using hb
  subst this;simp
 |b::S,i+1,hi,hb=>by
  have h1:=seen_set S i (by simpa using hi) (by simpa using hb)
  cases b<;>simp[h1]
theorem seen_same:∀(S:List Bool) (i:Nat),S.getD i false=true→S.set i true=S
 |[],_,h=>by simp at h
 |b::S,0,hb=>by
  have:b=true:=by simpa using hb
  subst this;rfl
 |b::S,i+1,hb=>by
  have h1:=seen_same S i (by simpa using hb)
  rw[List.set_cons_succ,h1]
theorem vint_len5{n:Int}(h:n≤34359738367):(vint n).length≤5:=by
 refine vg_len 4 _ ?_;unfold clampN;split<;>omega
theorem vint_len1{n:Int}(h:n≤127):(vint n).length≤1:=by
 refine vg_len 0 _ ?_;unfold clampN;split<;>omega
theorem ptN_len{c:Cyc}{most i:Nat}(h:CP c most)(hi:i<npt c most)(hm:npt c most≤127):(ptN c most i).length≤most+12:=by
 have h1:=h.num;have h3:=pcN_len h hi;have h4:=crc_rng (encE c).1;have v1:=vint_len5 (n:=c.number) (by omega)
 have v2:=vint_len1 (n:=(i:Int)) (by omega)
 have v3:=vint_len1 (n:=((npt c most:Nat):Int)) (by omega)
 have v4:=vint_len5 (n:=crc (encE c).1) (by omega)
 unfold ptN parW;simp only[List.length_append];omega
end Go.Proofs.YtpeldefimkdkdaaGreat
namespace Go.Proofs.YtpeldefimkdkdaaGreat
open Go.Proofs Go.AL
set_option maxRecDepth 100000
set_option maxHeartbeats 1000000
attribute [local irreducible] endA AW aops thenA blockA hold
def PW(l:List Stg):Prop:=l.Pairwise fun a b=>a.number<b.number
theorem PW.sort{l:List Stg}(h:PW l):SortS l:=fun i k hik hk=>by
 have h1:=List.pairwise_iff_getElem.1 h i k (by omega) hk hik
 have h2:l.getD i zStg=l[i]:=by simp[show i<l.length by omega]
 have h3:l.getD k zStg=l[k]:=by simp[hk]
 rw[h2,h3];exact h1
theorem PW.inj{l:List Stg}(h:PW l){a b:Stg}(ha:a∈l)(hb:b∈l)(hn:a.number=b.number):a=b:=by
 obtain⟨i,hi,rfl⟩:=List.mem_iff_getElem.1 ha;obtain⟨k,hk,rfl⟩:=List.mem_iff_getElem.1 hb;rcases Nat.lt_trichotomy i k with g|g|g
 ·have:=List.pairwise_iff_getElem.1 h i k hi hk g
  omega
 ·subst g;rfl
 ·have:=List.pairwise_iff_getElem.1 h k i hk hi g
  omega
def getS(l:List Stg)(n:Int):Option Stg:=if fndB l n=true then some (l.getD (fndI l n) zStg)else none
theorem getS_mem{l:List Stg}{n:Int}{x:Stg}(h:getS l n=some x):x∈l∧x.number=n:=by
 unfold getS at h;split at h
 ·rename_i g
  injection h with h
  subst h;obtain⟨h1,h2⟩:=fndB_lt g;exact⟨getD_mem' zStg h1,h2⟩
 ·cases h
theorem mem_fnd{l:List Stg}(hl:PW l){x:Stg}(hx:x∈l):fndB l x.number=true∧l.getD (fndI l x.number) zStg=x:=by
 obtain⟨i,hi,hix⟩:=List.mem_iff_getElem.1 hx;have h2:l.getD i zStg=x:=by simp[hi,hix]
 have h1:fndI l x.number=i:=by
  rcases Nat.lt_trichotomy (fndI l x.number) i with g|g|g
  ·have h3:=fndI_ge hl.sort (Nat.le_refl _) (by omega:fndI l x.number<l.length)
   have h4:=hl.sort _ _ g hi;rw[h2]at h4;omega
  ·exact g
  ·have h3:=fndI_lt g
   rw[h2]at h3;omega
 refine⟨?_,by rw[h1];exact h2⟩
 unfold fndB;rw[h1,h2];simp[hi]
theorem mem_getS{l:List Stg}(hl:PW l){x:Stg}(hx:x∈l):getS l x.number=some x:=by
 obtain⟨h1,h2⟩:=mem_fnd hl hx;unfold getS;rw[if_pos h1,h2]
theorem getS_none{l:List Stg}(hl:PW l){n:Int}(h:getS l n=none):∀x∈l,x.number≠n:=fun x hx hn=>by
 subst hn;rw[mem_getS hl hx]at h;cases h
theorem take_lt{l:List Stg}{n:Int}{x:Stg}(hx:x∈l.take (fndI l n)):x.number<n:=by
 obtain⟨i,hi,rfl⟩:=List.mem_iff_getElem.1 hx;rw[List.length_take]at hi;have:=fndI_lt (l:=l) (n:=n) (i:=i) (by omega)
 simpa[show i<l.length by omega]using this
theorem drop_ge{l:List Stg}(hl:PW l){n:Int}{x:Stg}(hx:x∈l.drop (fndI l n)):n≤x.number:=by
 obtain⟨i,hi,rfl⟩:=List.mem_iff_getElem.1 hx;rw[List.length_drop]at hi;have:=fndI_ge hl.sort (n:=n) (i:=fndI l n+i) (by omega) (by omega)
 simpa[show fndI l n+i<l.length by omega]using this
theorem putSt_pw{l:List Stg}(hl:PW l)(x:Stg):PW (putSt l x):=by
 unfold putSt;split
 ·rename_i g
  obtain⟨h1,h2⟩:=fndB_lt g;refine List.pairwise_iff_getElem.2 fun i k hi hk hik=> ?_
  rw[List.length_set]at hi hk;have h3:=List.pairwise_iff_getElem.1 hl i k hi hk hik;have h4:(l[fndI l x.number]).number=x.number:=by simpa[h1]using h2
  rw[List.getElem_set,List.getElem_set];by_cases g1:fndI l x.number=i
  ·rw[if_pos g1,if_neg (by omega)]
   subst g1;omega
  ·rw[if_neg g1]
   by_cases g2:fndI l x.number=k
   ·rw[if_pos g2]
    subst g2;omega
   ·rw[if_neg g2]
    exact h3
 ·rename_i g
  have hd:∀y∈l.drop (fndI l x.number),x.number<y.number:=fun y hy=>by
   have h1:=drop_ge hl hy
   have h2:y.number≠x.number:=fun h=>g (by
    have:=(mem_fnd hl (List.mem_of_mem_drop hy)).1;rw[h]at this
    exact this)
   omega
  refine List.pairwise_append.2 ⟨List.Pairwise.sublist (List.take_sublist _ _) hl,List.pairwise_cons.2 ⟨hd,List.Pairwise.sublist (List.drop_sublist _ _) hl⟩,fun a ha b hb=> ?_⟩
  have h1:=take_lt ha;rcases List.mem_cons.1 hb with rfl|hb
  ·exact h1
  ·have:=hd b hb
   omega
theorem putSt_self(l:List Stg)(x:Stg):x∈putSt l x:=by
 unfold putSt;split
 ·rename_i g
  exact List.mem_set (fndB_lt g).1 x
 ·simp
theorem putSt_old{l:List Stg}{x y:Stg}(hy:y∈l)(hn:y.number≠x.number):y∈putSt l x:=by
 unfold putSt;split
 ·rename_i g
  obtain⟨h1,h2⟩:=fndB_lt g;obtain⟨i,hi,hiy⟩:=List.mem_iff_getElem.1 hy
  have hne:fndI l x.number≠i:=fun h=>hn (by
   subst h;rw[←h2]
   simp[hi,hiy])
  have h3:(l.set (fndI l x.number) x)[i]? =some y:=by
   rw[List.getElem?_set_ne hne,List.getElem?_eq_getElem hi,hiy]
  exact List.mem_of_getElem? h3
 ·have h1:=List.take_append_drop (fndI l x.number) l
  rw[←h1]at hy;rcases List.mem_append.1 hy with h|h
  ·exact List.mem_append_left _ h
  ·exact List.mem_append_right _ (List.mem_cons_of_mem _ h)
theorem putSt_new{l:List Stg}(hl:PW l){x y:Stg}(hy:y∈putSt l x):y=x∨(y∈l∧y.number≠x.number):=by
 by_cases g:y.number=x.number
 ·exact .inl ((putSt_pw hl x).inj hy (putSt_self l x) g)
 ·rcases putSt_mem hy with h|h
  ·exact .inl h
  ·exact .inr ⟨h,g⟩
theorem getS_put{l:List Stg}(hl:PW l)(x:Stg):getS (putSt l x) x.number=some x:=mem_getS (putSt_pw hl x) (putSt_self l x)
theorem getS_other{l:List Stg}(hl:PW l){x:Stg}{n:Int}(hn:n≠x.number):getS (putSt l x) n=getS l n:=by
 cases h:getS l n with
 |some y=>
  obtain⟨h1,h2⟩:=getS_mem h;have h3:=mem_getS (putSt_pw hl x) (putSt_old (x:=x) h1 (by omega))
  rw[h2]at h3;exact h3
 |none=>
  cases h2:getS (putSt l x) n with
  |none=>rfl
  |some y=>
   obtain⟨h3,h4⟩:=getS_mem h2;rcases putSt_mem h3 with h5|h5
   ·subst h5;exact absurd h4.symm hn
   ·exact absurd h4 (getS_none hl h y h5)
def DJ(l:List Stg):Prop:=∀a∈l,∀b∈l,a.number≠b.number→∀n∈a.records,n∉b.records
theorem stG_intro(j:Jr):∀(l:List Stg) (p:Option Int) (own:List Int),(∀x∈l,corS j x=true)→PW l→(∀n,p=some n→∀x∈l,n<x.number)→DJ l→(∀x∈l,∀n∈x.records,n∉own)→stG j p own l=true
 |[],_,_,_,_,_,_,_=>rfl
 |x::l,p,own,h1,h2,h3,h4,h5=>by
  obtain⟨h6,h7⟩:=List.pairwise_cons.1 h2;rw[stG_cons,if_pos (h1 x (by simp))]
  have h8:x.records.any (fun n=>own.contains n)=false:=by
   rw[List.any_eq_false];intro n hn;have:=h5 x (by simp) n hn
   simpa using this
  have h9:stG j (some x.number) (own++x.records) l=true:=by
   refine stG_intro j l _ _ (fun y hy=>h1 y (by simp[hy])) h7 (fun n hn y hy=> ?_) (fun a ha b hb hab=>h4 a (by simp[ha]) b (by simp[hb]) hab) (fun y hy n hn hm=> ?_)
   ·injection hn with hn
    subst hn;exact h6 y hy
   ·rcases List.mem_append.1 hm with h|h
    ·exact h5 y (by simp[hy]) n hn h
    ·have:=h6 y hy
     exact h4 y (by simp[hy]) x (by simp) (by omega) n hn h
  rw[h8];cases p with
  |none=>simpa using h9
  |some n=>
   have:=h3 n rfl x (by simp)
   rw[if_neg (by simp;omega)]
   simpa using h9
theorem stG_disj(j:Jr):∀(l:List Stg) (p:Option Int) (own:List Int),stG j p own l=true→DJ l∧∀x∈l,∀n∈x.records,n∉own
 |[],_,_,_=>⟨fun a ha=>by simp at ha,fun a ha=>by simp at ha⟩
 |x::l,p,own,h=>by
  obtain⟨-,-,h2⟩:=stG_inv h;obtain⟨h3,h4⟩:=stG_disj j l _ _ h2
  have h5:∀n∈x.records,n∉own:=fun n hn hm=>by
   rw[stG_cons]at h;have h8:x.records.any (fun n=>own.contains n)=true:=List.any_eq_true.2 ⟨n,hn,by simpa using hm⟩
   rw[h8]at h;revert h;split
   ·split<;>simp
   ·simp
  refine⟨fun a ha b hb hab n hn hm=> ?_,fun y hy n hn=> ?_⟩
  ·rcases List.mem_cons.1 ha with e1|e1
   ·rcases List.mem_cons.1 hb with e2|e2
    ·exact hab (by rw[e1,e2])
    ·rw[e1]at hn
     exact h4 b e2 n hm (List.mem_append_right _ hn)
   ·rcases List.mem_cons.1 hb with e2|e2
    ·rw[e2]at hm
     exact h4 a e1 n hn (List.mem_append_right _ hm)
    ·exact h3 a e1 b e2 hab n hn hm
  ·rcases List.mem_cons.1 hy with hy|hy
   ·subst hy;exact h5 n hn
   ·exact fun hm=>h4 y hy n hn (List.mem_append_left _ hm)
theorem recG_mono:∀(l:List Int) (last next next':Int),next≤next'→recG last next l=true→recG last next' l=true
 |[],_,_,_,_,_=>rfl
 |x::l,last,next,next',hn,h=>by
  rw[recG_cons]at h⊢;split at h
  ·exact absurd h (by decide)
  ·rw[if_neg (by omega)]
   exact recG_mono l x next next' hn h
theorem recG_snoc:∀(l:List Int) (last next:Int),last<next→recG last next l=true→recG last (next+1) (l++[next])=true
 |[],last,next,hn,_=>by
  rw[List.nil_append,recG_cons,if_neg (by omega)]
  rfl
 |x::l,last,next,hn,h=>by
  rw[recG_cons]at h;rw[List.cons_append,recG_cons];split at h
  ·exact absurd h (by decide)
  ·rename_i g
   rw[if_neg (by omega)]
   exact recG_snoc l x next (by omega) h
theorem corS_mono{j j':Jr}{x:Stg}(hf:j'.first=j.first)(hn:jN j≤jN j')(h:corS j x=true):corS j' x=true:=by
 unfold corS at h⊢;split at h
 ·rename_i g1
  rw[if_pos g1];split at h
  ·exact absurd h (by decide)
  ·rename_i g2
   rw[if_neg g2];split at h
   ·exact absurd h (by decide)
   ·rename_i g3
    rw[if_neg g3];split at h
    ·rename_i g4
     rw[if_pos (by rw[hf];exact recG_mono _ _ _ _ hn g4)]
     exact h
    ·exact absurd h (by decide)
 ·exact absurd h (by decide)
end Go.Proofs.YtpeldefimkdkdaaGreat
