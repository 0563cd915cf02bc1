/- Staging: contracts of its functions (Ae). No condition but those named. -/
import Derived.Test.YtioafciifiggaaaGreatDoorAd
set_option linter.unusedVariables false
set_option linter.unusedSimpArgs false
namespace Go.Proofs.YtioafciifiggaaaGreatDoor
open Go.Proofs Go.AL
set_option maxRecDepth 100000
set_option maxHeartbeats 1000000
attribute [local irreducible] endA AW aops thenA blockA hold
def readE(d:Dsk)(s n:Int):List Sec×Int:=
 if dskE d=0 then
  if s<0∨n<0∨(d.st.length:Int)<n∨(d.st.length:Int)-n<s then([],2)
  else(((newL d.st d.ca).drop s.toNat).take n.toNat,0)
 else([],dskE d)
theorem rread_p(d:Dsk)(s n:Int)(hs:d.st.length≤1000000)(h2:d.ca.length≤1000000):PC 117 [.agg (encD d),.agg [zV s,zV n]] (.tup [.snap (encL encSec (readE d s n).1),zV (readE d s n).2]):=by
 refine pstart Tryz.func117 Tryz.ntmps117 (by simp only[go_sem]) ?_
 have c1:=rdcheck_p d hs h2;unfold readE;by_cases g:dskE d=0
 ·have c2:=rnewest_p d h2 g
  rw[if_pos g];have e0:=newL_len d.ca d.st;rw[g]at c1;clear g;obtain⟨st,ca⟩:=d;simp only[]at c2 e0 hs h2;unfold encD at c1 c2⊢;simp only[]at c1 c2⊢;by_cases g1:s<0
  ·rw[if_pos (by omega)]
   refine zgo ?_;exact zfin
  by_cases g2:n<0
  ·rw[if_pos (by omega)]
   refine zgo ?_;exact zfin
  by_cases g3:(st.length:Int)<n
  ·rw[if_pos (by omega)]
   refine zgo ?_;exact zfin
  have w1:IntKind.i64.wrap ((st.length:Int)-n)=(st.length:Int)-n:=IntWalk.i64_in _ (by omega)
  by_cases g4:(st.length:Int)-n<s
  ·rw[if_pos (by omega)]
   refine zgo ?_;exact zfin
  rw[if_neg (by omega)]
  obtain⟨S,rfl⟩:=Int.eq_ofNat_of_zero_le (by omega:0≤s)
  obtain⟨N,rfl⟩:=Int.eq_ofNat_of_zero_le (by omega:0≤n)
  have e1:((S:Int)+(N:Int)-(S:Int)).toNat=N:=by omega
  refine zgo ?_;exact zfin
 ·rw[if_neg g]
  unfold encD at c1⊢;refine zgo ?_;exact zfin
end Go.Proofs.YtioafciifiggaaaGreatDoor
namespace Go.Proofs.YtioafciifiggaaaGreatDoor
open Go.Proofs Go.AL
set_option maxRecDepth 100000
set_option maxHeartbeats 1000000
attribute [local irreducible] endA AW aops thenA blockA hold
def sbL(d:Dsk)(a:Int):List Sec:=((newL d.st d.ca).drop a.toNat).take 16
def findE(d:Dsk)(a:Int):List Sec×Int×List Int×Int×Int:=
 if dskE d=0 then
  if a<0∨(d.st.length:Int)-16<a then([],0,[],0,2)
  else if(parseS ((sbL d a).take 8)).2=0∧(parseS ((sbL d a).drop 8)).2=0 then([],0,[],0,9)
  else if(parseS ((sbL d a).take 8)).2<(parseS ((sbL d a).drop 8)).2 then(sbL d a,1,(parseS ((sbL d a).drop 8)).1,(parseS ((sbL d a).drop 8)).2,0)
  else(sbL d a,0,(parseS ((sbL d a).take 8)).1,(parseS ((sbL d a).take 8)).2,0)
 else([],0,[],0,dskE d)
theorem rfind_p(d:Dsk)(a:Int)(hs:d.st.length≤1000000)(h2:d.ca.length≤1000000)(hk:∀s∈newL d.st d.ca,SecOK s):PC 165 [.agg (encD d),zV a] (.tup [.snap (encL encSec (findE d a).1),zV (findE d a).2.1,.snap (encL byteRow (findE d a).2.2.1),.c (.int .u32 (findE d a).2.2.2.1),zV (findE d a).2.2.2.2]):=by
 refine pstart Tryz.func165 Tryz.ntmps165 (by simp only[go_sem]) ?_
 have c1:=rdcheck_p d hs h2;unfold findE;by_cases g:dskE d=0
 ·have c2:=rread_p d a 16 hs h2
  unfold readE at c2;rw[if_pos g]at c2⊢;rw[g]at c1;by_cases g1:a<0
  ·rw[if_pos (by omega)]
   clear c2;unfold encD at c1⊢;refine zgo ?_;exact zfin
  have w1:IntKind.i64.wrap ((d.st.length:Int)-16)=(d.st.length:Int)-16:=IntWalk.i64_in _ (by omega)
  by_cases g2:(d.st.length:Int)-16<a
  ·rw[if_pos (by omega)]
   clear c2;unfold encD at c1⊢;refine zgo ?_;exact zfin
  rw[if_neg (by omega)]at c2⊢
  have e0:=newL_len d.ca d.st;have e1:(sbL d a).length=16:=by unfold sbL;rw[List.length_take,List.length_drop];omega
  have c2':PC 117 [.agg (encD d),.agg [zV a,zV 16]] (.tup [.snap (encL encSec (sbL d a)),zV 0]):=c2;have hk2:∀s∈sbL d a,SecOK s:=fun s hs=>hk s (List.mem_of_mem_drop (List.mem_of_mem_take hs))
  clear c2 hk g;unfold encD at c1 c2'⊢;generalize sbL d a=L at*;have c3:=parse_p (L.take 8) (by rw[List.length_take];omega) fun s hs=>hk2 s (List.mem_of_mem_take hs)
  have c4:=parse_p (L.drop 8) (by rw[List.length_drop];omega) fun s hs=>hk2 s (List.mem_of_mem_drop hs)
  have e2:(L.drop 8).take 8=L.drop 8:=List.take_of_length_le (by rw[List.length_drop];omega)
  clear hk2;generalize parseS (L.take 8)=A at*;generalize parseS (L.drop 8)=B at*;obtain⟨pa,ga⟩:=A;obtain⟨pb,gb⟩:=B;simp only[]at c3 c4⊢;by_cases g3:ga=0
  ·by_cases g4:gb=0
   ·rw[if_pos ⟨g3,g4⟩]
    refine zgo ?_;exact zfin
   ·rw[if_neg (fun h=>g4 h.2)]
    by_cases g5:ga<gb
    ·rw[if_pos g5]
     rw[g3]at g5 c3;refine zgo ?_;exact zfin
    ·rw[if_neg g5]
     rw[g3]at g5 c3;refine zgo ?_;exact zfin
  ·rw[if_neg (fun h=>g3 h.1)]
   by_cases g5:ga<gb
   ·rw[if_pos g5]
    refine zgo ?_;exact zfin
   ·rw[if_neg g5]
    refine zgo ?_;exact zfin
 ·rw[if_neg g]
  unfold encD at c1⊢;refine zgo ?_;exact zfin
end Go.Proofs.YtioafciifiggaaaGreatDoor
namespace Go.Proofs.YtioafciifiggaaaGreatDoor
open Go.Proofs Go.AL
set_option maxRecDepth 100000
set_option maxHeartbeats 1000000
attribute [local irreducible] endA AW aops thenA blockA hold
theorem parseS_gen{l:List Sec}(h:∀s∈l,SecOK s):0≤(parseS l).2∧(parseS l).2<4294967296:=by
 unfold parseS;split
 ·split
  ·exact⟨by simp,by simp⟩
  ·split
   ·cases l with
    |nil=>exact⟨by decide,by decide⟩
    |cons s l=>
     obtain⟨⟨a0,a1⟩,⟨b0,b1⟩,⟨c0,c1⟩,⟨d0,d1⟩⟩:=(h s (by simp)).1
     show 0≤genS s∧genS s<4294967296
     unfold genS;omega
   ·exact⟨by simp,by simp⟩
 ·exact⟨by simp,by simp⟩
end Go.Proofs.YtioafciifiggaaaGreatDoor
namespace Go.Proofs.YtioafciifiggaaaGreatDoor
open Go.Proofs Go.AL
set_option maxRecDepth 100000
set_option maxHeartbeats 1000000
attribute [local irreducible] endA AW aops thenA blockA hold
def topS(l:List Sec):Int:=l.foldl (fun m s=>max m (genS s)) 0
theorem topS_succ{l:List Sec}{k:Nat}(h:k<l.length):max (topS (l.take k)) (genS (l.getD k zSec))=topS (l.take (k+1)):=by
 rw[List.take_succ_eq_append_getElem h];have e:l.getD k zSec=l[k]:=by rw[List.getD_eq_getElem?_getD,List.getElem?_eq_getElem h];rfl
 rw[e];simp only[topS,List.foldl_append,List.foldl_cons,List.foldl_nil]
theorem topS_in:∀(l:List Sec),(∀s∈l,SecOK s)→0≤topS l∧topS l<4294967296:=by
 have key:∀(l:List Sec) (m:Int),0≤m→m<4294967296→(∀s∈l,SecOK s)→0≤l.foldl (fun m s=>max m (genS s)) m∧l.foldl (fun m s=>max m (genS s)) m<4294967296:=by
  intro l
  induction l with
  |nil=>intro m h1 h2 _;exact⟨h1,h2⟩
  |cons s l ih=>
   intro m h1 h2 h;obtain⟨⟨a0,a1⟩,⟨b0,b1⟩,⟨c0,c1⟩,⟨d0,d1⟩⟩:=(h s (by simp)).1
   have h3:0≤genS s∧genS s<4294967296:=by unfold genS;omega
   have h5:0≤max m (genS s)∧max m (genS s)<4294967296:=by omega
   exact ih _ h5.1 h5.2 fun x hx=>h x (by simp[hx])
 exact fun l h=>key l 0 (by omega) (by omega) h
theorem findE_ok{d:Dsk}{a:Int}(h:(findE d a).2.2.2.2=0):0≤a∧a≤(d.st.length:Int)-16∧((findE d a).2.1=0∨(findE d a).2.1=1)∧(findE d a).1=sbL d a:=by
 unfold findE at h⊢;by_cases g:dskE d=0
 ·rw[if_pos g]at h⊢
  by_cases g1:a<0∨(d.st.length:Int)-16<a
  ·rw[if_pos g1]at h;exact absurd h (by decide)
  ·rw[if_neg g1]at h⊢
   split at h
   ·exact absurd h (by decide)
   ·rename_i g2
    rw[if_neg g2];split
    ·exact⟨by omega,by omega,.inr rfl,rfl⟩
    ·exact⟨by omega,by omega,.inl rfl,rfl⟩
 ·rw[if_neg g]at h;exact absurd h g
def storeE(d:Dsk)(a:Int)(p:List Int):List (Int×Int×List Sec)×Int:=
 if(findE d a).2.2.2.2=0 then
  if 31<p.length then([],5)
  else if topS (sbL d a)=4294967295 then([],11)
  else([(0,a+8-8*(findE d a).2.1,putS (topS (sbL d a)+1) p),(1,0,[])],0)
 else([],(findE d a).2.2.2.2)
theorem rstore_p(d:Dsk)(a:Int)(p:List Int)(hp:p.length≤100000)(hs:d.st.length≤1000000)(h2:d.ca.length≤1000000)(hk:∀s∈newL d.st d.ca,SecOK s):PC 98 [.agg (encD d),zV a,.snap (encL byteRow p)] (.tup [.snap (encL opRow (storeE d a p).1),zV (storeE d a p).2]):=by
 refine pstartD Tryz.func98 Tryz.ntmps98 (by simp only[go_sem]) ?_
 have c1:=rfind_p d a hs h2 hk;have c0:=rcap_p;unfold storeE;by_cases g:(findE d a).2.2.2.2=0
 ·obtain⟨h3,h4,h5,h6⟩:=findE_ok g
  rw[if_pos g];have hk2:∀s∈sbL d a,SecOK s:=fun s hs=>hk s (List.mem_of_mem_drop (List.mem_of_mem_take hs))
  have hT:=topS_in _ hk2;rw[h6,g]at c1;have e0:=newL_len d.ca d.st;have e1:(sbL d a).length=16:=by unfold sbL;rw[List.length_take,List.length_drop];omega
  generalize (findE d a).2.1=N at*;generalize (findE d a).2.2.1=pl at*;generalize (findE d a).2.2.2.1=gn at*;generalize sbL d a=L at*;clear hk h6 g;unfold encD at c1⊢;by_cases g1:31<p.length
  ·rw[if_pos g1]
   have g2:(31:Int)<p.length:=by omega
   refine zgo ?_;exact zfin
  rw[if_neg g1];have g2:¬(31:Int)<p.length:=by omega
  have hg:=gS L;refine zgo ?_;refine zfor (α:=Unit) L.length (fun k _=> [(14,true,zV k),(13,true,.c (.int .u32 (topS (L.take k)))),(9,true,zV N),(8,true,.snap (encL encSec L)),(1,true,zV a),(2,true,.snap (encL byteRow p))]) (fun k _=> []) (fun k m _=>True) ⟨1,(),trivial,?_⟩ (fun k m _ hkk hR=> ?_) (fun m _ hR=> ?_)
  ·exact zholds
  ·have c2:=rgen_p (L.getD k zSec) (hk2 _ (getD_mem' zSec hkk)).1
   have h7:=topS_succ hkk
   have h8:(if genS (L.getD k zSec)>topS (L.take k)then genS (L.getD k zSec)else topS (L.take k))=topS (L.take (k+1)):=by
    rw[←h7];split<;>omega
   clear hk2 h7;refine zgo ?_;exact⟨m,(),trivial,zholds⟩
  ·rw[List.take_length]
   clear hk2;by_cases g3:topS L=4294967295
   ·rw[if_pos g3]
    refine zgo ?_;exact zfin
   rw[if_neg g3];have c3:=rcopy_p (topS L+1) p (by omega)
   have w1:IntKind.u32.wrap (topS L+1)=topS L+1:=by rw[IntKind.wrap_u32];omega
   have w2:IntKind.i64.wrap (a+8)=a+8:=IntWalk.i64_in _ (by omega)
   have w3:IntKind.i64.wrap (8*N)=8*N:=IntWalk.i64_in _ (by omega)
   have w4:IntKind.i64.wrap (a+8-8*N)=a+8-8*N:=IntWalk.i64_in _ (by omega)
   refine zgo ?_;exact zfin
 ·rw[if_neg g]
  unfold encD at c1⊢;refine zgo ?_;exact zfin
end Go.Proofs.YtioafciifiggaaaGreatDoor
namespace Go.Proofs.YtioafciifiggaaaGreatDoor
open Go.Proofs Go.AL
set_option maxRecDepth 100000
set_option maxHeartbeats 1000000
attribute [local irreducible] endA AW aops thenA blockA hold
def insB(d:Dsk)(s n:Int):Bool:=decide (0≤s)&&decide (0≤n)&&decide (n≤(d.st.length:Int))&&decide (s≤(d.st.length:Int)-n)
theorem inside_p(d:Dsk)(s n:Int)(hs:d.st.length≤1000000):PC 171 [.agg (encD d),zV s,zV n] (bV (insB d s n)):=by
 refine pstart Tryz.func171 Tryz.ntmps171 (.c _) ?_;obtain⟨st,ca⟩:=d;unfold encD;simp only[]at hs⊢;by_cases g1:0≤s
 ·by_cases g2:0≤n
  ·by_cases g3:n≤(st.length:Int)
   ·have w1:IntKind.i64.wrap ((st.length:Int)-n)=(st.length:Int)-n:=IntWalk.i64_in _ (by omega)
    by_cases g4:s≤(st.length:Int)-n
    ·have e:insB ⟨st,ca⟩ s n=true:=by unfold insB;rw[dec_leT g1,dec_leT g2,dec_leT g3,dec_leT g4];rfl
     rw[e];refine zgo ?_;exact zfin
    ·have e:insB ⟨st,ca⟩ s n=false:=by unfold insB;rw[dec_leT g1,dec_leT g2,dec_leT g3,dec_leF g4];rfl
     rw[e];refine zgo ?_;exact zfin
   ·have e:insB ⟨st,ca⟩ s n=false:=by unfold insB;rw[dec_leF g3];simp
    rw[e];refine zgo ?_;exact zfin
  ·have e:insB ⟨st,ca⟩ s n=false:=by unfold insB;rw[dec_leF g2];simp
   rw[e];refine zgo ?_;exact zfin
 ·have e:insB ⟨st,ca⟩ s n=false:=by unfold insB;rw[dec_leF g1];simp
  rw[e];refine zgo ?_;exact zfin
theorem dbad_p(d:Dsk)(c:Int×Sec)(hs:d.st.length≤1000000):PC 84 [.agg (encCa c),.sptr [encD d] 0 0] (bV (badC d.st.length c)):=by
 refine pstart Tryz.func84 Tryz.ntmps84 (.c _) ?_;obtain⟨st,ca⟩:=d;obtain⟨x,s⟩:=c;have hx:(encL encCa [(x,s)])[0]? =some (zV x::encSec s):=rfl;unfold encD;simp only[]at hs⊢;by_cases g1:x<0
 ·have e:badC st.length (x,s)=true:=by unfold badC;rw[dec_ltT g1];rfl
  rw[e];refine zgo ?_;exact zfin
 ·by_cases g2:(st.length:Int)≤x
  ·have e:badC st.length (x,s)=true:=by unfold badC;rw[dec_leT g2];simp
   rw[e];refine zgo ?_;exact zfin
  ·have e:badC st.length (x,s)=false:=by unfold badC;rw[dec_ltF g1,dec_leF g2];rfl
   rw[e];refine zgo ?_;exact zfin
end Go.Proofs.YtioafciifiggaaaGreatDoor
namespace Go.Proofs.YtioafciifiggaaaGreatDoor
open Go.Proofs Go.AL
set_option maxRecDepth 100000
set_option maxHeartbeats 1000000
attribute [local irreducible] endA AW aops thenA blockA hold
theorem cloneS_o(l:List Sec)(h:l≠[])(hl:l.length≤1000000):OCall Tryz.prog 128 [.snap (encL encSec l)] 124 8 (encL encSec l):=by
 refine ostart Tryz.func128 Tryz.ntmps128 (by simp only[go_sem]) (encL_ids l) ?_
 have h1:=isEmpty_f h;refine zgo ?_;exact⟨1,by simp only[go_sem],by simp only[go_sem]⟩
theorem cloneS_e(a:Option Addr)(cap:Nat):PC 128 [.c (.slice a 0 cap)] (.snap (encL encSec [])):=by
 refine pstart Tryz.func128 Tryz.ntmps128 (encL_noId _) ?_;cases a with
 |none=>
  refine zgo ?_;simp only[encL_nil];exact zfin
 |some a=>
  refine zgo ?_;simp only[encL_nil];exact zfin
theorem cloneS_p(l:List Sec)(hl:l.length≤1000000):PC 128 [.snap (encL encSec l)] (.snap (encL encSec l)):=by
 by_cases h:l=[]
 ·subst h
  exact PCall.nil (pre:=[]) (post:=[]) cloneS_e
 ·refine pstart Tryz.func128 Tryz.ntmps128 (encL_noId l) ?_
  have h1:=isEmpty_f h;refine zgo ?_;exact zfin
theorem newest_p(d:Dsk)(h2:d.ca.length≤1000000)(h:dskE d=0):PC 172 [.agg (encD d)] (.snap (encL encSec (newL d.st d.ca))):=by
 refine pstart Tryz.func172 Tryz.ntmps172 (encL_noId _) ?_;obtain⟨h0,h3⟩:=dskE_ok h;obtain⟨st,ca⟩:=d;unfold encD;simp only[]at h0 h2 h3⊢;clear h;by_cases g:st=[]
 ·have g2:ca=[]:=by
   cases ca with
   |nil=>rfl
   |cons c ca=>have:=h3 c (by simp);subst g;simp at this;omega
  subst g g2;clear h3;have g3:newL [] []=[]:=rfl;have c1:=cloneS_p [] (Nat.zero_le _);rw[g3];clear g3;refine zgo ?_;refine w_rounds 2 ?_;refine w_round ?_;refine zgo ?_;exact zfin
 ·have hg:=gC ca
  have hx:∀(x:Int) (s:Sec),(encL encCa [(x,s)])[0]? =some (zV x::encSec s):=fun _ _=>rfl
  have hy:∀(x:Int) (s:Sec) (r:List AV),(encL encCa [(x,s)]).set 0 r=[r]:=fun _ _ _=>rfl
  have c1:=cloneS_o st g (by omega)
  refine zgo ?_;refine zfor (α:=Unit) ca.length (fun k _=> [(12,true,zV k),(11,true,zV ca.length),(10,true,.snap (encL encCa ca)),(3,true,.own 1 0 st.length),(1,true,.ptr 0 0 0)]) (fun k _=> [(0,some (.cells 25 2 [[.snap (encL encSec st),.snap (encL encCa ca)]] true false)),(1,some (.cells 124 8 (encL encSec (newL st (ca.take k))) true true))]) (fun k m _=>2≤m) ⟨2,(),Nat.le_refl _,?_⟩ (fun k m _ hk hR=> ?_) (fun m _ hR=> ?_)
  ·have e0:newL st (ca.take 0)=st:=rfl
   rw[e0];exact zholds
  ·obtain⟨h5,h6⟩:=h3 _ (getD_mem' (0,zSec) hk)
   obtain⟨n,hn⟩:=Int.eq_ofNat_of_zero_le h5;have hz:(ca.getD k (0,zSec))=((n:Int),(ca.getD k (0,zSec)).2):=by rw[←hn]
   have h7:=newL_succ (st:=st) hk hn;have h8:n<st.length:=by omega
   have h9:=newL_len (ca.take k) st;have h10:=gS (newL st (ca.take k));clear h3 h5 h6 hz;refine zgo ?_;exact⟨m+1+1+1,(),by omega,zholds⟩
  ·have e0:newL st (ca.take ca.length)=newL st ca:=by rw[List.take_length]
   have e1:=newL_len ca st;have e2:(newL st ca).take st.length=newL st ca:=List.take_of_length_le (by omega)
   rw[e0];clear h3;refine zgo ?_;exact zfin
end Go.Proofs.YtioafciifiggaaaGreatDoor
namespace Go.Proofs.YtioafciifiggaaaGreatDoor
open Go.Proofs Go.AL
set_option maxRecDepth 100000
set_option maxHeartbeats 1000000
attribute [local irreducible] endA AW aops thenA blockA hold
abbrev badF(d:Dsk):AV:= .fn (.func 84) [] [.sptr [encD d] 0 0]
theorem dindex_p(d:Dsk)(hs:d.st.length≤1000000)(hl:d.ca.length≤1000000):PC 160 [.snap (encL encCa d.ca),badF d] (zV (idxZ (d.ca.findIdx? (badC d.st.length)))):=by
 refine pstart Tryz.func160 Tryz.ntmps160 (.c _) ?_;unfold idxZ badF encD;have hg:=gC d.ca;refine zgo ?_;refine zfor (α:=Unit) d.ca.length (fun k _=> [(8,true,zV k),(7,true,zV d.ca.length),(0,true,.snap (encL encCa d.ca)),(1,true,.fn (.func 84) [] [.sptr [[.snap (encL encSec d.st),.snap (encL encCa d.ca)]] 0 0])]) (fun _ _=> []) (fun k m _=>∀i,i<k→badC d.st.length (d.ca.getD i (0,zSec))=false) ⟨0,(),fun i hi=>by omega,zholds⟩ (fun k m _ hk hR=> ?_) (fun m _ hR=> ?_)
 ·have c1:=dbad_p d (d.ca.getD k (0,zSec)) hs
  unfold encCa encD at c1;cases h:badC d.st.length (d.ca.getD k (0,zSec))with
  |true=>
   have hf:d.ca.findIdx? (badC d.st.length)=some k:=by
    rw[List.findIdx?_eq_some_iff_getElem];exact⟨hk,by simpa[hk]using h,fun j hj=>by have:=hR j hj;simp[show j<d.ca.length by omega]at this;simpa using this⟩
   rw[h]at c1;clear hR;refine zgo ?_;exact zfin
  |false=>
   rw[h]at c1
   have hR2:∀i,i<k+1→badC d.st.length (d.ca.getD i (0,zSec))=false:=fun i hi=>by
    by_cases hik:i=k
    ·subst hik;exact h
    ·exact hR i (by omega)
   clear hR;refine zgo ?_;exact⟨m,(),hR2,zholds⟩
 ·have hf:d.ca.findIdx? (badC d.st.length)=none:=by
   rw[List.findIdx?_eq_none_iff];intro x hx;obtain⟨i,hi⟩:=List.mem_iff_getElem?.1 hx;obtain⟨h1,h2⟩:=List.getElem?_eq_some_iff.1 hi;have:=hR i h1;simp[h1,h2]at this;exact this
  clear hR;refine zgo ?_;exact zfin
theorem didx(d:Dsk):decide (0≤idxZ (d.ca.findIdx? (badC d.st.length)))=d.ca.any (badC d.st.length):=by
 cases h:d.ca.findIdx? (badC d.st.length)with
 |none=>
  rw[List.findIdx?_eq_none_iff]at h;simp only[idxZ];symm;simpa using h
 |some i=>
  rw[List.findIdx?_eq_some_iff_getElem]at h;obtain⟨h1,h2,_⟩:=h;simp only[idxZ];have:d.ca.any (badC d.st.length)=true:=List.any_eq_true.2 ⟨_,List.getElem_mem h1,h2⟩;rw[this];simp
theorem dcontains_p(d:Dsk)(hs:d.st.length≤1000000)(hl:d.ca.length≤1000000):PC 83 [.snap (encL encCa d.ca),badF d] (bV (d.ca.any (badC d.st.length))):=by
 refine pstart Tryz.func83 Tryz.ntmps83 (.c _) ?_;have c1:=dindex_p d hs hl;have h1:=didx d;unfold badF encD at c1⊢;refine zgo ?_;exact zfin
end Go.Proofs.YtioafciifiggaaaGreatDoor
namespace Go.Proofs.YtioafciifiggaaaGreatDoor
open Go.Proofs Go.AL
set_option maxRecDepth 100000
set_option maxHeartbeats 1000000
attribute [local irreducible] endA AW aops thenA blockA hold
theorem dcheck_p(d:Dsk)(h1:d.st.length≤1000000)(h2:d.ca.length≤1000000):PC 34 [.agg (encD d)] (zV (dskE d)):=by
 refine pstart Tryz.func34 Tryz.ntmps34 (.c _) ?_;have c1:=dcontains_p d h1 h2;unfold dskE;unfold badF encD at c1;unfold encD;by_cases g1:4096<d.st.length
 ·have g2:(4096:Int)<(d.st.length:Int):=by omega
  clear c1;refine zgo ?_;exact zfin
 have g2:¬(4096:Int)<(d.st.length:Int):=by omega
 rw[if_neg g1];cases h:d.ca.any (badC d.st.length)with
 |true=>
  rw[h]at c1;refine zgo ?_;exact zfin
 |false=>
  rw[h]at c1;refine zgo ?_;exact zfin
end Go.Proofs.YtioafciifiggaaaGreatDoor
namespace Go.Proofs.YtioafciifiggaaaGreatDoor
open Go.Proofs Go.AL
set_option maxRecDepth 100000
set_option maxHeartbeats 1000000
attribute [local irreducible] endA AW aops thenA blockA hold
theorem dread_p(d:Dsk)(s n:Int)(hs:d.st.length≤1000000)(h2:d.ca.length≤1000000):PC 108 [.agg (encD d),.agg [zV s,zV n]] (.tup [.snap (encL encSec (readE d s n).1),zV (readE d s n).2]):=by
 refine pstart Tryz.func108 Tryz.ntmps108 (by simp only[go_sem]) ?_
 have c1:=dcheck_p d hs h2;have c3:=inside_p d s n hs;unfold readE;by_cases g:dskE d=0
 ·have c2:=newest_p d h2 g
  rw[if_pos g];have e0:=newL_len d.ca d.st;rw[g]at c1;clear g;by_cases g1:s<0∨n<0∨(d.st.length:Int)<n∨(d.st.length:Int)-n<s
  ·have e:insB d s n=false:=by
    cases h:insB d s n with
    |false=>rfl
    |true=>
     simp only[insB,Bool.and_eq_true,decide_eq_true_eq]at h;omega
   rw[if_pos g1];rw[e]at c3;unfold encD at c1 c2 c3⊢;clear g1;refine zgo ?_;exact zfin
  ·have e:insB d s n=true:=by
    simp only[insB,Bool.and_eq_true,decide_eq_true_eq];omega
   rw[if_neg g1];rw[e]at c3;unfold encD at c1 c2 c3⊢;obtain⟨S,rfl⟩:=Int.eq_ofNat_of_zero_le (by omega:0≤s)
   obtain⟨N,rfl⟩:=Int.eq_ofNat_of_zero_le (by omega:0≤n)
   have e1:((S:Int)+(N:Int)-(S:Int)).toNat=N:=by omega
   have g2:S+N≤d.st.length:=by omega
   have g3:d.st.length≤1000000:=hs;clear g1;refine zgo ?_;exact zfin
 ·rw[if_neg g]
  unfold encD at c1⊢;refine zgo ?_;exact zfin
end Go.Proofs.YtioafciifiggaaaGreatDoor
namespace Go.Proofs.YtioafciifiggaaaGreatDoor
open Go.Proofs Go.AL
set_option maxRecDepth 100000
set_option maxHeartbeats 1000000
attribute [local irreducible] endA AW aops thenA blockA hold
def bothV(A B:List Int×Int)(l m:List Sec):List AV:=[zV A.2,.snap (encL byteRow A.1),.snap (encL encSec l),zV B.2,.snap (encL byteRow B.1),.snap (encL encSec m)]
def newE(A B:List Int×Int):Int×Int:=if A.2<B.2 then(if B.2=0 then(0,9)else(1,0))else if A.2=0 then(0,9)else(0,0)
theorem find_ok(d:Dsk)(a:Int)(hs:d.st.length≤1000000)(h2:d.ca.length≤1000000)(hk:∀s∈newL d.st d.ca,SecOK s)(h0:dskE d=0)(h3:0≤a)(h4:a≤(d.st.length:Int)-16):PC 161 [.agg (encD d),zV a] (.tup [.agg (bothV (parseS ((sbL d a).take 8)) (parseS ((sbL d a).drop 8)) ((sbL d a).take 8) ((sbL d a).drop 8)),zV (newE (parseS ((sbL d a).take 8)) (parseS ((sbL d a).drop 8))).1,zV (newE (parseS ((sbL d a).take 8)) (parseS ((sbL d a).drop 8))).2]):=by
 refine pstart Tryz.func161 Tryz.ntmps161 (by simp only[go_sem,bothV]) ?_
 have c2:=dread_p d a 16 hs h2;unfold readE at c2;rw[if_pos h0,if_neg (by omega)]at c2
 have e0:=newL_len d.ca d.st;have e1:(sbL d a).length=16:=by unfold sbL;rw[List.length_take,List.length_drop];omega
 have c2':PC 108 [.agg (encD d),.agg [zV a,zV 16]] (.tup [.snap (encL encSec (sbL d a)),zV 0]):=c2;have hk2:∀s∈sbL d a,SecOK s:=fun s hs=>hk s (List.mem_of_mem_drop (List.mem_of_mem_take hs))
 clear c2 hk h0;unfold encD at c2'⊢;generalize sbL d a=L at*;have c3:=get_p (L.take 8) (by rw[List.length_take];omega) fun s hs=>hk2 s (List.mem_of_mem_take hs)
 have c4:=get_p (L.drop 8) (by rw[List.length_drop];omega) fun s hs=>hk2 s (List.mem_of_mem_drop hs)
 have e2:(L.drop 8).take 8=L.drop 8:=List.take_of_length_le (by rw[List.length_drop];omega)
 clear hk2;generalize parseS (L.take 8)=A at*;generalize parseS (L.drop 8)=B at*;obtain⟨pa,ga⟩:=A;obtain⟨pb,gb⟩:=B;unfold copyV at c3 c4;unfold bothV newE;simp only[]at c3 c4⊢;by_cases g5:ga<gb
 ·rw[if_pos g5]
  by_cases g6:gb=0
  ·rw[if_pos g6]
   refine zgo ?_;exact zfin
  ·rw[if_neg g6]
   refine zgo ?_;exact zfin
 ·rw[if_neg g5]
  by_cases g6:ga=0
  ·rw[if_pos g6]
   refine zgo ?_;exact zfin
  ·rw[if_neg g6]
   refine zgo ?_;exact zfin
end Go.Proofs.YtioafciifiggaaaGreatDoor
