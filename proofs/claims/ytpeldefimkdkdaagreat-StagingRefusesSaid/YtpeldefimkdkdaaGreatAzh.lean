/- Staging: contracts of its functions (Azh). No condition but those named. -/
import Derived.Test.YtpeldefimkdkdaaGreatAzg
set_option linter.unusedVariables false
set_option linter.unusedSimpArgs false
namespace Go.Proofs.YtpeldefimkdkdaaGreat
open Go.Proofs Go.AL
set_option maxRecDepth 100000
set_option maxHeartbeats 1000000
attribute [local irreducible] endA AW aops thenA blockA hold
structure ArOK(s:Stag)(t:Nat):Prop where
 ok:stgE s=0
 len:StagLen s
 start:s.j.start=0
 count:s.j.count=1200
 first:s.j.first=1
 n:s.j.sizes.length≤t
 sz:s.j.sizes.sum≤22*(t:Int)
theorem jN_eq{j:Jr}(h:jE j=0):jN j=j.first+j.sizes.length:=by unfold jN;rw[if_pos h]
theorem strG_len(k:Int)(p:List Int):(strG k p).length=p.length+7:=by
 unfold strG strW;simp only[List.length_append,List.length_cons,litB_len];omega
theorem recE_ok{k s:Int}{p:List Int}(hk:1≤k∧k≤255)(hs:1≤s∧s≤4294967295)(hp:p.length≤79):(recE k s p).2=0∧2≤(recE k s p).1.length∧(recE k s p).1.length≤22:=by
 unfold recE;rw[if_neg (by omega),if_neg (by omega)]
 refine⟨rfl,?_,?_⟩
 ·rw[List.length_map,List.length_range,strG_len]
  unfold nParts;omega
 ·rw[List.length_map,List.length_range,strG_len]
  unfold nParts;omega
theorem jE_intro{j:Jr}(h1:validB j.start j.count=true)(h2:0≤j.head)(h3:j.head<j.count-16)(h4:1≤j.first)(h5:j.first+(j.sizes.length:Int)≤1073741824)(h6:j.tail=(j.head+j.sizes.sum) % (j.count-16))(h7:j.sizes.sum≤j.count-16)(h8:j.sizes.any badJz=false):jE j=0:=by
 have h9:=(sum_len _ (any_f h8)).1;unfold jE;rw[if_neg,if_neg (by rw[h8];decide),if_neg (by omega)]
 rw[h1];simp only[Bool.true_eq_false,false_or];omega
theorem appE_ok{s:Stag}{t:Nat}(h:ArOK s t)(ht:t≤52){k:Int}(hk:1≤k∧k≤255){p:List Int}(hp:p.length≤79):
  (appE s.j k p).2.2=0∧(appE s.j k p).2.1≠[]∧jE (appE s.j k p).1=0∧(appE s.j k p).1.start=0∧(appE s.j k p).1.count=1200∧(appE s.j k p).1.first=1∧(appE s.j k p).1.sizes.length=s.j.sizes.length+1∧(appE s.j k p).1.sizes.sum≤22*((t+1:Nat):Int):=by
 obtain⟨hj,-,-⟩:=stgE_G h.ok;have hn:=jN_eq hj;obtain⟨j1,j2,j3,j4,j5,j6,j7,j8⟩:=jE_ok hj;have a1:=h.start;have a2:=h.count;have a3:=h.first
 have a4:=h.n;have a5:=h.sz;obtain⟨r1,r2,r3⟩:=recE_ok hk (s:=jN s.j) (by omega) hp
 unfold appE;rw[if_pos hj,if_pos r1,if_neg (by omega),if_neg (by omega)]
 refine⟨rfl,by simp,jE_intro j1 j2 j3 j4 ?_ ?_ ?_ ?_,a1,a2,a3,?_,?_⟩
 ·simp only[List.length_append,List.length_cons,List.length_nil]
  omega
 ·simp only[List.sum_append,List.sum_cons,List.sum_nil]
  rw[j6,a2,Int.add_zero,←Int.add_assoc,Int.emod_add_emod]
 ·simp only[List.sum_append,List.sum_cons,List.sum_nil]
  omega
 ·rw[List.any_append,j8]
  simp only[List.any_cons,List.any_nil,badJz,Bool.false_or,Bool.or_false,Bool.or_eq_false_iff,decide_eq_false_iff_not];omega
 ·simp
 ·simp only[List.sum_append,List.sum_cons,List.sum_nil]
  omega
structure NewS(s:Stag)(x:Stg):Prop where
 asm:asmE (asm x)=0
 seen:seenN x≠0
 closed:x.closed=true→(acyE (Go.Proofs.YtpeldefimkdkdaaGreat.asm x)).2=0
 recs:x.records=(match getS s.cycles x.number with|some y=>y.records|none=> [])++[jN s.j]
 need:x.records.length=needN x
 len:StgLen x
theorem addedE_ok{s:Stag}{t:Nat}(h:ArOK s t)(ht:t≤52){k:Int}(hk:1≤k∧k≤255){p:List Int}(hp:p.length≤79){x:Stg}(hx:NewS s x)(hc:s.cycles.length≤1000):
  ∃o,o≠[]∧addedE s k p x=(⟨(appE s.j k p).1,putSt s.cycles x⟩,o,0)∧ArOK ⟨(appE s.j k p).1,putSt s.cycles x⟩ (t+1):=by
 obtain⟨e1,e2,e3,e4,e5,e6,e7,e8⟩:=appE_ok h ht hk hp;obtain⟨hj,-,hst⟩:=stgE_G h.ok;have hn:=jN_eq hj;have hn2:=jN_eq e3;have a3:=h.first
 rw[e6,e7]at hn2;have hpw:PW s.cycles:=(stG_pair s.j _ _ _ hst).1;have hcor:=stG_cor s.j _ _ _ hst;obtain⟨hdj,-⟩:=stG_disj s.j _ _ _ hst;have hrec:∀y∈s.cycles,recG (s.j.first-1) (jN s.j) y.records=true:=fun y hy=>corS_rec (hcor y hy)
 have hlt:∀y∈s.cycles,∀n∈y.records,n<jN s.j:=fun y hy n hn=>(recG_mem _ _ _ (hrec y hy) n hn).2
 have hxr:recG ((appE s.j k p).1.first-1) (jN (appE s.j k p).1) x.records=true:=by
  have h1:jN (appE s.j k p).1=jN s.j+1:=by omega
  have h2:(appE s.j k p).1.first-1=s.j.first-1:=by omega
  rw[h1,h2,hx.recs];cases hg:getS s.cycles x.number with
  |some y=>exact recG_snoc _ _ _ (by omega) (hrec y (getS_mem hg).1)
  |none=>exact recG_snoc [] (s.j.first-1) (jN s.j) (by omega) rfl
 have hxc:corS (appE s.j k p).1 x=true:=by
  unfold corS;rw[if_pos hx.asm,if_neg hx.seen,if_neg (fun hh=>hh.2 (hx.closed hh.1)),if_pos hxr]
  exact decide_eq_true hx.need
 refine⟨(appE s.j k p).2.1,e2,by unfold addedE;rw[if_pos e1],⟨?_,?_,e4,e5,e6,?_,e8⟩⟩
 ·have h9:=putSt_len s.cycles x
  unfold stgE;rw[if_pos e3,if_neg (by simp only[];omega),if_pos]
  refine stG_intro _ _ _ _ (fun y hy=> ?_) (putSt_pw hpw x) (fun n hn=>by simp at hn) (fun a ha b hb hab n hna hnb=> ?_) (fun y hy n hn=>by simp)
  ·rcases putSt_new hpw hy with h1|⟨h1,-⟩
   ·rw[h1];exact hxc
   ·exact corS_mono (by rw[e6,a3]) (by simp only[];omega) (hcor y h1)
  ·--a number of a record stands in one cycle alone
   have key:∀c∈s.cycles,c.number≠x.number→∀n∈c.records,n∉x.records:=fun c hc hcx n hn hm=>by
    rw[hx.recs]at hm;rcases List.mem_append.1 hm with h1|h1
    ·cases hg:getS s.cycles x.number with
     |some y=>
      rw[hg]at h1;obtain⟨g1,g2⟩:=getS_mem hg;exact hdj c hc y g1 (by omega) n hn h1
     |none=>
      rw[hg]at h1;simp at h1
    ·have:=hlt c hc n hn
     simp at h1;omega
   rcases putSt_new hpw ha with h1|⟨h1,g1⟩
   ·rcases putSt_new hpw hb with h2|⟨h2,g2⟩
    ·rw[h1,h2]at hab;exact hab rfl
    ·rw[h1]at hna
     exact key b h2 g2 n hnb hna
   ·rcases putSt_new hpw hb with h2|⟨h2,g2⟩
    ·rw[h2]at hnb
     exact key a h1 g1 n hna hnb
    ·exact hdj a h1 b h2 hab n hna hnb
 ·refine⟨?_,?_,fun y hy=> ?_⟩
  ·have:=h.n
   simp only[];omega
  ·have:=putSt_len s.cycles x
   simp only[];omega
  ·rcases putSt_mem hy with h1|h1
   ·rw[h1];exact hx.len
   ·exact h.len.one y h1
 ·have:=h.n
  simp only[];omega
end Go.Proofs.YtpeldefimkdkdaaGreat
namespace Go.Proofs.YtpeldefimkdkdaaGreat
open Go.Proofs Go.AL
set_option maxRecDepth 100000
set_option maxHeartbeats 1000000
attribute [local irreducible] endA AW aops thenA blockA hold
structure CQ(c:Cyc)(most:Nat):Prop where
 cp:CP c most
 m:most≤67
 n:npt c most≤127
 b:∀x∈(encE c).1,ByteOK x
theorem pcN_ok{c:Cyc}{most i:Nat}(h:CQ c most):∀x∈pcN c most i,ByteOK x:=fun x hx=>h.b x (List.mem_of_mem_drop (List.mem_of_mem_take hx))
theorem ptN_ok{c:Cyc}{most i:Nat}(h:CQ c most):∀x∈ptN c most i,ByteOK x:=fun x hx=>by
 unfold ptN parW at hx;simp only[List.mem_append]at hx;rcases hx with(((hx|hx)|hx)|hx)|hx
 ·exact vint_ok _ x hx
 ·exact vint_ok _ x hx
 ·exact vint_ok _ x hx
 ·exact vint_ok _ x hx
 ·exact pcN_ok h x hx
theorem pA_L{c:Cyc}{most:Nat}{S:List Bool}(h:CQ c most)(hS:S.length=npt c most):AsmLen (pA c most S):=by
 have h1:=h.n;have h2:=h.m;have hl:=pA_len c most S
 have h3:∀x∈(pA c most S).have_,x.length≤67∧∀y∈x,ByteOK y:=fun x hx=>by
  unfold pA at hx;simp only[List.mem_map,List.mem_range]at hx;obtain⟨i,hi,rfl⟩:=hx;split
  ·have:=pcN_len h.cp hi
   exact⟨by omega,pcN_ok h⟩
  ·exact⟨by simp,fun y hy=>by simp at hy⟩
 have h4:=sumL_le (n:=67) (pA c most S).have_ (fun x hx=>(h3 x hx).1)
 refine⟨by omega,by show S.length≤100000;omega,fun x hx=>⟨by have:=(h3 x hx).1;omega,(h3 x hx).2⟩,?_⟩
 rw[hl]at h4;omega
structure Ar2(s:Stag)(t:Nat):Prop where
 ar:ArOK s t
 cyc:s.cycles.length≤t
 opn:∀y∈s.cycles,y.closed=false
structure Hv(s:Stag)(c:Cyc)(most:Nat)(S:List Bool):Prop where
 len:S.length=npt c most
 at_:∀y,getS s.cycles c.number=some y→asm y=pA c most S∧y.closed=false
 no:getS s.cycles c.number=none→S=noS c most
theorem getS_some{l:List Stg}{n:Int}{y:Stg}(h:getS l n=some y):fndB l n=true∧l.getD (fndI l n) zStg=y:=by
 unfold getS at h;split at h
 ·rename_i g
  injection h with h
  exact⟨g,h⟩
 ·cases h
theorem getS_no{l:List Stg}{n:Int}(h:getS l n=none):¬fndB l n=true:=fun g=>by
 unfold getS at h;rw[if_pos g]at h;cases h
theorem ar_pw{s:Stag}{t:Nat}(h:ArOK s t):PW s.cycles:=(stG_pair s.j _ _ _ (stgE_G h.ok).2.2).1
theorem ar_need{s:Stag}{t:Nat}(h:ArOK s t){y:Stg}(hy:y∈s.cycles):y.records.length=needN y:=by
 have h1:=stG_cor s.j _ _ _ (stgE_G h.ok).2.2 y hy;unfold corS at h1;split at h1
 ·split at h1
  ·exact absurd h1 (by decide)
  ·split at h1
   ·exact absurd h1 (by decide)
   ·split at h1
    ·simpa using h1
    ·exact absurd h1 (by decide)
 ·exact absurd h1 (by decide)
theorem noS_count(c:Cyc)(most:Nat):((noS c most).filter id).length=0:=by
 unfold noS;rw[List.filter_replicate];simp
theorem noS_get(c:Cyc)(most i:Nat):(noS c most).getD i false=false:=by
 unfold noS;rw[List.getD_eq_getElem?_getD,List.getElem?_replicate];split<;>rfl
theorem add_part{s:Stag}{t:Nat}(A:Ar2 s t)(ht:t≤52){c:Cyc}{most:Nat}(hc:CQ c most){S:List Bool}(H:Hv s c most S){i:Nat}(hi:i<npt c most):
  ∃s' o,addS s (ptN c most i)=(s',o,0)∧(o=[]↔S.getD i false=true)∧Ar2 s' (t+1)∧Hv s' c most (S.set i true)∧(∀n,n≠c.number→getS s'.cycles n=getS s.cycles n):=by
 have hpw:=ar_pw A.ar;have hpl:=ptN_len hc.cp hi hc.n;have hp:=parE_pt hc.cp hi;have hm:=hc.m;have hlen:=A.cyc;have hS:(S.set i true).length=npt c most:=by rw[List.length_set];exact H.len
 have hdone:∀x:Stg,x.number=c.number→asm x=pA c most (S.set i true)→x.closed=false→NewS s x→∃o,o≠[]∧addedE s 1 (ptN c most i) x=(⟨(appE s.j 1 (ptN c most i)).1,putSt s.cycles x⟩,o,0)∧Ar2 ⟨(appE s.j 1 (ptN c most i)).1,putSt s.cycles x⟩ (t+1)∧Hv ⟨(appE s.j 1 (ptN c most i)).1,putSt s.cycles x⟩ c most (S.set i true)∧(∀n,n≠c.number→getS (putSt s.cycles x) n=getS s.cycles n):=fun x hxn hxa hxc hx=>by
  obtain⟨o,ho,e1,e2⟩:=addedE_ok A.ar ht (k:=1) (by omega) (p:=ptN c most i) (by omega) hx (by omega)
  have h1:=putSt_len s.cycles x;have h2:=getS_put hpw x;rw[hxn]at h2;refine⟨o,ho,e1,⟨e2,by simp only[];omega,fun y hy=> ?_⟩,⟨hS,fun y hy=> ?_,fun hno=> ?_⟩,fun n hn=>getS_other hpw (by omega)⟩
  ·rcases putSt_mem hy with h|h
   ·rw[h];exact hxc
   ·exact A.opn y h
  ·simp only[]at hy
   rw[h2]at hy;injection hy with hy
   subst hy;exact⟨hxa,hxc⟩
  ·simp only[]at hno
   rw[h2]at hno;cases hno
 unfold addS;rw[if_pos A.ar.ok,hp];simp only[if_true];cases hg:getS s.cycles c.number with
 |none=>
  have hS0:=H.no hg;rw[if_neg (getS_no hg),if_neg (by omega),begE_pt hc.cp hi]
  simp only[];have hgi:S.getD i false=false:=by rw[hS0];exact noS_get c most i
  have hcnt:((S.set i true).filter id).length=1:=by rw[seen_set S i (by rw[H.len];exact hi) hgi,hS0,noS_count]
  rw[←hS0]
  obtain⟨o,ho,e1,e2,e3,e4⟩:=hdone (stgOf (pA c most (S.set i true)) [jN s.j] false) rfl rfl rfl ⟨asmE_pA hc.cp hS,by show((S.set i true).filter id).length≠0;omega,fun h=>by simp[stgOf]at h,by
   show _=(match getS s.cycles c.number with|some y=>y.records|none=> [])++[jN s.j]
   rw[hg]
   rfl,by show 1=((S.set i true).filter id).length;omega,⟨pA_L hc hS,by simp[stgOf]⟩⟩
  exact⟨_,o,e1,⟨fun h=>absurd h ho,fun h=>by rw[hgi]at h;cases h⟩,e2,e3,e4⟩
 |some y=>
  obtain⟨h1,h2⟩:=getS_some hg;obtain⟨h3,h4⟩:=H.at_ y hg;obtain⟨hy,hyn⟩:=getS_mem hg;rw[if_pos h1,h2,h3,addE_pt hc.cp H.len hi];simp only[if_true];by_cases g:S.getD i false=true
  ·have h5:=seen_same S i g
   rw[h5,if_pos rfl];exact⟨s,[],rfl,⟨fun _=>g,fun _=>rfl⟩,⟨⟨A.ar.ok,A.ar.len,A.ar.start,A.ar.count,A.ar.first,by have:=A.ar.n;omega,by have:=A.ar.sz;omega⟩,by have:=A.cyc;omega,A.opn⟩,by rw[←h5]at H;rw[h5]at H;exact H,fun n _=>rfl⟩
  ·have gf:S.getD i false=false:=by simpa using g
   have hcnt:=seen_set S i (by rw[H.len];exact hi) gf
   have hne:¬pA c most (S.set i true)=pA c most S:=fun h=>by
    have h6:S.set i true=S:=congrArg Asm.seen h;rw[h6]at hcnt;omega
   rw[if_neg hne,h4];have hneed:=ar_need A.ar hy;have hsy:y.seen=S:=congrArg Asm.seen h3
   have hny:needN y=(S.filter id).length:=by
    unfold needN seenN;rw[h4,hsy];rfl
   have hyr:=(A.ar.len.one y hy).records;have hle:=List.length_filter_le id S;have hq:=hc.n;have hl:=H.len
   obtain⟨o,ho,e1,e2,e3,e4⟩:=hdone (stgOf (pA c most (S.set i true)) (y.records++[jN s.j]) false) rfl rfl rfl ⟨asmE_pA hc.cp hS,by show((S.set i true).filter id).length≠0;omega,fun h=>by simp[stgOf]at h,by
    show _=(match getS s.cycles c.number with|some y=>y.records|none=> [])++[jN s.j]
    rw[hg];rfl,by
    show(y.records++[jN s.j]).length=((S.set i true).filter id).length
    rw[List.length_append,hneed,hny,hcnt]
    rfl,⟨pA_L hc hS,by
    show(y.records++[jN s.j]).length≤100000
    rw[List.length_append,hneed,hny];simp only[List.length_cons,List.length_nil]
    omega⟩⟩
   exact⟨_,o,e1,⟨fun h=>absurd h ho,fun h=>absurd h g⟩,e2,e3,e4⟩
theorem seal_part{s:Stag}{t:Nat}(A:Ar2 s t)(ht:t≤52){c:Cyc}{most:Nat}(hc:CQ c most){S:List Bool}(H:Hv s c most S):
  (S.all id=false→(sealS s c.number).2.2=15∨(sealS s c.number).2.2=7)∧
  (S.all id=true→∃o,(sealS s c.number).2=(o,0)∧(stcE s c.number).2=12∧ArOK (sealS s c.number).1 (t+1)∧stcE (sealS s c.number).1 c.number=(c,0)∧seaE (sealS s c.number).1=[c.number]):=by
 have hpw:=ar_pw A.ar;have hlen:=A.cyc;have hnum:=hc.cp.num;have hnp:=hc.cp.npt;unfold sealS;rw[if_pos A.ar.ok];cases hg:getS s.cycles c.number with
 |none=>
  rw[if_neg (getS_no hg)];refine⟨fun _=> .inr rfl,fun h=> ?_⟩
  have:=H.no hg;rw[this]at h;have h2:=List.all_eq_true.1 h ((noS c most).getD 0 false) (getD_mem' false (by unfold noS;rw[List.length_replicate];omega))
  rw[noS_get]at h2;exact absurd h2 (by decide)
 |some y=>
  obtain⟨h1,h2⟩:=getS_some hg;obtain⟨h3,h4⟩:=H.at_ y hg;obtain⟨hy,hyn⟩:=getS_mem hg;have hac:=acyE_pA hc.cp H.len;rw[if_pos h1,h2,h4,h3,hac];simp only[Bool.false_eq_true,if_false];refine⟨fun h=> ?_,fun h=> ?_⟩
  ·rw[h]
   exact .inl rfl
  ·rw[if_pos h]at hac⊢
   simp only[if_true];have hneed:=ar_need A.ar hy;have hsy:y.seen=S:=congrArg Asm.seen h3
   have hny:needN y=(S.filter id).length:=by
    unfold needN seenN;rw[h4,hsy];rfl
   have hle:=List.length_filter_le id S;have hq:=hc.n;have hl:=H.len
   have hall:(S.filter id).length=S.length:=by
    rw[List.filter_eq_self.2 (fun b hb=>List.all_eq_true.1 h b hb)]
   have v1:=vint_len5 (n:=c.number) (by omega)
   have hx:NewS s (stgOf (pA c most S) (y.records++[jN s.j]) true):=⟨asmE_pA hc.cp H.len,by show(S.filter id).length≠0;omega,fun _=>by show(acyE (pA c most S)).2=0;rw[hac],by
    show _=(match getS s.cycles c.number with|some y=>y.records|none=> [])++[jN s.j]
    rw[hg];rfl,by
    show(y.records++[jN s.j]).length=(S.filter id).length+1
    rw[List.length_append,hneed,hny]
    rfl,⟨pA_L hc H.len,by
    show(y.records++[jN s.j]).length≤100000
    rw[List.length_append,hneed,hny];simp only[List.length_cons,List.length_nil]
    omega⟩⟩
   obtain⟨o,-,e1,e2⟩:=addedE_ok A.ar ht (k:=2) (by omega) (p:=vint c.number) (by omega) hx (by omega)
   rw[e1];have hgp:=getS_put hpw (stgOf (pA c most S) (y.records++[jN s.j]) true);have hxn:(stgOf (pA c most S) (y.records++[jN s.j]) true).number=c.number:=rfl;obtain⟨q1,q2⟩:=getS_some hgp;rw[hxn]at q1 q2;refine⟨o,rfl,?_,e2,?_,?_⟩
   ·unfold stcE
    rw[if_pos A.ar.ok,if_pos h1,h2,h4];rfl
   ·unfold stcE
    rw[if_pos e2.ok,if_pos q1,q2,if_pos (by rfl)]
    exact hac
   ·unfold seaE
    rw[if_pos e2.ok]
    have hput:putSt s.cycles (stgOf (pA c most S) (y.records++[jN s.j]) true)=s.cycles.set (fndI s.cycles c.number) (stgOf (pA c most S) (y.records++[jN s.j]) true):=by
     unfold putSt;rw[hxn,if_pos h1]
    simp only[];rw[hput,List.set_eq_take_append_cons_drop,if_pos (fndB_lt h1).1,List.filter_append,List.filter_cons_of_pos (by rfl)]
    have f1:(s.cycles.take (fndI s.cycles c.number)).filter Stg.closed=[]:=List.filter_eq_nil_iff.2 fun z hz=>by rw[A.opn z (List.mem_of_mem_take hz)];decide
    have f2:(s.cycles.drop (fndI s.cycles c.number+1)).filter Stg.closed=[]:=List.filter_eq_nil_iff.2 fun z hz=>by rw[A.opn z (List.mem_of_mem_drop hz)];decide
    rw[f1,f2];rfl
end Go.Proofs.YtpeldefimkdkdaaGreat
namespace Go.Proofs.YtpeldefimkdkdaaGreat
open Go.Proofs Go.AL
set_option maxRecDepth 100000
set_option maxHeartbeats 1000000
attribute [local irreducible] endA AW aops thenA blockA hold
structure CyB(c:Cyc):Prop where
 pos:c.pos.length≤9223372036854775807
 wr:c.writes.length≤9223372036854775807
 one:∀w∈c.writes,w.2.2.length≤9223372036854775807
 b:∀w∈c.writes,∀x∈w.2.2,∀y∈secB x,ByteOK y
def fewC(c:Cyc):Bool:=decide (c.pos.length≤40)&&fewW c.writes
theorem few_out{c:Cyc}(h:fewC c=true):c.pos.length≤40∧c.writes.length≤40∧∀w∈c.writes,w.2.2.length≤24:=by
 unfold fewC fewW at h;simp only[Bool.and_eq_true,decide_eq_true_eq,Bool.not_eq_true',List.any_eq_false]at h;obtain⟨h1,h2,h3⟩:=h;refine⟨h1,h3,fun w hw=> ?_⟩
 have h4:=h2 w (by rw[List.take_of_length_le (by omega)];exact hw)
 simp[bigW]at h4;omega
theorem vint_len8(n:Int):(vint n).length≤8:=by
 refine vg_len 7 _ ?_;unfold clampN;split<;>omega
theorem flatMap_le{α:Type}{f:α→List Int}{k:Nat}:∀(l:List α),(∀x∈l,(f x).length≤k)→(l.flatMap f).length≤l.length*k
 |[],_=>by simp
 |x::l,h=>by
  have h1:=flatMap_le l fun y hy=>h y (by simp[hy])
  have h2:=h x (by simp)
  rw[List.flatMap_cons,List.length_append,List.length_cons,Nat.succ_mul];omega
theorem manyW_le{α:Type}{f:α→List Int}{k:Nat}(l:List α)(h:∀x∈l,(f x).length≤k):(manyW f l).length≤8+l.length*k:=by
 have h1:=flatMap_le l h;have h2:=vint_len8 l.length;unfold manyW;rw[List.length_append];omega
theorem manyW_ok{α:Type}{f:α→List Int}(l:List α)(h:∀x∈l,∀y∈f x,ByteOK y):∀y∈manyW f l,ByteOK y:=fun y hy=>by
 unfold manyW at hy;rcases List.mem_append.1 hy with hy|hy
 ·exact vint_ok _ y hy
 ·obtain⟨x,hx,hy⟩:=List.mem_flatMap.1 hy
  exact h x hx y hy
theorem wrtW_le{w:Wrt}(h:w.2.2.length≤24):(wrtW w).length≤216:=by
 have h1:=vint_len8 w.1;have h2:=vint_len8 w.2.1;have h3:=manyW_le (f:=secB) (k:=8) w.2.2 (fun x _=>by simp[secB])
 unfold wrtW;simp only[List.length_append];omega
theorem cycW_le{c:Cyc}(h:fewC c=true):(cycW c).length≤10000:=by
 obtain⟨h1,h2,h3⟩:=few_out h;have h4:=manyW_le (f:=vint) (k:=8) c.pos (fun x _=>vint_len8 x)
 have h5:=manyW_le (f:=wrtW) (k:=216) c.writes (fun x hx=>wrtW_le (h3 x hx))
 have h6:=vint_len8 c.base;have h7:=vint_len8 c.number;have h8:=vint_len8 c.time;unfold cycW;simp only[List.length_append];have:c.writes.length*216≤40*216:=Nat.mul_le_mul_right 216 h2;omega
theorem cycW_ok{c:Cyc}(h:CyB c):∀x∈cycW c,ByteOK x:=fun x hx=>by
 unfold cycW at hx;simp only[List.mem_append]at hx;rcases hx with(((hx|hx)|hx)|hx)|hx
 ·exact vint_ok _ x hx
 ·exact vint_ok _ x hx
 ·exact vint_ok _ x hx
 ·exact manyW_ok c.pos (fun y _=>vint_ok y) x hx
 ·refine manyW_ok c.writes (fun w hw y hy=> ?_) x hx
  unfold wrtW at hy;simp only[List.mem_append]at hy;rcases hy with(hy|hy)|hy
  ·exact vint_ok _ y hy
  ·exact vint_ok _ y hy
  ·exact manyW_ok w.2.2 (fun s hs=>h.b w hw s hs) y hy
theorem few_len{c:Cyc}(h:fewC c=true):CycLen c:=by
 obtain⟨h1,h2,h3⟩:=few_out h;exact⟨by omega,by omega,fun w hw=>by have:=h3 w hw;omega⟩
theorem few_split{c:Cyc}(hb:CyB c)(h:fewC c=true)(most:Int):PC 24 [.agg (encC c),zV most] (.tup [.snap (encL byteL (splE c most).1),zV (splE c most).2]):=by
 obtain⟨h1,h2,h3⟩:=few_out h;have h4:=cycW_le h;exact split_p c most (few_len h) (by omega) (by omega) (fun x hx=>by have:=h3 x hx;omega) (by omega) (cycW_ok hb)
theorem enc_ok{c:Cyc}(hb:CyB c):∀x∈(encE c).1,ByteOK x:=by
 have h:=cycW_ok hb;unfold encE;split
 ·split
  ·exact fun x hx=>by simp at hx
  ·exact h
 ·exact fun x hx=>by simp at hx
theorem split_cq{c:Cyc}(hb:CyB c){most:Nat}(h1:1≤most)(h2:most≤67)(he:(splE c (most:Int)).2=0)(hn:(splE c (most:Int)).1.length≤127):CQ c most∧(splE c (most:Int)).1=(List.range (npt c most)).map (ptN c most):=by
 have h0:(encE c).2=0:=by
  unfold splE at he;split at he
  ·assumption
  ·exact he
 have hc:CP c most:=⟨h0,h1,by omega⟩
 have h3:=splE_pt hc;rw[h3]at hn;simp only[List.length_map,List.length_range]at hn;exact⟨⟨hc,h2,hn,enc_ok hb⟩,by rw[h3]⟩
theorem smB(n:Int):CyB (smC n):=by
 refine⟨by simp[smC],by simp[smC],fun w hw=> ?_,fun w hw x hx y hy=> ?_⟩
 ·simp[smC]at hw
  subst hw;simp
 ·simp[smC]at hw
  subst hw;simp at hx;subst hx;simp[secB]at hy;unfold ByteOK;omega
theorem smF(n:Int):fewC (smC n)=true:=by
 unfold fewC fewW smC;simp[bigW]
theorem sm_len(n:Int)(h:n≤100000):(cycW (smC n)).length≤60:=by
 have h4:=manyW_le (f:=vint) (k:=8) (smC n).pos (fun x _=>vint_len8 x)
 have h1:=vint_len8 (smC n).base;have h2:=vint_len8 (smC n).number;have h3:=vint_len8 (smC n).time;have h5:(smC n).pos.length=0:=rfl
 have h6:(manyW wrtW (smC n).writes).length=12:=by
  simp[manyW,wrtW,smC,secB,vint,clampN,vg]
 unfold cycW;simp only[List.length_append];omega
def aR0:Stag:=⟨⟨0,1200,0,0,1,[]⟩,[]⟩
theorem fR0:(sfmE 0 1200).1=aR0∧(sfmE 0 1200).2.2=0:=⟨by kernel_rfl,by kernel_rfl⟩
theorem ar0:Ar2 aR0 0:=⟨⟨by decide,lenSt_ok (by kernel_rfl),rfl,rfl,rfl,by decide,by decide⟩,by decide,fun y hy=>by simp[aR0]at hy⟩
theorem hv0(c:Cyc)(most:Nat):Hv aR0 c most (noS c most):=⟨by simp[noS],fun y hy=>(by cases hy),fun _=>rfl⟩
end Go.Proofs.YtpeldefimkdkdaaGreat
