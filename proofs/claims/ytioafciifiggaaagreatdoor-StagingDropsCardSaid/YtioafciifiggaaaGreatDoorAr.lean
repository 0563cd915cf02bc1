/- Staging: contracts of its functions (Ar). No condition but those named. -/
import Derived.Test.YtioafciifiggaaaGreatDoorAq
set_option linter.unusedVariables false
set_option linter.unusedSimpArgs false
namespace Go.Proofs.YtioafciifiggaaaGreatDoor
open Go.Proofs Go.AL
set_option maxRecDepth 100000
set_option maxHeartbeats 1000000
attribute [local irreducible] endA AW aops thenA blockA hold
attribute [local irreducible] numG
def oes(own:List Int):List (Value×AV):=own.map fun n=>(.int .i64 n,bV true)
theorem oes_keys(own:List Int):keysB (.int .i64) (oes own)=true:=by
 unfold keysB oes;rw[List.all_eq_true];intro p hp;obtain⟨n,_,rfl⟩:=List.mem_map.1 hp;rfl
theorem oes_in:∀{own:List Int} {n:Int},n∈own→lookM (.int .i64 n) (oes own)=some (bV true)
 |m::own,n,h=>by
  simp only[oes,List.map_cons,lookM];by_cases he:m=n
  ·subst he
   rw[if_pos (by simp[sameK])]
  ·rw[if_neg (by simp[sameK,he])]
   rcases List.mem_cons.1 h with h|h
   ·exact absurd h.symm he
   ·exact oes_in h
theorem oes_same{own:List Int}{n:Int}(h:n∉own):∀p∈oes own,sameK p.1 (.int .i64 n)=false:=fun p hp=>by
 obtain⟨m,hm,rfl⟩:=List.mem_map.1 hp;have:m≠n:=fun e=>h (e▸hm)
 simp[sameK,this]
theorem oes_out{own:List Int}{n:Int}(h:n∉own):lookM (.int .i64 n) (oes own)=none:=lookM_none (oes_same h)
theorem oes_put{own:List Int}{n:Int}(h:n∉own):putM (.int .i64 n) (bV true) (oes own)=oes (own++[n]):=by
 rw[putM_none (oes_same h)];simp[oes]
def prevS(l:List Stg):Nat→Option Int
 |0=>none
 |k+1=>some (l.getD k zStg).number
theorem corS_rec{j:Jr}{x:Stg}(h:corS j x=true):recG (j.first-1) (jN j) x.records=true:=by
 unfold corS at h;split at h
 ·split at h
  ·exact absurd h (by decide)
  ·split at h
   ·exact absurd h (by decide)
   ·split at h
    ·rename_i g;exact g
    ·exact absurd h (by decide)
 ·exact absurd h (by decide)
theorem nodup_take{r:List Int}(h:r.Nodup){q:Nat}(hq:q<r.length):r.getD q 0∉r.take q:=fun hm=>by
 obtain⟨i,hi,he⟩:=List.mem_iff_getElem.1 hm;rw[List.length_take]at hi;rw[List.getElem_take]at he;have h1:r.getD q 0=r[q]:=by simp[hq]
 rw[h1]at he;exact List.pairwise_iff_getElem.1 h i q (by omega) hq (by omega) he
theorem stchk_p(s:Stag)(hs:StagLen s):PC 21 [.agg (encSt s)] (zV (stgE s)):=by
 refine pstart Tryz.func21 Tryz.ntmps21 (.c _) ?_;have c1:=jchk_p s.j hs.sizes;obtain⟨M,hM⟩:∃M,stgE s=M:=⟨_,rfl⟩;rw[hM];unfold stgE at hM;obtain⟨j,l⟩:=s;have hl:=hs.cycles;have hone:=hs.one;have hjl:=hs.sizes;simp only[]at*;have hencJ:encJ j=[zV j.start,zV j.count,zV j.head,zV j.tail,zV j.first,.snap (encL intRow j.sizes)]:=rfl
 rw[hencJ]at c1;unfold encSt;simp only[];by_cases g1:jE j=0
 case neg=>
  rw[if_neg g1]at hM;subst hM;clear hone hencJ;generalize jE j=e at*;refine zgo ?_;exact zfin
 rw[if_pos g1]at hM;rw[g1]at c1;by_cases g2:1024<l.length
 ·rw[if_pos g2]at hM
  subst hM;have g2':(1024:Int)<l.length:=by omega
  clear hone hencJ g1;refine zgo ?_;exact zfin
 rw[if_neg g2]at hM;have g2':¬(1024:Int)<l.length:=by omega
 have hg:=gSt l;have hcor:∀k,k<l.length→PC 55 [.agg (encJ j),.agg (stgRow (l.getD k zStg))] (bV (corS j (l.getD k zStg))):=fun k hk=>bcor_p j _ g1 hjl (hone _ (getD_mem' zStg hk))
 rw[hencJ]at hcor;clear g2 g1 hencJ hs;refine zgo ?_;refine zfor (α:=List Int) l.length (fun k own=> [(23,true,zV k),(22,true,zV l.length),(21,true,.snap (encL stgRow l)),(4,true,.omap 1),(1,true,.ptr 0 0 0)]) (fun k own=> [(0,some (.cells 33 7 [[zV j.start,zV j.count,zV j.head,zV j.tail,zV j.first,.snap (encL intRow j.sizes),.snap (encL stgRow l)]] true false)),(1,some (.map (oes own)))]) (fun k m own=>2≤m∧stG j (prevS l k) own (l.drop k)=stG j none [] l) ⟨100,[],⟨by omega,rfl⟩,zholds⟩ (fun k m own hk hR=> ?_) (fun m own hR=> ?_)
 ·obtain⟨hm,hR⟩:=hR
  rw[drop_at zStg hk,stG_cons]at hR;have hF:stG j none [] l=false→M=3:=fun h=>by rw[if_neg (by rw[h];decide)]at hM;exact hM.symm
  have hgk:=hg k hk;have ck:=hcor k hk;have hrl:=(hone _ (getD_mem' zStg hk)).records;have hrec:= @corS_rec j (l.getD k zStg);have hps:prevS l (k+1)=some (l.getD k zStg).number:=rfl;rw[stgRow_eq]at ck hgk;by_cases g3:corS j (l.getD k zStg)=true
  case neg=>
   rw[if_neg g3]at hR;obtain rfl:=hF hR.symm;have g3':corS j (l.getD k zStg)=false:=by simpa using g3
   rw[g3']at ck;clear hR hF hM hg hcor hone hrec hrl hps;generalize l.getD k zStg=x at*;refine zgo2 ?_;exact zfin
  rw[if_pos g3]at hR;have hnd:=recG_nodup _ _ _ (hrec g3);rw[g3]at ck;clear hrec hM hcor hone g3;cases k with
  |zero=>
   have hp0:prevS l 0=none:=rfl;rw[hp0]at hR;rw[if_neg (by simp)]at hR
   clear hp0;clear hg;have hps:=Lat.mk hps;generalize l.getD 0 zStg=x at*;obtain⟨xn,xp,xs,xh,xe,r,xc⟩:=x;simp only[]at*;have hgr:=gI r;have hF:=Lat.mk hF;have hR:=Lat.mk hR;have hnd:=Lat.mk hnd;refine zgo2 ?_;refine zfor (α:=Unit) r.length (fun q _=> [(52,true,zV q),(51,true,zV r.length),(50,true,.snap (encL intRow r)),(23,true,zV 0),(22,true,zV l.length),(21,true,.snap (encL stgRow l)),(4,true,.omap 1),(1,true,.ptr 0 0 0)]) (fun q _=> [(0,some (.cells 33 7 [[zV j.start,zV j.count,zV j.head,zV j.tail,zV j.first,.snap (encL intRow j.sizes),.snap (encL stgRow l)]] true false)),(1,some (.map (oes (own++r.take q))))]) (fun q m' _=>2≤m'∧∀i,i<q→r.getD i 0∉own) ⟨m+200,(),⟨by omega,fun i hi=>absurd hi (by omega)⟩,zholds⟩ (fun q m' _ hq hR2=> ?_) (fun m' _ hR2=> ?_)
   ·obtain⟨hm',hR2⟩:=hR2
    have hgq:=hgr q hq;have htk:=take_snoc9 0 hq;rw[htk,←List.append_assoc];clear htk hgr hgk ck;obtain⟨v,hv⟩:∃v,r.getD q 0=v:=⟨_,rfl⟩;rw[hv]at hgq⊢;by_cases g5:v∈own
    ·have hR:=hR.out
     rw[if_pos (List.any_eq_true.2 ⟨v,by rw[←hv];exact getD_mem' 0 hq,by simpa using g5⟩)]at hR
     obtain rfl:=hF.out hR.symm;have hin:=oes_in (own:=own++r.take q) (List.mem_append_left _ g5);have h3:=oes_keys (own++r.take q);unfold keysB isKeyB at h3;have hkk:(IntKind.i64==IntKind.i64)=true:=rfl;clear hR hF hR2 hps hnd g5 hv;refine zgo2 ?_;exact zfin
    ·have hni:v∉own++r.take q:=fun h=>by
      rcases List.mem_append.1 h with h|h
      ·exact g5 h
      ·rw[←hv]at h
       exact nodup_take hnd.out hq h
     have h1:=oes_out hni;have h2:=oes_put hni;have h3:=oes_keys (own++r.take q);unfold keysB isKeyB at h3;have hkk:(IntKind.i64==IntKind.i64)=true:=rfl
     have hR3:Lat (∀i,i<q+1→r.getD i 0∉own):=⟨fun i hi=>by
      rcases Nat.lt_or_ge i q with h4|h4
      ·exact hR2 i h4
      ·rw[show i=q by omega,hv];exact g5⟩
     clear hni g5 hR2 hv;generalize own++r.take q=O at*;refine zgo2 ?_;exact⟨m'+20,(),⟨by omega,hR3.out⟩,zholds⟩
   ·obtain⟨hm',hR2⟩:=hR2
    rw[List.take_length];have hR:=hR.out
    rw[if_neg (fun h=>by
     obtain⟨v,h1,h2⟩:=List.any_eq_true.1 h;obtain⟨i,h3,rfl⟩:=List.mem_iff_getElem.1 h1
     exact hR2 i h3 (by simpa[h3]using h2))]at hR
    have hR:=Lat.mk hR;clear hgr hR2 hnd hF;refine zgo2 ?_;exact⟨m'+20,own++r,⟨by omega,by rw[hps.out];exact hR.out⟩,zholds⟩
  |succ p0=>
   have hgp:=hg p0 (by omega)
   rw[stgRow_eq]at hgp;have w1:IntKind.i64.wrap ((p0:Int)+1-1)=p0:=by rw[IntWalk.i64_in _ (by omega)];omega
   have w2:(0:Int)<(p0:Int)+1:=by omega
   have w3:IntKind.i64.wrap (((p0+1:Nat):Int)-1)=p0:=by rw[IntWalk.i64_in _ (by omega)];omega
   have w4:(0:Int)<((p0+1:Nat):Int):=by omega
   have w5:p0<l.length:=by omega
   have hpp:prevS l (p0+1)=some (l.getD p0 zStg).number:=rfl;rw[hpp]at hR;generalize l.getD p0 zStg=y at*;by_cases g4:(l.getD (p0+1) zStg).number≤y.number
   ·rw[if_pos (by simpa using g4)]at hR
    obtain rfl:=hF hR.symm;clear hR hF hg hrl hps hpp hnd;generalize l.getD (p0+1) zStg=x at*;refine zgo2 ?_;exact zfin
   rw[if_neg (by simpa using g4)]at hR
   clear hpp;clear hg;have hps:=Lat.mk hps;generalize l.getD (p0+1) zStg=x at*;obtain⟨xn,xp,xs,xh,xe,r,xc⟩:=x;simp only[]at*;have hgr:=gI r;have hF:=Lat.mk hF;have hR:=Lat.mk hR;have hnd:=Lat.mk hnd;refine zgo2 ?_;refine zfor (α:=Unit) r.length (fun q _=> [(52,true,zV q),(51,true,zV r.length),(50,true,.snap (encL intRow r)),(23,true,zV (p0+1)),(22,true,zV l.length),(21,true,.snap (encL stgRow l)),(4,true,.omap 1),(1,true,.ptr 0 0 0)]) (fun q _=> [(0,some (.cells 33 7 [[zV j.start,zV j.count,zV j.head,zV j.tail,zV j.first,.snap (encL intRow j.sizes),.snap (encL stgRow l)]] true false)),(1,some (.map (oes (own++r.take q))))]) (fun q m' _=>2≤m'∧∀i,i<q→r.getD i 0∉own) ⟨m+200,(),⟨by omega,fun i hi=>absurd hi (by omega)⟩,zholds⟩ (fun q m' _ hq hR2=> ?_) (fun m' _ hR2=> ?_)
   ·obtain⟨hm',hR2⟩:=hR2
    have hgq:=hgr q hq;have htk:=take_snoc9 0 hq;rw[htk,←List.append_assoc];clear htk hgr hgk ck;obtain⟨v,hv⟩:∃v,r.getD q 0=v:=⟨_,rfl⟩;rw[hv]at hgq⊢;by_cases g5:v∈own
    ·have hR:=hR.out
     rw[if_pos (List.any_eq_true.2 ⟨v,by rw[←hv];exact getD_mem' 0 hq,by simpa using g5⟩)]at hR
     obtain rfl:=hF.out hR.symm;have hin:=oes_in (own:=own++r.take q) (List.mem_append_left _ g5);have h3:=oes_keys (own++r.take q);unfold keysB isKeyB at h3;have hkk:(IntKind.i64==IntKind.i64)=true:=rfl;clear hR hF hR2 hps hnd g5 hv;refine zgo2 ?_;exact zfin
    ·have hni:v∉own++r.take q:=fun h=>by
      rcases List.mem_append.1 h with h|h
      ·exact g5 h
      ·rw[←hv]at h
       exact nodup_take hnd.out hq h
     have h1:=oes_out hni;have h2:=oes_put hni;have h3:=oes_keys (own++r.take q);unfold keysB isKeyB at h3;have hkk:(IntKind.i64==IntKind.i64)=true:=rfl
     have hR3:Lat (∀i,i<q+1→r.getD i 0∉own):=⟨fun i hi=>by
      rcases Nat.lt_or_ge i q with h4|h4
      ·exact hR2 i h4
      ·rw[show i=q by omega,hv];exact g5⟩
     clear hni g5 hR2 hv;generalize own++r.take q=O at*;refine zgo2 ?_;exact⟨m'+20,(),⟨by omega,hR3.out⟩,zholds⟩
   ·obtain⟨hm',hR2⟩:=hR2
    rw[List.take_length];have hR:=hR.out
    rw[if_neg (fun h=>by
     obtain⟨v,h1,h2⟩:=List.any_eq_true.1 h;obtain⟨i,h3,rfl⟩:=List.mem_iff_getElem.1 h1
     exact hR2 i h3 (by simpa[h3]using h2))]at hR
    have hR:=Lat.mk hR;clear hgr hR2 hnd hF;refine zgo2 ?_;exact⟨m'+20,own++r,⟨by omega,by rw[hps.out];exact hR.out⟩,zholds⟩
 ·obtain⟨hm,hR⟩:=hR
  rw[List.drop_length]at hR;have hR1:stG j none [] l=true:=by rw[←hR];rfl
  rw[if_pos hR1]at hM;subst hM;clear hR hR1 hone hcor hg;refine zgo ?_;exact zfin
end Go.Proofs.YtioafciifiggaaaGreatDoor
namespace Go.Proofs.YtioafciifiggaaaGreatDoor
open Go.Proofs Go.AL
set_option maxRecDepth 100000
set_option maxHeartbeats 4000000
attribute [local irreducible] endA AW aops thenA blockA hold
attribute [local irreducible] numG
theorem all_of{e:List Bool}(h:∀i,i<e.length→e.getD i false=true):e.all id=true:=by
 rw[List.all_eq_true];intro b hb;obtain⟨i,hi,rfl⟩:=List.mem_iff_getElem.1 hb;have:=h i hi;simpa[hi]using this
theorem not_all{e:List Bool}{i:Nat}(hi:i<e.length)(h:e.getD i false=false):¬e.all id=true:=fun ha=>by
 rw[List.all_eq_true]at ha;have h1:=ha (e.getD i false) (getD_mem' false hi);rw[h]at h1;exact absurd h1 (by decide)
theorem qcyc_p(a:Asm)(hA:AsmLen a):PC 123 [.agg (encA a)] (.tup [.agg (encC (acyE a).1),zV (acyE a).2]):=by
 refine pstart Tryz.func123 Tryz.ntmps123 (by simp only[go_sem,encC]) ?_
 have c1:=qchk_p a (by have:=hA.have_;omega) (by have:=hA.seen;omega) (fun x hx=>by have:=(hA.one x hx).1;omega)
 have hfo:=flat_ok fun x hx=>(hA.one x hx).2
 have hfl:=sumL_flat a.have_;have h0:=hA.all;have c4:=rsum4_p a.have_.flatten hfo (by omega)
 have c5:=rdecode_p a.have_.flatten hfo (by omega)
 have hcr:=crc_rng a.have_.flatten;have h3:=asmE_3 (a:=a);have hok:=asmE_ok (a:=a);have hzc:encC zCyc=[zV 0,zV 0,zV 0,.snap (encL intRow []),.snap (encL opRow [])]:=rfl;have hhl:=hA.have_;have hsl:=hA.seen;obtain⟨M,hM⟩:∃M,acyE a=M:=⟨_,rfl⟩;rw[hM];unfold acyE at hM;clear hA hfo;obtain⟨n,p,s,h,e⟩:=a;unfold encA at*;simp only[]at*;generalize asmE ⟨n,p,s,h,e⟩=ae at*;by_cases g1:ae=0
 case neg=>
  rw[if_neg g1]at hM;subst hM;have h3:=h3 g1;subst h3;clear c4 c5;refine zgo ?_;exact zfin
 obtain⟨-,-,-,-,-,-,o7,o8,-⟩:=hok g1;rw[if_pos g1]at hM;subst g1;clear h3 hok;have o9:h.length=e.length:=by omega
 subst o7;have hge:=gBl e;have hgh:∀k,k<h.length→(encL byteL h)[k]? =some [.snap (encL byteRow (h.getD k []))]:=fun k hk=>encL_get (f:=byteL) [] hk
 have hst:=fun k=>sumL_take h k
 refine zgo ?_;refine zfor (α:=Unit) h.length (fun k _=> [(5,true,zV k),(4,true,.c (.slice none 0 0)),(2,true,.ptr 1 0 0),(1,true,.ptr 0 0 0)]) (fun _ _=> [(0,some (.cells 161 5 [[zV n,zV h.length,zV s,.snap (encL byteL h),.snap (encL boolRow e)]] true false)),(1,some (.cells 79 5 [[zV 0,zV 0,zV 0,.c (.slice none 0 0),.c (.slice none 0 0)]] true false))]) (fun k m _=>2≤m∧∀i,i<k→e.getD i false=true) ⟨100,(),⟨by omega,fun i hi=>absurd hi (by omega)⟩,zholds⟩ (fun k m _ hk hR=> ?_) (fun m _ hR=> ?_)
 ·obtain⟨hm,hR⟩:=hR
  have hgk:=hge k (by omega)
  have hna:=not_all (e:=e) (i:=k) (by omega)
  generalize hb:e.getD k false=b at*;clear c1 c4 c5 hcr hge hgh hst;cases b with
  |true=>
   have hR2:Lat (∀i,i<k+1→e.getD i false=true):=⟨fun i hi=>by
    rcases Nat.lt_or_ge i k with h1|h1
    ·exact hR i h1
    ·rw[show i=k by omega];exact hb⟩
   clear hR hb hna;refine zgo ?_;exact⟨m+20,(),⟨by omega,hR2.out⟩,zholds⟩
  |false=>
   rw[if_neg (hna rfl)]at hM;subst hM;clear hR hb hna;refine zgo ?_;exact zfin
 ·obtain⟨hm,hR⟩:=hR
  rw[if_pos (all_of fun i hi=>hR i (by omega))]at hM
  clear hR hge c1;have hlk:∀k,(h.take k).flatten.length≤h.flatten.length:=fun k=>by rw[sumL_flat,sumL_flat];exact hst k
  refine zgo ?_;refine zfor (α:=Nat) h.length (fun k id=> [(6,true,zV k),(4,true,oV1 (h.take k).flatten.length id),(2,true,.ptr 1 0 0),(1,true,.ptr 0 0 0)]) (fun k id=>(0,some (.cells 161 5 [[zV n,zV h.length,zV s,.snap (encL byteL h),.snap (encL boolRow e)]] true false))::(1,some (.cells 79 5 [[zV 0,zV 0,zV 0,.c (.slice none 0 0),.c (.slice none 0 0)]] true false))::oT1 5 1 (encL byteRow (h.take k).flatten) (h.take k).flatten.length id) (fun k m id=>(2≤m∧(h.take k).flatten.length≤65536)∧(0<(h.take k).flatten.length→2≤id∧id<m)) ⟨m,0,⟨⟨by omega,by simp⟩,fun h=>absurd h (by simp)⟩,zholds⟩ (fun k m id hk hR=> ?_) (fun m id hR=> ?_)
  ·obtain⟨⟨hm,hR⟩,hid⟩:=hR
   have k1:=hgh k hk;have k2:=flat_snoc h hk;have k3:=hlk (k+1);have hM2:65536<h.flatten.length→M=(zCyc,5):=fun h=>by rw[if_pos h]at hM;exact hM.symm
   clear hM hgh hst hlk c4 c5 hcr;rw[k2]at k3⊢;rw[List.length_append]at k3;clear k2;generalize (h.take k).flatten=F at*;generalize h.getD k []=x at*;by_cases hF:F=[]
   ·subst hF
    clear hid hR;rw[List.nil_append]at*;cases x with
    |nil=>
     refine zgo ?_;exact⟨m+20,0,⟨⟨by omega,by simp⟩,fun h=>absurd h (by simp)⟩,zholds⟩
    |cons y x=>
     have k4:x.length≤99999:=by rw[List.length_cons,List.length_nil]at k3;omega
     rw[List.length_cons]at k3;by_cases g5:65536<(y::x).length
     ·obtain rfl:=hM2 (by rw[List.length_cons]at g5;rw[List.length_nil]at k3;omega)
      have g5':(65536:Int)<(y::x).length:=by omega
      clear hM2;refine zgo ?_;exact zfin
     ·have g5':¬(65536:Int)<(y::x).length:=by omega
      clear hM2;refine zgo ?_;exact⟨m+20,m,⟨⟨by omega,by omega⟩,fun h=>by omega⟩,zholds⟩
   ·obtain⟨q,hq⟩:∃q,F.length=q+1:=⟨F.length-1,by have:=List.length_pos_iff.2 hF;omega⟩
    obtain⟨i1,i2⟩:=hid (by omega)
    rw[hq]at k3;have hFx:(F++x).length=q+1+x.length:=by rw[List.length_append,hq]
    by_cases g5:65536<(F++x).length
    ·obtain rfl:=hM2 (by omega)
     have g5':(65536:Int)<((q+1+x.length:Nat):Int):=by omega
     clear hM2 hF hFx;refine zgo ?_;exact zfin
    ·have g5':¬(65536:Int)<((q+1+x.length:Nat):Int):=by omega
     clear hM2 hF;have hq2:q+1+x.length=(q+x.length)+1:=by omega
     rw[hFx]at g5;rw[hFx,hq2];clear hFx;refine zgo ?_;exact⟨m+20,m,⟨⟨by omega,by omega⟩,fun h=>by omega⟩,zholds⟩
  ·rw[List.take_length]at hR⊢
   obtain⟨⟨hm,hR⟩,hid⟩:=hR;rw[if_neg (by omega)]at hM
   clear hlk hst hgh;generalize h.flatten=F at*;have w1:IntKind.i64.wrap (crc F)=crc F:=IntWalk.i64_in _ (by omega)
   by_cases hF:F=[]
   ·subst hF
    clear hid hfl h0;simp only[List.length_nil]at*;have c4:=PCall.less c4 (wks_mid (xs:=[]) (ys:=[]));have c5:=PCall.less c5 (wks_mid (xs:=[]) (ys:=[]));simp only[List.nil_append]at c4 c5;by_cases g4:crc ([]:List Int)=s
    ·rw[if_pos g4]at hM
     subst g4;generalize decE ([]:List Int)=D at*;obtain⟨⟨cb,cn,ct,cp,cw⟩,de⟩:=D;unfold encC at c5;simp only[]at*;by_cases g5:de=0
     ·rw[if_pos g5]at hM
      subst g5;by_cases g6:cn=n
      ·rw[if_pos g6]at hM
       subst hM g6;unfold encC;refine zgo2 ?_;exact zfin
      ·rw[if_neg g6]at hM
       subst hM;refine zgo2 ?_;exact zfin
     ·rw[if_neg g5]at hM
      subst hM;refine zgo2 ?_;exact zfin
    ·rw[if_neg g4]at hM
     subst hM;clear c5;refine zgo2 ?_;exact zfin
   ·obtain⟨q,hq⟩:∃q,F.length=q+1:=⟨F.length-1,by have:=List.length_pos_iff.2 hF;omega⟩
    obtain⟨i1,i2⟩:=hid (by omega)
    have htk:F.take (q+1)=F:=List.take_of_length_le (by omega)
    rw[hq];by_cases g4:crc F=s
    ·rw[if_pos g4]at hM
     subst g4;generalize decE F=D at*;obtain⟨⟨cb,cn,ct,cp,cw⟩,de⟩:=D;unfold encC at c5;simp only[]at*;by_cases g5:de=0
     ·rw[if_pos g5]at hM
      subst g5;by_cases g6:cn=n
      ·rw[if_pos g6]at hM
       subst hM g6;unfold encC;refine zgo2 ?_;refine zdrawX ?_;refine zgo2 ?_;exact zfin
      ·rw[if_neg g6]at hM
       subst hM;refine zgo2 ?_;refine zdrawX ?_;refine zgo2 ?_;exact zfin
     ·rw[if_neg g5]at hM
      subst hM;refine zgo2 ?_;refine zdrawX ?_;refine zgo2 ?_;exact zfin
    ·rw[if_neg g4]at hM
     subst hM;clear c5;refine zgo2 ?_;refine zdrawX ?_;refine zgo2 ?_;exact zfin
end Go.Proofs.YtioafciifiggaaaGreatDoor
