/- Staging: contracts of its functions (Ak). No condition but those named. -/
import Derived.Test.YtpeldefimkdkdaaGreatAj
set_option linter.unusedVariables false
set_option linter.unusedSimpArgs false
namespace Go.Proofs.YtpeldefimkdkdaaGreat
open Go.Proofs Go.AL
set_option maxRecDepth 100000
set_option maxHeartbeats 1000000
attribute [local irreducible] endA AW aops thenA blockA hold
attribute [local irreducible] numG
theorem qparse_p(b:List Int)(hb:∀x∈b,ByteOK x)(hl:b.length≤100000):PC 29 [.snap (encL byteRow b)] (.tup [.agg [zV (parE b).1.number,zV (parE b).1.index,zV (parE b).1.parts,zV (parE b).1.sum,.snap (encL byteRow (parE b).1.piece)],zV (parE b).2]):=by
 refine pstart Tryz.func29 Tryz.ntmps29 (by simp only[go_sem]) ?_
 have c1:=rint_p b hb hl;have k1:=intE_ok hb;have c2:=rint_p (intE b).2.1 k1.1 (by omega)
 have k2:=intE_ok k1.1;have c3:=rint_p (intE (intE b).2.1).2.1 k2.1 (by omega)
 have k3:=intE_ok k2.1;have c4:=rint_p (intE (intE (intE b).2.1).2.1).2.1 k3.1 (by omega)
 have k4:=intE_ok k3.1;obtain⟨M,hM⟩:∃M,parE b=M:=⟨_,rfl⟩;rw[hM];rw[parE_eq]at hM;generalize intE (intE (intE (intE b).2.1).2.1).2.1=V at*;generalize intE (intE (intE b).2.1).2.1=Z at*;generalize intE (intE b).2.1=Y at*;generalize intE b=X at*;obtain⟨x,xr,xe⟩:=X;obtain⟨y,yr,ye⟩:=Y;obtain⟨z,zr,ze⟩:=Z;obtain⟨v,vr,ve⟩:=V;unfold parG at hM;simp only[]at*;have q4:vr.length≤100000:=by omega
 clear k1 k2 k3 k4 hb;by_cases g1:xe=0
 ·subst g1
  rw[if_pos rfl]at hM;by_cases g2:ye=0
  ·subst g2
   rw[if_pos rfl]at hM;by_cases g3:ze=0
   ·subst g3
    rw[if_pos rfl]at hM;by_cases g4:ve=0
    ·subst g4
     rw[if_pos rfl]at hM;by_cases g:x<1
     ·rw[if_pos (.inl g)]at hM
      subst hM;unfold zPrt;refine zgo2 ?_;refine w_rounds 5 ?_;refine w_round ?_;refine zgo2 ?_;exact zfin
     have g10:¬(x<1):=g;clear g;by_cases g:1073741824<x
     ·rw[if_pos (.inr (.inl g))]at hM
      subst hM;unfold zPrt;refine zgo2 ?_;refine w_rounds 5 ?_;refine w_round ?_;refine zgo2 ?_;exact zfin
     have g11:¬(1073741824<x):=g;clear g;by_cases g:z≤y
     ·rw[if_pos (.inr (.inr (.inl g)))]at hM
      subst hM;unfold zPrt;refine zgo2 ?_;refine w_rounds 5 ?_;refine w_round ?_;refine zgo2 ?_;exact zfin
     have g12:¬(z≤y):=g;clear g;by_cases g:65536<z
     ·rw[if_pos (.inr (.inr (.inr (.inl g))))]at hM
      subst hM;unfold zPrt;refine zgo2 ?_;refine w_rounds 5 ?_;refine w_round ?_;refine zgo2 ?_;exact zfin
     have g13:¬(65536<z):=g;clear g;by_cases g:4294967295<v
     ·rw[if_pos (.inr (.inr (.inr (.inr (.inl g)))))]at hM
      subst hM;unfold zPrt;refine zgo2 ?_;refine w_rounds 5 ?_;refine w_round ?_;refine zgo2 ?_;exact zfin
     have g14:¬(4294967295<v):=g;clear g;by_cases g6:vr=[]
     ·rw[if_pos (.inr (.inr (.inr (.inr (.inr (.inl g6))))))]at hM
      subst hM g6;unfold zPrt;refine zgo2 ?_;refine w_rounds 5 ?_;refine w_round ?_;refine zgo2 ?_;exact zfin
     have g6':¬(vr.length:Int)<1:=by have:=List.length_pos_iff.2 g6;omega
     by_cases g7:4096<vr.length
     ·rw[if_pos (.inr (.inr (.inr (.inr (.inr (.inr g7))))))]at hM
      subst hM;have g7':(4096:Int)<vr.length:=by omega
      unfold zPrt;refine zgo2 ?_;refine w_rounds 5 ?_;refine w_round ?_;refine zgo2 ?_;exact zfin
     have g7':¬(4096:Int)<vr.length:=by omega
     rw[if_neg (by
      rintro(h|h|h|h|h|h|h)
      ·exact g10 h
      ·exact g11 h
      ·exact g12 h
      ·exact g13 h
      ·exact g14 h
      ·exact g6 h
      ·exact g7 h)]at hM
     subst hM;refine zgo2 ?_;refine w_rounds 5 ?_;refine w_round ?_;refine zgo2 ?_;exact zfin
    ·rw[if_neg g4]at hM
     subst hM;unfold zPrt;refine zgo ?_;refine w_rounds 5 ?_;refine w_round ?_;refine zgo ?_;exact zfin
   ·rw[if_neg g3]at hM
    subst hM;clear c4;unfold zPrt;refine zgo ?_;refine w_rounds 5 ?_;refine w_round ?_;refine zgo ?_;exact zfin
  ·rw[if_neg g2]at hM
   subst hM;clear c4 c3;unfold zPrt;refine zgo ?_;refine w_rounds 5 ?_;refine w_round ?_;refine zgo ?_;exact zfin
 ·rw[if_neg g1]at hM
  subst hM;clear c4 c3 c2;unfold zPrt;refine zgo ?_;refine w_rounds 5 ?_;refine w_round ?_;refine zgo ?_;exact zfin
theorem qheader_p(b:List Int)(hb:∀x∈b,ByteOK x)(hl:b.length≤100000):PC 52 [.snap (encL byteRow b)] (.tup [zV (parE b).1.number,zV (parE b).1.index,zV (parE b).1.parts,zV (parE b).2]):=by
 refine pstart Tryz.func52 Tryz.ntmps52 (by simp only[go_sem]) ?_
 have c1:=qparse_p b hb hl;clear hb;refine zgo ?_;exact zfin
end Go.Proofs.YtpeldefimkdkdaaGreat
namespace Go.Proofs.YtpeldefimkdkdaaGreat
open Go.Proofs Go.AL
set_option maxRecDepth 100000
set_option maxHeartbeats 1000000
attribute [local irreducible] endA AW aops thenA blockA hold
attribute [local irreducible] numG
instance :RowEnc byteL 1:=⟨fun _=>rfl,fun _=>rfl,fun l x hx=>by
 simp only[byteL,List.mem_cons,List.not_mem_nil,or_false]at hx;subst hx
 exact encL_noId l⟩
@[go_sem] theorem beqTT:(true==true)=true:=rfl
@[go_sem] theorem beqTF:(true==false)=false:=rfl
@[go_sem] theorem beqFT:(false==true)=false:=rfl
@[go_sem] theorem beqFF:(false==false)=true:=rfl
@[go_sem] theorem notT9:(!true)=false:=rfl
@[go_sem] theorem notF9:(!false)=true:=rfl
theorem gHv(l:List (List Int))(k:Nat)(h:k<l.length):(encL byteL l)[k]? =some (byteL (l.getD k [])):=encL_get [] h
theorem gBl(l:List Bool)(k:Nat)(h:k<l.length):(encL boolRow l)[k]? =some (boolRow (l.getD k false)):=encL_get false h
theorem bchk_p(a:Asm)(hl:a.have_.length≤1000000)(hl2:a.seen.length≤1000000)(hl3:∀x∈a.have_,x.length≤1000000):PC 78 [.agg (encA a)] (zV (asmE a)):=by
 refine pstart Tryz.func78 Tryz.ntmps78 (.c _) ?_;obtain⟨n,p,s,h,e⟩:=a;have hE:asmE ⟨n,p,s,h,e⟩=if n<1∨1073741824<n∨p<1∨65536<p∨s<0∨4294967295<s∨(h.length:Int)≠p∨(e.length:Int)≠p then 3 else if(List.range h.length).all (pieceOK ⟨n,p,s,h,e⟩)=true then 0 else 3:=rfl
 have hp:∀i,pieceOK ⟨n,p,s,h,e⟩ i=((decide (0<(h.getD i []).length)==e.getD i false)&&decide ((h.getD i []).length≤4096)):=fun i=>rfl
 generalize asmE ⟨n,p,s,h,e⟩=M at*;generalize pieceOK ⟨n,p,s,h,e⟩=q at*;unfold encA;simp only[]at*;by_cases g:n<1
 ·rw[if_pos (.inl g)]at hE
  subst hE;clear hl3 hp;refine zgo ?_;exact zfin
 have g1:¬(n<1):=g;clear g;by_cases g:1073741824<n
 ·rw[if_pos (.inr (.inl g))]at hE
  subst hE;clear hl3 hp;refine zgo ?_;exact zfin
 have g2:¬(1073741824<n):=g;clear g;by_cases g:p<1
 ·rw[if_pos (.inr (.inr (.inl g)))]at hE
  subst hE;clear hl3 hp;refine zgo ?_;exact zfin
 have g3:¬(p<1):=g;clear g;by_cases g:65536<p
 ·rw[if_pos (.inr (.inr (.inr (.inl g))))]at hE
  subst hE;clear hl3 hp;refine zgo ?_;exact zfin
 have g4:¬(65536<p):=g;clear g;by_cases g:s<0
 ·rw[if_pos (.inr (.inr (.inr (.inr (.inl g)))))]at hE
  subst hE;clear hl3 hp;refine zgo ?_;exact zfin
 have g5:¬(s<0):=g;clear g;by_cases g:4294967295<s
 ·rw[if_pos (.inr (.inr (.inr (.inr (.inr (.inl g))))))]at hE
  subst hE;clear hl3 hp;refine zgo ?_;exact zfin
 have g6:¬(4294967295<s):=g;clear g;by_cases g:(h.length:Int)≠p
 ·rw[if_pos (.inr (.inr (.inr (.inr (.inr (.inr (.inl g)))))))]at hE
  subst hE;clear hl3 hp;refine zgo ?_;exact zfin
 have g7:¬((h.length:Int)≠p):=g;clear g;by_cases g:(e.length:Int)≠p
 ·rw[if_pos (.inr (.inr (.inr (.inr (.inr (.inr (.inr g)))))))]at hE
  subst hE;clear hl3 hp;refine zgo ?_;exact zfin
 have g8:¬((e.length:Int)≠p):=g;clear g
 rw[if_neg (by
  rintro(h|h|h|h|h|h|h|h)
  ·exact g1 h
  ·exact g2 h
  ·exact g3 h
  ·exact g4 h
  ·exact g5 h
  ·exact g6 h
  ·exact g7 h
  ·exact g8 h)]at hE
 have g7':(h.length:Int)=p:=Classical.not_not.1 g7;have g8':(e.length:Int)=p:=Classical.not_not.1 g8;clear g7 g8;subst g7';have hgh:=gHv h;have hge:=gBl e;refine zgo ?_;refine zfor (α:=Unit) h.length (fun k _=> [(52,true,zV k),(51,true,zV h.length),(50,true,.snap (encL byteL h)),(1,true,.ptr 0 0 0)]) (fun _ _=> [(0,some (.cells 79 5 [[zV n,zV h.length,zV s,.snap (encL byteL h),.snap (encL boolRow e)]] true false))]) (fun k m _=>1≤m∧∀i,i<k→q i=true) ⟨100,(),⟨by omega,fun i hi=>by omega⟩,zholds⟩ (fun k m _ hk hR=> ?_) (fun m _ hR=> ?_)
 ·obtain⟨hm,hR⟩:=hR
  have k1:(encL byteL h)[k]? =some [.snap (encL byteRow (h.getD k []))]:=hgh k hk;have k2:(encL boolRow e)[k]? =some [bV (e.getD k false)]:=hge k (by omega)
  have k3:=hl3 _ (getD_mem' [] hk);have hpk:=hp k
  have hR2:Lat (q k=true→∀i,i<k+1→q i=true):=⟨fun hq i hi=>by
   rcases Nat.lt_succ_iff_lt_or_eq.1 hi with h|h
   ·exact hR i h
   ·subst h;exact hq⟩
  have hE2:Lat (q k=false→M=3):=⟨fun hq=>by rw[hE,if_neg];intro h5;rw[List.all_eq_true]at h5;rw[h5 k (by simpa using hk)]at hq;cases hq⟩
  clear hgh hge hp hR hE hl3;generalize h.getD k []=l at*;generalize e.getD k false=b at*;by_cases g9:0<l.length
  ·have g9':(0:Int)<l.length:=by omega
   cases b with
   |true=>
    by_cases g10:l.length≤4096
    ·have hq:q k=true:=by rw[hpk];simp[g9,g10]
     have hR3:=Lat.mk (hR2.out hq);have g10':¬(4096:Int)<l.length:=by omega
     clear hpk hR2 hE2 hq;refine zgo ?_;exact⟨m+60,(),⟨by omega,hR3.out⟩,zholds⟩
    ·have hq:q k=false:=by rw[hpk];simp[g9,g10]
     obtain rfl:=hE2.out hq;have g10':(4096:Int)<l.length:=by omega
     clear hpk hR2 hE2 hq;refine zgo ?_;exact zfin
   |false=>
    have hq:q k=false:=by rw[hpk];simp[g9]
    obtain rfl:=hE2.out hq;clear hpk hR2 hE2 hq;by_cases g10:(4096:Int)<l.length
    ·refine zgo ?_
     exact zfin
    ·refine zgo ?_
     exact zfin
  ·have g9':¬(0:Int)<l.length:=by omega
   have g10:¬(4096:Int)<l.length:=by omega
   cases b with
   |true=>
    have hq:q k=false:=by rw[hpk];simp[g9]
    obtain rfl:=hE2.out hq;clear hpk hR2 hE2 hq;refine zgo ?_;exact zfin
   |false=>
    have hq:q k=true:=by rw[hpk];simp[g9];omega
    have hR3:=Lat.mk (hR2.out hq);clear hpk hR2 hE2 hq;refine zgo ?_;exact⟨m+60,(),⟨by omega,hR3.out⟩,zholds⟩
 ·rw[if_pos (List.all_eq_true.2 fun i hi=>hR.2 i (by simpa using hi))]at hE
  subst hE;clear hR hgh hge hp hl3;refine zgo ?_;exact zfin
theorem qchk_p(a:Asm)(hl:a.have_.length≤1000000)(hl2:a.seen.length≤1000000)(hl3:∀x∈a.have_,x.length≤1000000):PC 81 [.agg (encA a)] (zV (asmE a)):=by
 refine pstart Tryz.func81 Tryz.ntmps81 (.c _) ?_;obtain⟨n,p,s,h,e⟩:=a;have hE:asmE ⟨n,p,s,h,e⟩=if n<1∨1073741824<n∨p<1∨65536<p∨s<0∨4294967295<s∨(h.length:Int)≠p∨(e.length:Int)≠p then 3 else if(List.range h.length).all (pieceOK ⟨n,p,s,h,e⟩)=true then 0 else 3:=rfl
 have hp:∀i,pieceOK ⟨n,p,s,h,e⟩ i=((decide (0<(h.getD i []).length)==e.getD i false)&&decide ((h.getD i []).length≤4096)):=fun i=>rfl
 generalize asmE ⟨n,p,s,h,e⟩=M at*;generalize pieceOK ⟨n,p,s,h,e⟩=q at*;unfold encA;simp only[]at*;by_cases g:n<1
 ·rw[if_pos (.inl g)]at hE
  subst hE;clear hl3 hp;refine zgo ?_;exact zfin
 have g1:¬(n<1):=g;clear g;by_cases g:1073741824<n
 ·rw[if_pos (.inr (.inl g))]at hE
  subst hE;clear hl3 hp;refine zgo ?_;exact zfin
 have g2:¬(1073741824<n):=g;clear g;by_cases g:p<1
 ·rw[if_pos (.inr (.inr (.inl g)))]at hE
  subst hE;clear hl3 hp;refine zgo ?_;exact zfin
 have g3:¬(p<1):=g;clear g;by_cases g:65536<p
 ·rw[if_pos (.inr (.inr (.inr (.inl g))))]at hE
  subst hE;clear hl3 hp;refine zgo ?_;exact zfin
 have g4:¬(65536<p):=g;clear g;by_cases g:s<0
 ·rw[if_pos (.inr (.inr (.inr (.inr (.inl g)))))]at hE
  subst hE;clear hl3 hp;refine zgo ?_;exact zfin
 have g5:¬(s<0):=g;clear g;by_cases g:4294967295<s
 ·rw[if_pos (.inr (.inr (.inr (.inr (.inr (.inl g))))))]at hE
  subst hE;clear hl3 hp;refine zgo ?_;exact zfin
 have g6:¬(4294967295<s):=g;clear g;by_cases g:(h.length:Int)≠p
 ·rw[if_pos (.inr (.inr (.inr (.inr (.inr (.inr (.inl g)))))))]at hE
  subst hE;clear hl3 hp;refine zgo ?_;exact zfin
 have g7:¬((h.length:Int)≠p):=g;clear g;by_cases g:(e.length:Int)≠p
 ·rw[if_pos (.inr (.inr (.inr (.inr (.inr (.inr (.inr g)))))))]at hE
  subst hE;clear hl3 hp;refine zgo ?_;exact zfin
 have g8:¬((e.length:Int)≠p):=g;clear g
 rw[if_neg (by
  rintro(h|h|h|h|h|h|h|h)
  ·exact g1 h
  ·exact g2 h
  ·exact g3 h
  ·exact g4 h
  ·exact g5 h
  ·exact g6 h
  ·exact g7 h
  ·exact g8 h)]at hE
 have g7':(h.length:Int)=p:=Classical.not_not.1 g7;have g8':(e.length:Int)=p:=Classical.not_not.1 g8;clear g7 g8;subst g7';have hgh:=gHv h;have hge:=gBl e;refine zgo ?_;refine zfor (α:=Unit) h.length (fun k _=> [(3,true,zV k),(1,true,.ptr 0 0 0)]) (fun _ _=> [(0,some (.cells 79 5 [[zV n,zV h.length,zV s,.snap (encL byteL h),.snap (encL boolRow e)]] true false))]) (fun k m _=>1≤m∧∀i,i<k→q i=true) ⟨100,(),⟨by omega,fun i hi=>by omega⟩,zholds⟩ (fun k m _ hk hR=> ?_) (fun m _ hR=> ?_)
 ·obtain⟨hm,hR⟩:=hR
  have k1:(encL byteL h)[k]? =some [.snap (encL byteRow (h.getD k []))]:=hgh k hk;have k2:(encL boolRow e)[k]? =some [bV (e.getD k false)]:=hge k (by omega)
  have k3:=hl3 _ (getD_mem' [] hk);have hpk:=hp k
  have hR2:Lat (q k=true→∀i,i<k+1→q i=true):=⟨fun hq i hi=>by
   rcases Nat.lt_succ_iff_lt_or_eq.1 hi with h|h
   ·exact hR i h
   ·subst h;exact hq⟩
  have hE2:Lat (q k=false→M=3):=⟨fun hq=>by rw[hE,if_neg];intro h5;rw[List.all_eq_true]at h5;rw[h5 k (by simpa using hk)]at hq;cases hq⟩
  clear hgh hge hp hR hE hl3;have hkp:(k:Int)<h.length:=by omega
  generalize h.getD k []=l at*;generalize e.getD k false=b at*;by_cases g9:0<l.length
  ·have g9':(0:Int)<l.length:=by omega
   cases b with
   |true=>
    by_cases g10:l.length≤4096
    ·have hq:q k=true:=by rw[hpk];simp[g9,g10]
     have hR3:=Lat.mk (hR2.out hq);have g10':¬(4096:Int)<l.length:=by omega
     clear hpk hR2 hE2 hq;refine zgo2 ?_;exact⟨m+60,(),⟨by omega,hR3.out⟩,zholds⟩
    ·have hq:q k=false:=by rw[hpk];simp[g9,g10]
     obtain rfl:=hE2.out hq;have g10':(4096:Int)<l.length:=by omega
     clear hpk hR2 hE2 hq;refine zgo2 ?_;exact zfin
   |false=>
    have hq:q k=false:=by rw[hpk];simp[g9]
    obtain rfl:=hE2.out hq;clear hpk hR2 hE2 hq;by_cases g10:(4096:Int)<l.length
    ·refine zgo2 ?_
     exact zfin
    ·refine zgo2 ?_
     exact zfin
  ·have g9':¬(0:Int)<l.length:=by omega
   have g10:¬(4096:Int)<l.length:=by omega
   cases b with
   |true=>
    have hq:q k=false:=by rw[hpk];simp[g9]
    obtain rfl:=hE2.out hq;clear hpk hR2 hE2 hq;refine zgo2 ?_;exact zfin
   |false=>
    have hq:q k=true:=by rw[hpk];simp[g9];omega
    have hR3:=Lat.mk (hR2.out hq);clear hpk hR2 hE2 hq;refine zgo2 ?_;exact⟨m+60,(),⟨by omega,hR3.out⟩,zholds⟩
 ·rw[if_pos (List.all_eq_true.2 fun i hi=>hR.2 i (by simpa using hi))]at hE
  subst hE;clear hR hgh hge hp hl3;refine zgo ?_;exact zfin
end Go.Proofs.YtpeldefimkdkdaaGreat
