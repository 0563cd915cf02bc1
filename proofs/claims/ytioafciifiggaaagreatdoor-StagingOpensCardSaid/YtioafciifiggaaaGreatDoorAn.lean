/- Staging. No condition. -/
import Derived.Test.YtioafciifiggaaaGreatDoorL0
import Derived.Test.YtioafciifiggaaaGreatDoorAm
set_option linter.all false
namespace Go.Proofs.YtioafciifiggaaaGreatDoor
open Go.Proofs Go.AL
set_option maxRecDepth 100000
set_option maxHeartbeats 1000000
attribute [local irreducible] cB AW aX cZ dK hold
attribute [local irreducible] eV
theorem Ap(b:List Int)(hb:∀x∈b,aV x)(hl:b.length<=100000):PC 182 [.snap (aA aH b)] (.aR [.agg [zV (bM b).1.number,zV (bM b).1.index,zV (bM b).1.parts,zV (bM b).1.sum,.snap (aA aH (bM b).1.piece)],zV (bM b).2]):=by
 refine aT Tryz.func182 Tryz.ntmps182 (by simp only[go_sem]) ?_
 have c1:=vW b hb hl;have k1:=mB hb;have c2:=vW (aF b).2.1 k1.1 (by omega)
 have k2:=mB k1.1;have c3:=vW (aF (aF b).2.1).2.1 k2.1 (by omega)
 have k3:=mB k2.1;have c4:=vW (aF (aF (aF b).2.1).2.1).2.1 k3.1 (by omega)
 have k4:=mB k3.1;obtain⟨M,hM⟩:∃M,bM b=M:=⟨_,rfl⟩;rw[hM];rw[Am]at hM;generalize aF (aF (aF (aF b).2.1).2.1).2.1=V at*;generalize aF (aF (aF b).2.1).2.1=Z at*;generalize aF (aF b).2.1=Y at*;generalize aF b=X at*;obtain⟨x,xr,xe⟩:=X;obtain⟨y,yr,ye⟩:=Y;obtain⟨z,zr,ze⟩:=Z;obtain⟨v,vr,ve⟩:=V;unfold Q8 at hM;simp only[]at*;have q4:vr.length<=100000:=by omega
 clear k1 k2 k3 k4 hb;by_cases g1:xe=0
 ·subst g1
  rw[if_pos rfl]at hM;by_cases g2:ye=0
  ·subst g2
   rw[if_pos rfl]at hM;by_cases g3:ze=0
   ·subst g3
    rw[if_pos rfl]at hM;by_cases g4:ve=0
    ·subst g4
     rw[if_pos rfl]at hM;by_cases g:x<1
     ·rw[if_pos (.inl g)]at hM
      subst hM;unfold oR;refine aE ?_;refine eP 5 ?_;refine eQ ?_;refine aE ?_;exact aB
     have AA:¬(x<1):=g;clear g;by_cases g:1073741824<x
     ·rw[if_pos (.inr (.inl g))]at hM
      subst hM;unfold oR;refine aE ?_;refine eP 5 ?_;refine eQ ?_;refine aE ?_;exact aB
     have g11:¬(1073741824<x):=g;clear g;by_cases g:z<=y
     ·rw[if_pos (.inr (.inr (.inl g)))]at hM
      subst hM;unfold oR;refine aE ?_;refine eP 5 ?_;refine eQ ?_;refine aE ?_;exact aB
     have g12:¬(z<=y):=g;clear g;by_cases g:65536<z
     ·rw[if_pos (.inr (.inr (.inr (.inl g))))]at hM
      subst hM;unfold oR;refine aE ?_;refine eP 5 ?_;refine eQ ?_;refine aE ?_;exact aB
     have g13:¬(65536<z):=g;clear g;by_cases g:4294967295<v
     ·rw[if_pos (.inr (.inr (.inr (.inr (.inl g)))))]at hM
      subst hM;unfold oR;refine aE ?_;refine eP 5 ?_;refine eQ ?_;refine aE ?_;exact aB
     have g14:¬(4294967295<v):=g;clear g;by_cases g6:vr=[]
     ·rw[if_pos (.inr (.inr (.inr (.inr (.inr (.inl g6))))))]at hM
      subst hM g6;unfold oR;refine aE ?_;refine eP 5 ?_;refine eQ ?_;refine aE ?_;exact aB
     have g6':¬(vr.length:Int)<1:=by have:=BP.2 g6;omega
     by_cases g7:4096<vr.length
     ·rw[if_pos (.inr (.inr (.inr (.inr (.inr (.inr g7))))))]at hM
      subst hM;have HW:(4096:Int)<vr.length:=by omega
      unfold oR;refine aE ?_;refine eP 5 ?_;refine eQ ?_;refine aE ?_;exact aB
     have HW:¬(4096:Int)<vr.length:=by omega
     rw[if_neg (by
      rintro(h|h|h|h|h|h|h)
      ·exact AA h
      ·exact g11 h
      ·exact g12 h
      ·exact g13 h
      ·exact g14 h
      ·exact g6 h
      ·exact g7 h)]at hM
     subst hM;refine aE ?_;refine eP 5 ?_;refine eQ ?_;refine aE ?_;exact aB
    ·rw[if_neg g4]at hM
     subst hM;unfold oR;refine aD ?_;refine eP 5 ?_;refine eQ ?_;refine aD ?_;exact aB
   ·rw[if_neg g3]at hM
    subst hM;clear c4;unfold oR;refine aD ?_;refine eP 5 ?_;refine eQ ?_;refine aD ?_;exact aB
  ·rw[if_neg g2]at hM
   subst hM;clear c4 c3;unfold oR;refine aD ?_;refine eP 5 ?_;refine eQ ?_;refine aD ?_;exact aB
 ·rw[if_neg g1]at hM
  subst hM;clear c4 c3 c2;unfold oR;refine aD ?_;refine eP 5 ?_;refine eQ ?_;refine aD ?_;exact aB
theorem an1(b:List Int)(hb:∀x∈b,aV x)(hl:b.length<=100000):PC 125 [.snap (aA aH b)] (.aR [zV (bM b).1.number,zV (bM b).1.index,zV (bM b).1.parts,zV (bM b).2]):=by
 refine aT Tryz.func125 Tryz.ntmps125 (by simp only[go_sem]) ?_
 have c1:=Ap b hb hl;clear hb;refine aD ?_;exact aB
instance :uF bW 1:=⟨fun _=>rfl,fun _=>rfl,fun l x hx=>by
 simp only[bW,fB,mR,or_false]at hx;subst hx
 exact iJ l⟩
@[go_sem] theorem bF5:(true==true)=true:=rfl
@[go_sem] theorem bF6:(true==false)=false:=rfl
@[go_sem] theorem bF7:(false==true)=false:=rfl
@[go_sem] theorem bF8:(false==false)=true:=rfl
@[go_sem] theorem bF9:(!true)=false:=rfl
@[go_sem] theorem bG0:(!false)=true:=rfl
theorem Lx(l:List (List Int))(k:Nat)(h:k<l.length):(aA bW l)[k]? =some (bW (l.getD k [])):=pQ [] h
theorem AB(l:List Bool)(k:Nat)(h:k<l.length):(aA cM l)[k]? =some (cM (l.getD k false)):=pQ false h
theorem Aq(a:mO)(hl:a.cI.length<=1000000)(bQ:a.seen.length<=1000000)(nT:∀x∈a.cI,x.length<=1000000):PC 132 [.agg (eL a)] (zV (qZ a)):=by
 refine aT Tryz.func132 Tryz.ntmps132 (.c _) ?_;obtain⟨n,p,s,h,e⟩:=a;have hE:qZ ⟨n,p,s,h,e⟩=if n<1\/1073741824<n\/p<1\/65536<p\/s<0\/4294967295<s\/(h.length:Int)≠p\/(e.length:Int)≠p then 3 else if(List.range h.length).all (FB ⟨n,p,s,h,e⟩)=true then 0 else 3:=rfl
 have hp:∀i,FB ⟨n,p,s,h,e⟩ i=((decide (0<(h.getD i []).length)==e.getD i false)&&decide ((h.getD i []).length<=4096)):=fun i=>rfl
 generalize qZ ⟨n,p,s,h,e⟩=M at*;generalize FB ⟨n,p,s,h,e⟩=q at*;unfold eL;simp only[]at*;by_cases g:n<1
 ·rw[if_pos (.inl g)]at hE
  subst hE;clear nT hp;refine aD ?_;exact aB
 have g1:¬(n<1):=g;clear g;by_cases g:1073741824<n
 ·rw[if_pos (.inr (.inl g))]at hE
  subst hE;clear nT hp;refine aD ?_;exact aB
 have g2:¬(1073741824<n):=g;clear g;by_cases g:p<1
 ·rw[if_pos (.inr (.inr (.inl g)))]at hE
  subst hE;clear nT hp;refine aD ?_;exact aB
 have g3:¬(p<1):=g;clear g;by_cases g:65536<p
 ·rw[if_pos (.inr (.inr (.inr (.inl g))))]at hE
  subst hE;clear nT hp;refine aD ?_;exact aB
 have g4:¬(65536<p):=g;clear g;by_cases g:s<0
 ·rw[if_pos (.inr (.inr (.inr (.inr (.inl g)))))]at hE
  subst hE;clear nT hp;refine aD ?_;exact aB
 have g5:¬(s<0):=g;clear g;by_cases g:4294967295<s
 ·rw[if_pos (.inr (.inr (.inr (.inr (.inr (.inl g))))))]at hE
  subst hE;clear nT hp;refine aD ?_;exact aB
 have g6:¬(4294967295<s):=g;clear g;by_cases g:(h.length:Int)≠p
 ·rw[if_pos (.inr (.inr (.inr (.inr (.inr (.inr (.inl g)))))))]at hE
  subst hE;clear nT hp;refine aD ?_;exact aB
 have g7:¬((h.length:Int)≠p):=g;clear g;by_cases g:(e.length:Int)≠p
 ·rw[if_pos (.inr (.inr (.inr (.inr (.inr (.inr (.inr g)))))))]at hE
  subst hE;clear nT hp;refine aD ?_;exact aB
 have g8:¬((e.length:Int)≠p):=g;clear g
 rw[if_neg (by
  rintro(h|h|h|h|h|h|h|h)
  ·exact g1 h
  ·exact g2 h
  ·exact g3 h
  ·exact g4 h
  ·exact g5 h
  ·exact g6 h
  ·exact g7 h
  ·exact g8 h)]at hE
 have HW:(h.length:Int)=p:=HF.1 g7;have g8':(e.length:Int)=p:=HF.1 g8;clear g7 g8;subst HW;have kJ:=Lx h;have mP:=AB e;refine aD ?_;refine dP (α:=Unit) h.length (fun k _=> [(52,true,zV k),(51,true,zV h.length),(50,true,.snap (aA bW h)),(1,true,.ptr 0 0 0)]) (fun _ _=> [(0,some (.cells 161 5 [[zV n,zV h.length,zV s,.snap (aA bW h),.snap (aA cM e)]] true false))]) (fun k m _=>1<=m/\∀i,i<k->q i=true) ⟨100,(),⟨by omega,fun i hi=>by omega⟩,aN⟩ (fun k m _ hk hR=> ?_) (fun m _ hR=> ?_)
 ·obtain⟨hm,hR⟩:=hR
  have k1:(aA bW h)[k]? =some [.snap (aA aH (h.getD k []))]:=kJ k hk;have k2:(aA cM e)[k]? =some [bV (e.getD k false)]:=mP k (by omega)
  have k3:=nT _ (dC [] hk);have pV:=hp k
  have bK:aU (q k=true->∀i,i<k+1->q i=true):=⟨fun hq i hi=>by
   rcases bv7.1 hi with h|h
   ·exact hR i h
   ·subst h;exact hq⟩
  have r5:aU (q k=false->M=3):=⟨fun hq=>by rw[hE,if_neg];intro h5;rw[gK]at h5;rw[h5 k (by simpa using hk)]at hq;cases hq⟩
  clear kJ mP hp hR hE nT;generalize h.getD k []=l at*;generalize e.getD k false=b at*;by_cases g9:0<l.length
  ·have Ar:(0:Int)<l.length:=by omega
   cases b with
   |true=>
    by_cases AA:l.length<=4096
    ·have hq:q k=true:=by rw[pV];simp[g9,AA]
     have lM:=aU.mk (bK.out hq);have As:¬(4096:Int)<l.length:=by omega
     clear pV bK r5 hq;refine aD ?_;exact⟨m+60,(),⟨by omega,lM.out⟩,aN⟩
    ·have hq:q k=false:=by rw[pV];simp[g9,AA]
     obtain rfl:=r5.out hq;have As:(4096:Int)<l.length:=by omega
     clear pV bK r5 hq;refine aD ?_;exact aB
   |false=>
    have hq:q k=false:=by rw[pV];simp[g9]
    obtain rfl:=r5.out hq;clear pV bK r5 hq;by_cases AA:(4096:Int)<l.length
    ·refine aD ?_
     exact aB
    ·refine aD ?_
     exact aB
  ·have Ar:¬(0:Int)<l.length:=by omega
   have AA:¬(4096:Int)<l.length:=by omega
   cases b with
   |true=>
    have hq:q k=false:=by rw[pV];simp[g9]
    obtain rfl:=r5.out hq;clear pV bK r5 hq;refine aD ?_;exact aB
   |false=>
    have hq:q k=true:=by rw[pV];simp[g9];omega
    have lM:=aU.mk (bK.out hq);clear pV bK r5 hq;refine aD ?_;exact⟨m+60,(),⟨by omega,lM.out⟩,aN⟩
 ·rw[if_pos (gK.2 fun i hi=>hR.2 i (by simpa using hi))]at hE
  subst hE;clear hR kJ mP hp nT;refine aD ?_;exact aB
theorem Ly(a:mO)(hl:a.cI.length<=1000000)(bQ:a.seen.length<=1000000)(nT:∀x∈a.cI,x.length<=1000000):PC 164 [.agg (eL a)] (zV (qZ a)):=by
 refine aT Tryz.func164 Tryz.ntmps164 (.c _) ?_;obtain⟨n,p,s,h,e⟩:=a;have hE:qZ ⟨n,p,s,h,e⟩=if n<1\/1073741824<n\/p<1\/65536<p\/s<0\/4294967295<s\/(h.length:Int)≠p\/(e.length:Int)≠p then 3 else if(List.range h.length).all (FB ⟨n,p,s,h,e⟩)=true then 0 else 3:=rfl
 have hp:∀i,FB ⟨n,p,s,h,e⟩ i=((decide (0<(h.getD i []).length)==e.getD i false)&&decide ((h.getD i []).length<=4096)):=fun i=>rfl
 generalize qZ ⟨n,p,s,h,e⟩=M at*;generalize FB ⟨n,p,s,h,e⟩=q at*;unfold eL;simp only[]at*;by_cases g:n<1
 ·rw[if_pos (.inl g)]at hE
  subst hE;clear nT hp;refine aD ?_;exact aB
 have g1:¬(n<1):=g;clear g;by_cases g:1073741824<n
 ·rw[if_pos (.inr (.inl g))]at hE
  subst hE;clear nT hp;refine aD ?_;exact aB
 have g2:¬(1073741824<n):=g;clear g;by_cases g:p<1
 ·rw[if_pos (.inr (.inr (.inl g)))]at hE
  subst hE;clear nT hp;refine aD ?_;exact aB
 have g3:¬(p<1):=g;clear g;by_cases g:65536<p
 ·rw[if_pos (.inr (.inr (.inr (.inl g))))]at hE
  subst hE;clear nT hp;refine aD ?_;exact aB
 have g4:¬(65536<p):=g;clear g;by_cases g:s<0
 ·rw[if_pos (.inr (.inr (.inr (.inr (.inl g)))))]at hE
  subst hE;clear nT hp;refine aD ?_;exact aB
 have g5:¬(s<0):=g;clear g;by_cases g:4294967295<s
 ·rw[if_pos (.inr (.inr (.inr (.inr (.inr (.inl g))))))]at hE
  subst hE;clear nT hp;refine aD ?_;exact aB
 have g6:¬(4294967295<s):=g;clear g;by_cases g:(h.length:Int)≠p
 ·rw[if_pos (.inr (.inr (.inr (.inr (.inr (.inr (.inl g)))))))]at hE
  subst hE;clear nT hp;refine aD ?_;exact aB
 have g7:¬((h.length:Int)≠p):=g;clear g;by_cases g:(e.length:Int)≠p
 ·rw[if_pos (.inr (.inr (.inr (.inr (.inr (.inr (.inr g)))))))]at hE
  subst hE;clear nT hp;refine aD ?_;exact aB
 have g8:¬((e.length:Int)≠p):=g;clear g
 rw[if_neg (by
  rintro(h|h|h|h|h|h|h|h)
  ·exact g1 h
  ·exact g2 h
  ·exact g3 h
  ·exact g4 h
  ·exact g5 h
  ·exact g6 h
  ·exact g7 h
  ·exact g8 h)]at hE
 have HW:(h.length:Int)=p:=HF.1 g7;have g8':(e.length:Int)=p:=HF.1 g8;clear g7 g8;subst HW;have kJ:=Lx h;have mP:=AB e;refine aD ?_;refine dP (α:=Unit) h.length (fun k _=> [(3,true,zV k),(1,true,.ptr 0 0 0)]) (fun _ _=> [(0,some (.cells 161 5 [[zV n,zV h.length,zV s,.snap (aA bW h),.snap (aA cM e)]] true false))]) (fun k m _=>1<=m/\∀i,i<k->q i=true) ⟨100,(),⟨by omega,fun i hi=>by omega⟩,aN⟩ (fun k m _ hk hR=> ?_) (fun m _ hR=> ?_)
 ·obtain⟨hm,hR⟩:=hR
  have k1:(aA bW h)[k]? =some [.snap (aA aH (h.getD k []))]:=kJ k hk;have k2:(aA cM e)[k]? =some [bV (e.getD k false)]:=mP k (by omega)
  have k3:=nT _ (dC [] hk);have pV:=hp k
  have bK:aU (q k=true->∀i,i<k+1->q i=true):=⟨fun hq i hi=>by
   rcases bv7.1 hi with h|h
   ·exact hR i h
   ·subst h;exact hq⟩
  have r5:aU (q k=false->M=3):=⟨fun hq=>by rw[hE,if_neg];intro h5;rw[gK]at h5;rw[h5 k (by simpa using hk)]at hq;cases hq⟩
  clear kJ mP hp hR hE nT;have hkp:(k:Int)<h.length:=by omega
  generalize h.getD k []=l at*;generalize e.getD k false=b at*;by_cases g9:0<l.length
  ·have Ar:(0:Int)<l.length:=by omega
   cases b with
   |true=>
    by_cases AA:l.length<=4096
    ·have hq:q k=true:=by rw[pV];simp[g9,AA]
     have lM:=aU.mk (bK.out hq);have As:¬(4096:Int)<l.length:=by omega
     clear pV bK r5 hq;refine aE ?_;exact⟨m+60,(),⟨by omega,lM.out⟩,aN⟩
    ·have hq:q k=false:=by rw[pV];simp[g9,AA]
     obtain rfl:=r5.out hq;have As:(4096:Int)<l.length:=by omega
     clear pV bK r5 hq;refine aE ?_;exact aB
   |false=>
    have hq:q k=false:=by rw[pV];simp[g9]
    obtain rfl:=r5.out hq;clear pV bK r5 hq;by_cases AA:(4096:Int)<l.length
    ·refine aE ?_
     exact aB
    ·refine aE ?_
     exact aB
  ·have Ar:¬(0:Int)<l.length:=by omega
   have AA:¬(4096:Int)<l.length:=by omega
   cases b with
   |true=>
    have hq:q k=false:=by rw[pV];simp[g9]
    obtain rfl:=r5.out hq;clear pV bK r5 hq;refine aE ?_;exact aB
   |false=>
    have hq:q k=true:=by rw[pV];simp[g9];omega
    have lM:=aU.mk (bK.out hq);clear pV bK r5 hq;refine aE ?_;exact⟨m+60,(),⟨by omega,lM.out⟩,aN⟩
 ·rw[if_pos (gK.2 fun i hi=>hR.2 i (by simpa using hi))]at hE
  subst hE;clear hR kJ mP hp nT;refine aD ?_;exact aB
end Go.Proofs.YtioafciifiggaaaGreatDoor
