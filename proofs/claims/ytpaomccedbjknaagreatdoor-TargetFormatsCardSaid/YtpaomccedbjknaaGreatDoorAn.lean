/- Target: contracts of its functions (An). No condition but those named. -/
import Derived.Test.YtpaomccedbjknaaGreatDoorAm
set_option linter.all false
namespace Go.Proofs.YtpaomccedbjknaaGreatDoor
open Go.Proofs Go.AL Tryz
set_option maxRecDepth 100000
set_option maxHeartbeats 8000000
attribute [local irreducible] bT AW b8 cF dB hold
attribute [local irreducible] iX
theorem au4(src:List Int)(h:(jA src).2.2=0):(jA src).1.2.2.length<=65536:=by
 unfold jA at h⊢;split
 ·split
  ·exact PV _
  ·simp[eF]
 ·simp[eF]
theorem Ms(b n t:Int)(s1 s2:List Int):yP ⟨b,n,t,(eG aU s1).1,(eG jA s2).1⟩:=
 ⟨by have:=PV (one:=aU) s1;simp only[];omega,by have:=PV (one:=jA) s2;simp only[];omega,fun w hw=>by
   have:=ar1 (one:=jA) (p:=fun w=>w.2.2.length<=65536) (fun src h=>au4 src h) s2 w hw
   omega⟩
theorem F5(e:Int)(N:Nat)(T:List (Nat×Option aI))(x0 x1 x2 x3 x4 a:AV):
  oW prog 246 [.ptr 0 0 0,.ptr 1 0 0] ⟨N,bN ((0,some (.cells 72 5 [[x0,x1,x2,x3,x4]] true false))::(1,some (.cells 29 1 [[a]] true false))::T)⟩ (some (vI e))
   (fun H'=>H'=⟨N+1+1,bN ((0,some (.cells 72 5 [[zV 0,zV 0,zV 0,.c (.slice none 0 0),.c (.slice none 0 0)]] true false))::(1,some (.cells 29 1 [[zV e]] true false))::T)⟩):=ap6 e N (bN T) x0 x1 x2 x3 x4 a
theorem au5(H:Heap):oW prog 246 [.ptr 0 0 0,.ptr 1 0 0] H none (fun H'=>H'=H):=ap5 0 1 H.next H.get
theorem au6(b:List Int)(hb:∀x∈b,bZ x)(hl:b.length<=100000):PC 204 [.snap (aB aO b)] (.aK [.agg (iO (A5 b).1),zV (A5 b).2]):=by
 refine au7 func204 ntmps204 (by simp only[go_sem,iO]) ?_
 have c1:=HD b hb hl;have k1:=sI hb;have c2:=HD (aU b).2.1 k1.1 oM
 have k2:=sI k1.1;have c3:=HD (aU (aU b).2.1).2.1 k2.1 oM
 have k3:=sI k2.1;have c4:=as5 (aU (aU (aU b).2.1).2.1).2.1 k3.1 oM
 have k4:=UG ZJ _ k3.1;have c5:=as6 (eG aU (aU (aU (aU b).2.1).2.1).2.1).2.1 k4.1 oM
 have c6:=U1 ⟨(aU b).1,(aU (aU b).2.1).1,(aU (aU (aU b).2.1).2.1).1,(eG aU (aU (aU (aU b).2.1).2.1).2.1).1,(eG jA (eG aU (aU (aU (aU b).2.1).2.1).2.1).2.1).1⟩ A4 dE (Ms _ _ _ _ _)
 have c7:=Mr;have Mt:iO mV=[zV 0,zV 0,zV 0,.snap (aB aW []),.snap (aB aH [])]:=rfl;have d1:=ZF 5;have d2:=ZG 5;have d3:=ZF 3;have d4:=ZG 3;have d5:=ap3;have dG:=PV (one:=aU) (aU (aU (aU b).2.1).2.1).2.1;have xK:=PV (one:=jA) (eG aU (aU (aU (aU b).2.1).2.1).2.1).2.1;obtain⟨M,hM⟩:∃M,A5 b=M:=⟨_,rfl⟩;rw[hM];unfold A5 at hM
 by_cases g0:65536<b.length
 ·rw[if_pos g0]at hM
  subst hM;clear c1 c2 c3 c4 c5 c6 c7 k1 k2 k3 k4 hb dG xK d1 d3 d4 d5;have s:rV 2 3 (vI 5):=⟨⟩;refine nY ?_;refine F6 (F5 5 _ _ _ _ _ _ _ _) ?_;refine iT ?_;exact cR
 rw[if_neg g0]at hM;clear d2;generalize eG jA (eG aU (aU (aU (aU b).2.1).2.1).2.1).2.1=W at*;generalize eG aU (aU (aU (aU b).2.1).2.1).2.1=L at*;generalize aU (aU (aU b).2.1).2.1=Z at*;generalize aU (aU b).2.1=Y at*;generalize aU b=X at*;obtain⟨x,xr,xe⟩:=X;obtain⟨y,yr,ye⟩:=Y;obtain⟨z,zr,ze⟩:=Z;obtain⟨l,lr,le⟩:=L;obtain⟨w,wr,we⟩:=W;unfold ZM at hM;simp only[]at*
 have q1:=k1.2;have q2:=k2.2;have q3:=k3.2;have q4:=k4.2;clear k1 k2 k3 k4 hb;by_cases g1:xe=0
 ·subst g1
  rw[if_pos rfl]at hM;by_cases g2:ye=0
  ·subst g2
   rw[if_pos rfl]at hM;by_cases g3:ze=0
   ·subst g3
    rw[if_pos rfl]at hM;by_cases g4:le=0
    ·subst g4
     rw[if_pos rfl]at hM;by_cases g5:we=0
     ·subst g5
      rw[if_pos rfl]at hM;by_cases g6:wr=[]
      ·subst g6
       rw[if_pos rfl]at hM;unfold iO at c6;simp only[]at c6;generalize rT ⟨x,y,z,l,w⟩ A4=ce at*;clear d4;by_cases g7:ce=0
       ·rw[if_pos g7]at hM
        subst hM g7;unfold iO;refine nY ?_;refine fZ 4 ?_;refine gD ?_;refine nY ?_;refine Mu (au5 _) ?_;refine iT ?_;exact cR
       ·rw[if_neg g7]at hM
        subst hM;have d6:=L3 ce g7;have s:rV 14 3 (vI ce):=⟨⟩;have s2:rV (14+1000) 3 .nilIface:=⟨⟩;refine nY ?_;refine fZ 4 ?_;refine gD ?_;refine nY ?_;refine au8 s2 ?_;refine nY ?_;refine F6 (F5 ce _ _ _ _ _ _ _ _) ?_;refine iT ?_;exact cR
      ·rw[if_neg g6]at hM
       subst hM;have g8:¬(wr.length:Int)=0:=by have:=T7.2 g6;omega
       clear c6;have s:rV 13 3 (vI 3):=⟨⟩;refine nY ?_;refine fZ 4 ?_;refine gD ?_;refine nY ?_;refine F6 (F5 3 _ _ _ _ _ _ _ _) ?_;refine iT ?_;exact cR
     ·rw[if_neg g5]at hM
      subst hM;clear c6 d4;have d6:=L3 we g5;have s:rV 12 1 (vI we):=⟨⟩;refine nY ?_;refine fZ 4 ?_;refine gD ?_;refine nY ?_;refine F6 (F5 we _ _ _ _ _ _ _ _) ?_;refine iT ?_;exact cR
    ·rw[if_neg g4]at hM
     subst hM;clear c6 c5 d4;have d6:=L3 le g4;have s:rV 10 1 (vI le):=⟨⟩;refine nY ?_;refine fZ 4 ?_;refine gD ?_;refine nY ?_;refine F6 (F5 le _ _ _ _ _ _ _ _) ?_;refine iT ?_;exact cR
   ·rw[if_neg g3]at hM
    subst hM;clear c6 c5 c4 d4;refine nY ?_;refine fZ 4 ?_;refine gD ?_
    iterate 73 (refine xL ?_)
    have d6:=L3 ze g3;have s:rV 7 1 (vI ze):=⟨⟩;refine nY ?_;refine F6 (F5 ze _ _ _ _ _ _ _ _) ?_;refine iT ?_;exact cR
  ·rw[if_neg g2]at hM
   subst hM;clear c6 c5 c4 c3 d4;refine nY ?_;refine fZ 4 ?_;refine gD ?_
   iterate 46 (refine xL ?_)
   have d6:=L3 ye g2;have s:rV 7 1 (vI ye):=⟨⟩;refine nY ?_;refine F6 (F5 ye _ _ _ _ _ _ _ _) ?_;refine iT ?_;exact cR
 ·rw[if_neg g1]at hM
  subst hM;clear c6 c5 c4 c3 c2 d4 d5;have d6:=L3 xe g1;have s:rV 7 1 (vI xe):=⟨⟩;refine nY ?_;refine fZ 4 ?_;refine gD ?_;refine nY ?_;refine F6 (F5 xe _ _ _ _ _ _ _ _) ?_;refine iT ?_;exact cR
def L5(n i p s:Int):Bool:=decide (1<=n)&&decide (n<=1073741824)&&decide (i<p)&&decide (p<=65536)&&decide (s<=4294967295)
theorem au9(n i p s:Int):PC 186 [.agg [zV n,zV p,zV s,zV i]] (bV (L5 n i p s)):=by
 refine aZ func186 ntmps186 (.c _) ?_;unfold L5;exact zEa
theorem av0(n i p s:Int)(l:List Int):HR n i p s l↔(L5 n i p s=false\/l=[]\/4096<l.length):=by
 unfold HR L5;simp only[Bool.and_eq_false_iff,decide_eq_false_iff_not];constructor
 ·rintro(h|h|h|h|h|h|h)
  ·exact .inl (.inl (.inl (.inl (.inl oM))))
  ·exact .inl (.inl (.inl (.inl (.inr oM))))
  ·exact .inl (.inl (.inl (.inr oM)))
  ·exact .inl (.inl (.inr oM))
  ·exact .inl (.inr oM)
  ·exact .inr (.inl h)
  ·exact .inr (.inr h)
 ·rintro(((((h|h)|h)|h)|h)|h|h)
  ·exact .inl oM
  ·exact .inr (.inl oM)
  ·exact .inr (.inr (.inl oM))
  ·exact .inr (.inr (.inr (.inl oM)))
  ·exact .inr (.inr (.inr (.inr (.inl oM))))
  ·exact .inr (.inr (.inr (.inr (.inr (.inl h)))))
  ·exact .inr (.inr (.inr (.inr (.inr (.inr h)))))
theorem Mv(b:List Int):dA b=UJ (aU b) (aU (aU b).2.1) (aU (aU (aU b).2.1).2.1) (aU (aU (aU (aU b).2.1).2.1).2.1):=rfl
theorem ZQ(b:List Int)(hb:∀x∈b,bZ x)(hl:b.length<=100000):PC 112 [.snap (aB aO b)] (.aK [.agg [zV (dA b).1.number,zV (dA b).1.parts,zV (dA b).1.sum,zV (dA b).1.index],.snap (aB aO (dA b).1.piece),zV (dA b).2]):=by
 refine aZ func112 ntmps112 (by simp only[go_sem]) ?_
 have c1:=HD b hb hl;have k1:=sI hb;have c2:=HD (aU b).2.1 k1.1 oM
 have k2:=sI k1.1;have c3:=HD (aU (aU b).2.1).2.1 k2.1 oM
 have k3:=sI k2.1;have c4:=HD (aU (aU (aU b).2.1).2.1).2.1 k3.1 oM
 have k4:=sI k3.1;have c5:=HC (aU (aU (aU (aU b).2.1).2.1).2.1).2.1 oM
 have c6:=au9 (aU b).1 (aU (aU b).2.1).1 (aU (aU (aU b).2.1).2.1).1 (aU (aU (aU (aU b).2.1).2.1).2.1).1;obtain⟨M,hM⟩:∃M,dA b=M:=⟨_,rfl⟩;rw[hM];rw[Mv]at hM;generalize aU (aU (aU (aU b).2.1).2.1).2.1=V at*;generalize aU (aU (aU b).2.1).2.1=Z at*;generalize aU (aU b).2.1=Y at*;generalize aU b=X at*;obtain⟨x,xr,xe⟩:=X;obtain⟨y,yr,ye⟩:=Y;obtain⟨z,zr,ze⟩:=Z
 obtain⟨v,vr,ve⟩:=V;unfold UJ at hM;simp only[]at*;have q4:vr.length<=100000:=oM
 clear k1 k2 k3 k4 hb;by_cases g1:xe=0
 ·subst g1
  rw[if_pos rfl]at hM;by_cases g2:ye=0
  ·subst g2
   rw[if_pos rfl]at hM;by_cases g3:ze=0
   ·subst g3
    rw[if_pos rfl]at hM;by_cases g4:ve=0
    ·subst g4
     rw[if_pos rfl]at hM;have BO:=av0 x y z v vr;by_cases g5:L5 x y z v=false
     ·rw[if_pos (BO.2 (.inl g5))]at hM
      subst hM;rw[g5]at c6;clear BO g5;unfold yT;refine aM ?_;refine fZ 5 ?_;refine gD ?_;exact zEa
     ·have xM:L5 x y z v=true:=by simpa using g5
      rw[xM]at c6;by_cases g6:vr=[]
      ·rw[if_pos (BO.2 (.inr (.inl g6)))]at hM
       subst hM g6;clear BO g5 xM;unfold yT;refine aM ?_;refine fZ 5 ?_;refine gD ?_;exact zEa
      ·have g6':¬(vr.length:Int)<1:=by have:=T7.2 g6;omega
       by_cases g7:4096<vr.length
       ·rw[if_pos (BO.2 (.inr (.inr g7)))]at hM
        subst hM;have ZR:(4096:Int)<vr.length:=oM
        clear BO g5 xM;unfold yT;refine aM ?_;refine fZ 5 ?_;refine gD ?_;exact zEa
       ·rw[if_neg (fun h=>by
         rcases BO.1 h with h|h|h
         ·exact g5 h
         ·exact g6 h
         ·exact g7 h)]at hM
        subst hM;have ZR:¬(4096:Int)<vr.length:=oM
        clear BO g5 xM;refine aE ?_;refine fZ 5 ?_;refine gD ?_;exact zE
    ·rw[if_neg g4]at hM
     subst hM;clear c6 c5;unfold yT;refine aM ?_;refine fZ 5 ?_;refine gD ?_;exact zEa
   ·rw[if_neg g3]at hM
    subst hM;clear c6 c5 c4;unfold yT;refine aM ?_;refine fZ 5 ?_;refine gD ?_;exact zEa
  ·rw[if_neg g2]at hM
   subst hM;clear c6 c5 c4 c3;unfold yT;refine aM ?_;refine fZ 5 ?_;refine gD ?_;exact zEa
 ·rw[if_neg g1]at hM
  subst hM;clear c6 c5 c4 c3 c2;unfold yT;refine aM ?_;refine fZ 5 ?_;refine gD ?_;exact zEa
theorem Mw(b:List Int)(hb:∀x∈b,bZ x)(hl:b.length<=100000):PC 55 [.snap (aB aO b)] (.aK [zV (dA b).1.number,zV (dA b).1.index,zV (dA b).1.parts,zV (dA b).2]):=by
 refine aZ func55 ntmps55 (by simp only[go_sem]) ?_
 have c1:=ZQ b hb hl;clear hb;exact zEa
instance :rN bY 1:=⟨fun _=>rfl,fun _=>rfl,fun l x hx=>by
 simp only[bY,dJ,iI,or_false]at hx;subst hx
 exact gJ l⟩
@[go_sem] theorem bU8:(true==true)=true:=rfl
@[go_sem] theorem bU9:(true==false)=false:=rfl
@[go_sem] theorem bV0:(false==true)=false:=rfl
@[go_sem] theorem bV1:(false==false)=true:=rfl
@[go_sem] theorem bV2:(!true)=false:=rfl
@[go_sem] theorem bV3:(!false)=true:=rfl
theorem gHv(l:List (List Int))(k:Nat)(h:k<l.length):(aB bY l)[k]? =some (bY (l.getD k [])):=tB [] h
theorem F7(l:List Bool)(k:Nat)(h:k<l.length):(aB eH l)[k]? =some (eH (l.getD k false)):=tB false h
theorem ZS(a:oX)(hl:a.dF.length<=1000000)(dG:a.seen.length<=1000000)(xK:∀x∈a.dF,x.length<=1000000):PC 197 [.agg (jX a)] (zV (uB a)):=by
 refine aZ func197 ntmps197 (.c _) ?_;obtain⟨n,p,s,h,e⟩:=a;have hE:uB ⟨n,p,s,h,e⟩=if n<1\/1073741824<n\/p<1\/65536<p\/s<0\/4294967295<s\/(h.length:Int)≠p\/(e.length:Int)≠p then 3 else if(List.range h.length).all (PX ⟨n,p,s,h,e⟩)=true then 0 else 3:=rfl
 have hp:∀i,PX ⟨n,p,s,h,e⟩ i=((decide (0<(h.getD i []).length)==e.getD i false)&&decide ((h.getD i []).length<=4096)):=fun i=>rfl
 generalize uB ⟨n,p,s,h,e⟩=M at*;generalize PX ⟨n,p,s,h,e⟩=q at*;unfold jX;simp only[]at*;by_cases g:n<1
 ·rw[if_pos (.inl g)]at hE
  subst hE;clear xK hp;exact zEa
 have g1:¬(n<1):=g;clear g;by_cases g:1073741824<n
 ·rw[if_pos (.inr (.inl g))]at hE
  subst hE;clear xK hp;exact zEa
 have g2:¬(1073741824<n):=g;clear g;by_cases g:p<1
 ·rw[if_pos (.inr (.inr (.inl g)))]at hE
  subst hE;clear xK hp;exact zEa
 have g3:¬(p<1):=g;clear g;by_cases g:65536<p
 ·rw[if_pos (.inr (.inr (.inr (.inl g))))]at hE
  subst hE;clear xK hp;exact zEa
 have g4:¬(65536<p):=g;clear g;by_cases g:s<0
 ·rw[if_pos (.inr (.inr (.inr (.inr (.inl g)))))]at hE
  subst hE;clear xK hp;exact zEa
 have g5:¬(s<0):=g;clear g;by_cases g:4294967295<s
 ·rw[if_pos (.inr (.inr (.inr (.inr (.inr (.inl g))))))]at hE
  subst hE;clear xK hp;exact zEa
 have g6:¬(4294967295<s):=g;clear g;by_cases g:(h.length:Int)≠p
 ·rw[if_pos (.inr (.inr (.inr (.inr (.inr (.inr (.inl g)))))))]at hE
  subst hE;clear xK hp;exact zEa
 have g7:¬((h.length:Int)≠p):=g;clear g;by_cases g:(e.length:Int)≠p
 ·rw[if_pos (.inr (.inr (.inr (.inr (.inr (.inr (.inr g)))))))]at hE
  subst hE;clear xK hp;exact zEa
 have g8:¬((e.length:Int)≠p):=g;clear g
 rw[if_neg (by
  rintro(h|h|h|h|h|h|h|h)
  ·exact g1 h
  ·exact g2 h
  ·exact g3 h
  ·exact g4 h
  ·exact g5 h
  ·exact g6 h
  ·exact g7 h
  ·exact g8 h)]at hE
 have ZR:(h.length:Int)=p:=Y5.1 g7;have g8':(e.length:Int)=p:=Y5.1 g8;clear g7 g8;subst ZR;have xN:=gHv h;have rW:=F7 e;refine aM ?_;refine dC (α:=Unit) h.length (fun k _=> [(52,true,zV k),(51,true,zV h.length),(50,true,.snap (aB bY h)),(1,true,.ptr 0 0 0)]) (fun _ _=> [(0,some (.cells 216 5 [[zV n,zV h.length,zV s,.snap (aB bY h),.snap (aB eH e)]] true false))]) (fun k m _=>1<=m/\∀i,i<k->q i=true) ⟨100,(),⟨oM,fun i hi=>by omega⟩,aG⟩ (fun k m _ hk hR=> ?_) (fun m _ hR=> ?_)
 ·obtain⟨hm,hR⟩:=hR
  have k1:(aB bY h)[k]? =some [.snap (aB aO (h.getD k []))]:=xN k hk;have k2:(aB eH e)[k]? =some [bV (e.getD k false)]:=rW k oM
  have k3:=xK _ (eB [] hk);have BP:=hp k
  have cW:bC (q k=true->∀i,i<k+1->q i=true):=⟨fun hq i hi=>by
   rcases Nat.lt_succ_iff_lt_or_eq.1 hi with h|h
   ·exact hR i h
   ·subst h;exact hq⟩
  have BQ:bC (q k=false->M=3):=⟨fun hq=>by rw[hE,if_neg];intro h5;rw[iM]at h5;rw[h5 k (by simpa using hk)]at hq;cases hq⟩
  clear xN rW hp hR hE xK;generalize h.getD k []=l at*;generalize e.getD k false=b at*;by_cases g9:0<l.length
  ·have g9':(0:Int)<l.length:=oM
   cases b with
   |true=>
    by_cases g10:l.length<=4096
    ·have hq:q k=true:=by rw[BP];simp[g9,g10]
     have pD:=bC.mk (cW.out hq);have av3:¬(4096:Int)<l.length:=oM
     clear BP cW BQ hq;refine aM ?_;exact⟨m+60,(),⟨oM,pD.out⟩,aG⟩
    ·have hq:q k=false:=by rw[BP];simp[g9,g10]
     obtain rfl:=BQ.out hq;have av3:(4096:Int)<l.length:=oM
     clear BP cW BQ hq;exact zEa
   |false=>
    have hq:q k=false:=by rw[BP];simp[g9]
    obtain rfl:=BQ.out hq;clear BP cW BQ hq;by_cases g10:(4096:Int)<l.length
    ·refine aM ?_
     exact cR
    ·refine aM ?_
     exact cR
  ·have g9':¬(0:Int)<l.length:=oM
   have g10:¬(4096:Int)<l.length:=oM
   cases b with
   |true=>
    have hq:q k=false:=by rw[BP];simp[g9]
    obtain rfl:=BQ.out hq;clear BP cW BQ hq;exact zEa
   |false=>
    have hq:q k=true:=by rw[BP];simp[g9];omega
    have pD:=bC.mk (cW.out hq);clear BP cW BQ hq;refine aM ?_;exact⟨m+60,(),⟨oM,pD.out⟩,aG⟩
 ·rw[if_pos (iM.2 fun i hi=>hR.2 i (by simpa using hi))]at hE
  subst hE;clear hR xN rW hp xK;exact zEa
theorem UM{b:List Int}(hb:∀x∈b,bZ x)(h:(dA b).2=0):1<=(dA b).1.number/\(dA b).1.number<=1073741824/\0<=(dA b).1.index/\(dA b).1.index<(dA b).1.parts/\(dA b).1.parts<=65536/\0<=(dA b).1.sum/\(dA b).1.sum<=4294967295/\1<=(dA b).1.piece.length/\(dA b).1.piece.length<=4096/\(∀x∈(dA b).1.piece,bZ x)/\(dA b).1.piece.length<=b.length:=by
 rw[Mv]at h⊢;have k1:=sI hb;have k2:=sI k1.1;have k3:=sI k2.1;have k4:=sI k3.1;have n2:=ZK k1.1;have n4:=ZK k3.1;generalize aU (aU (aU (aU b).2.1).2.1).2.1=V at*;generalize aU (aU (aU b).2.1).2.1=Z at*;generalize aU (aU b).2.1=Y at*;generalize aU b=X at*;obtain⟨x,xr,xe⟩:=X;obtain⟨y,yr,ye⟩:=Y;obtain⟨z,zr,ze⟩:=Z;obtain⟨v,vr,ve⟩:=V;unfold UJ at h⊢
 simp only[]at*;by_cases g1:xe=0
 ·rw[if_pos g1]at h⊢
  by_cases g2:ye=0
  ·rw[if_pos g2]at h⊢
   by_cases g3:ze=0
   ·rw[if_pos g3]at h⊢
    by_cases g4:ve=0
    ·rw[if_pos g4]at h⊢
     by_cases g5:HR x y z v vr
     ·rw[if_pos g5]at h
      exact absurd h dE
     ·rw[if_neg g5]
      unfold HR at g5;have hv:vr≠[]:=fun e=>g5 (.inr (.inr (.inr (.inr (.inr (.inl e))))))
      have fI:=T7.2 hv;have a1:¬x<1:=fun e=>g5 (.inl e)
      have a2:¬1073741824<x:=fun e=>g5 (.inr (.inl e))
      have a3:¬z<=y:=fun e=>g5 (.inr (.inr (.inl e)))
      have a4:¬65536<z:=fun e=>g5 (.inr (.inr (.inr (.inl e))))
      have a5:¬4294967295<v:=fun e=>g5 (.inr (.inr (.inr (.inr (.inl e)))))
      have a6:¬4096<vr.length:=fun e=>g5 (.inr (.inr (.inr (.inr (.inr (.inr e))))))
      exact⟨Y6.1 a1,Y6.1 a2,n2,Int.not_le.1 a3,Y6.1 a4,n4,Y6.1 a5,fI,Nat.not_lt.1 a6,k4.1,by have:=k4.2;have:=k3.2;have:=k2.2;have:=k1.2;simp only[]at*;omega⟩
    ·rw[if_neg g4]at h;exact absurd h g4
   ·rw[if_neg g3]at h;exact absurd h g3
  ·rw[if_neg g2]at h;exact absurd h g2
 ·rw[if_neg g1]at h;exact absurd h g1
def PZ:List AV:=[.c (.slice none 0 0)]
def vN(n i:Nat)(p:List Int):List (List AV):=(List.replicate n PZ).set i [.snap (aB aO p)]
theorem ZT(n i:Nat)(p:List Int):(vN n i p).length=n:=by simp[vN]
theorem av4{a b:List (List AV)}(hl:a.length=b.length)(h:∀(i:Nat) r r',a[i]? =some r->b[i]? =some r'->r.length=r'.length/\∀(k:Nat) x y,r[k]? =some x->r'[k]? =some y->Wk x y):r7 a b:=⟨hl,h⟩
theorem av5(n i:Nat)(p:List Int):r7 (vN n i p) (aB bY ((List.replicate n []).set i p)):=by
 refine av4 (by rw[ZT,fK];simp) fun k r r' h1 h2=> ?_
 unfold vN at h1;simp only[aB,kJ,List.getElem?_set,yG,Ik]at h1 h2;by_cases hk:i=k
 ·subst hk
  by_cases hn:i<n
  ·simp[hn]at h1 h2
   subst h1 h2
   exact⟨rfl,fun j x y h3 h4=>by
    have h5:some x=some y:=by rw[<-h3,<-h4];rfl
    injection h5 with h5
    subst h5
    exact .refl _⟩
  ·simp[hn]at h1
 ·simp only[hk,if_false]at h1 h2
  by_cases hn:k<n
  ·simp[hn]at h1 h2
   subst h1 h2;refine⟨rfl,fun j x y h3 h4=> ?_⟩
   cases j with
   |zero=>
    simp only[PZ,bY,qX,bM]at h3 h4;subst h3 h4;exact .nil
   |succ j=>simp[PZ]at h3
  ·simp[hn]at h1
theorem av6(G:Nat->Option aI)(k n i:Nat)(p:List Int):(vN n i p).map (fun row=>row.map (bJ G k))=vN n i p:=by
 have h:∀row∈vN n i p,row.map (bJ G k)=row:=fun row hr=>by
  unfold vN at hr;rcases Y7 hr with h|h
  ·rw[(Ih.1 h).2]
   cases k<;>simp[PZ,bJ]
  ·subst h
   cases k<;>simp[bJ]
 rw[sG h,List.map_id']
theorem av7(n i:Nat)(p:List Int):∀row∈vN n i p,∀x∈row,bF x:=fun row hr x hx=>by
 unfold vN at hr;rcases Y7 hr with h|h
 ·rw[(Ih.1 h).2]at hx
  simp only[PZ,dJ,iI,or_false]at hx;subst hx;exact .c _
 ·subst h
  simp only[dJ,iI,or_false]at hx;subst hx;exact gJ p
theorem ZU(G:Nat->Option aI)(k:Nat)(l:List Bool):(aB eH l).map (fun row=>row.map (bJ G k))=aB eH l:=KQ (fun a x hx=>by simp[eH]at hx;exact⟨_,hx⟩) G k l
theorem av8(n i:Nat)(p:List Int):(List.replicate n [AV.c (.slice none 0 0)]).set i [.snap (aB aO p)]=vN n i p:=rfl
attribute [local irreducible] vN
theorem av9(b:List Int)(hb:∀x∈b,bZ x)(hl:b.length<=100000):PC 116 [.snap (aB aO b)] (.aK [.agg (jX (BN b).1),zV (BN b).2]):=by
 refine iZ func116 ntmps116 (by simp only[go_sem,jX]) ?_
 have c1:=ZQ b hb hl;have hE:BN b=if(dA b).2=0 then(⟨(dA b).1.number,(dA b).1.parts,(dA b).1.sum,(List.replicate (dA b).1.parts.toNat []).set (dA b).1.index.toNat (dA b).1.piece,(List.replicate (dA b).1.parts.toNat false).set (dA b).1.index.toNat true⟩,0)else(pU,(dA b).2):=rfl
 have eC:=UM hb;generalize BN b=M at*;generalize dA b=R at*;obtain⟨⟨n,i,p,s,l⟩,e⟩:=R;simp only[]at*;by_cases g:e=0
 ·rw[if_pos g]at hE
  subst hE g;obtain⟨h1,h2,h3,h4,h5,h6,h7,h8,h9,fG,mR⟩:=eC rfl;obtain⟨i,rfl⟩:=xD h3;obtain⟨p,rfl⟩:=xD (by omega:0<=p)
  have pS:=av8 p i l;have bV5:(List.replicate p [AV.c (.slice none 0 0)])[i]? =some [AV.c (.slice none 0 0)]:=by rw[Ik,if_pos oM]
  have bV6:(aB eH (List.replicate p false))[i]? =some [bV false]:=by rw[<-Mx,Ik,if_pos oM]
  have hex:=fun G k=>av6 G k p i l
  have hbx:=fun G k=>ZU G k ((List.replicate p false).set i true)
  have fM:(∀row,row∈vN p i l->∀x,x∈row->bF x)=True:=eq_true (av7 p i l);have hln:=ZT p i l;have nW:=av5 p i l;have cI:(vN p i l).take p=vN p i l:=cN (by rw[ZT];exact cA _)
  have htb:((List.replicate p false).set i true).take p=(List.replicate p false).set i true:=cN (by simp)
  have xO:(∀row,row∈aB eH ((List.replicate p false).set i true)->∀x,x∈row->bF x)=True:=eq_true (oN _);simp only[sY]at*;clear eC h8 h9 fG mR hb;unfold jX;simp only[];refine aE ?_;refine⟨?_,?_⟩
  ·(simp(maxSteps:=2000000) (disch:=omega) only[go_sem,fH,eM,fD,fC,false_implies,implies_true, *])
  ·(simp(maxSteps:=2000000) (disch:=omega) only[go_sem,fH,eM,fD,fC,false_implies,implies_true, *];(repeat (first|exact .refl _|exact .nil|exact mS|refine eE ?_ ?_|refine H9 ?_|refine vD ?_|refine HA ?_|exact BH|exact nW|refine u3 ?_ ?_)))
 ·rw[if_neg g]at hE
  subst hE;unfold jX pU;clear eC hb;exact zE
end Go.Proofs.YtpaomccedbjknaaGreatDoor
