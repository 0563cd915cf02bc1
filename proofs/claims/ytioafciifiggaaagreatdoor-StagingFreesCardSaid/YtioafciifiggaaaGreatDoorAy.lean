/- Staging. No condition. -/
import Derived.Test.YtioafciifiggaaaGreatDoorL0
import Derived.Test.YtioafciifiggaaaGreatDoorAx
import Derived.Test.YtioafciifiggaaaGreatDoorLg
import Derived.Test.YtioafciifiggaaaGreatDoorAw
import Derived.Test.YtioafciifiggaaaGreatDoorLc
import Derived.KernelRfl
set_option linter.all false
namespace Go.Proofs.YtioafciifiggaaaGreatDoor
open Go.Proofs Go.AL
set_option maxRecDepth 100000
set_option maxHeartbeats 8000000
attribute [local irreducible] cH AW b9 dR eH hold
attribute [local irreducible] jI
theorem ad4(a b:Int):PC 89 [zV a,zV b] (.snap (aA aN (aQ a++aQ b))):=by
 refine bI Tryz.func89 Tryz.ntmps89 (kL _) ?_;have c2:=TV a;have v1:=yL a;have c3:=OH (aQ a) b (by omega)
 rw[pW]at c2;have t1:(aQ a).take (aQ a).length=aQ a:=lI;have t2:(aQ a++aQ b).take (aQ a++aQ b).length=aQ a++aQ b:=lI;generalize aQ a++aQ b=B at*;generalize aQ a=A at*;refine aD ?_;exact aC
theorem bl8(a c:Int):PC 46 [.agg [zV a,zV c]] (.aU [.agg (eZ (C0 a c).1),.snap (aA bJ (C0 a c).2.1),zV (C0 a c).2.2]):=by
 refine BI Tryz.func46 Tryz.ntmps46 (by simp only[go_sem,eZ]) ?_
 have c1:=Ij a c;have c3:=ad4 0 1;have c4:=aL8 a (aQ 0++aQ 1) (by have:=yL 0;have:=yL 1;rw[bP];omega)
 have KP:=aM0 a (aQ 0++aQ 1);obtain⟨M,hM⟩:∃M,C0 a c=M:=⟨_,rfl⟩;rw[hM];unfold C0 at hM;have Kw:=fun h=>IS (a:=a) (b:=c) h
 generalize qY a c=v at*;generalize CX a (aQ 0++aQ 1)=E at*;generalize aQ 0++aQ 1=V at*;obtain⟨so,se⟩:=E;simp only[]at*;cases v with
 |false=>
  rw[if_neg (by decide)]at hM
  subst hM;unfold eZ j9;clear c3 c4 Kw;refine aD ?_;exact aC
 |true=>
  rw[if_pos rfl]at hM;have h5:=Kw rfl;have c2:=IX a c;have w1:=IntWalk.i64_in (c-16) (by omega)
  rw[w1]at c2;clear Kw;obtain⟨n,rfl⟩:∃n:Nat,c=(n:Int)+16:=⟨(c-16).toNat,by omega⟩
  have e1:(n:Int)+16-16=n:=by omega
  have c5:=ab7 a (n+16) 0 (List.replicate n aE) (by omega) (by omega) (by omega) (by omega) (by omega) (by omega) (by rw[s6];omega)
  have hW:tC a ((n:Int)+16-16) 0 (List.replicate n aE)=[(0,a+16,List.replicate n aE)]:=by
   unfold tC;rw[if_neg (by rw[s6];omega)]
   simp
  have hz:qR ((n:Int)+16-16)=List.replicate n aE:=by unfold qR;rw[e1,mE]
  rw[hW]at c5;rw[hz]at hM;rw[e1]at c2 w1;clear hW hz e1;have r1:aA bJ [(0,a+16,List.replicate n aE)]=[[zV 0,zV (a+16),.snap (aA aS (List.replicate n aE))]]:=rfl;rw[r1]at c5
  have A6:∀so:List eW,xJ ([zV 0,zV (a+16),.snap (aA aS (List.replicate n aE))]::[zV 1,zV 0,.c (.slice none 0 0)]::aA bJ so) (aA bJ ([(0,a+16,List.replicate n aE),(1,0,[])]++so)):=fun so=>by
   have e:aA bJ ([(0,a+16,List.replicate n aE),(1,0,[])]++so)=[zV 0,zV (a+16),.snap (aA aS (List.replicate n aE))]::[zV 1,zV 0,.snap []]::aA bJ so:=rfl;rw[e];exact yN (TZ _) (yN (jH (.refl _) (jH (.refl _) (jH .nil sD))) (TY _))
  by_cases g:se=0
  ·rw[if_pos g]at hM
   subst hM g;unfold eZ;simp only[];have e:aA bJ ([(0,a+16,List.replicate n aE),(1,0,[])]++so)=[zV 0,zV (a+16),.snap (aA aS (List.replicate n aE))]::[zV 1,zV 0,.snap []]::aA bJ so:=rfl;rw[e];have hT:∀a b:List AV,List.take (2+so.length) (a::b::aA bJ so)=a::b::aA bJ so:=fun a b=>eD (by simp only[dK,mH];omega)
   clear e A6;refine aD ?_;refine Bt ?_;refine aD ?_;exact oD
  ·rw[if_neg g]at hM
   subst hM;unfold eZ j9;refine aD ?_;refine Bt ?_;refine aD ?_;exact aC
theorem Kx(a c:Int):PC 14 [.agg [zV a,zV c]] (.aU [.agg (dG (tW a c).1),.snap (aA bJ (tW a c).2.1),zV (tW a c).2.2]):=by
 refine bI Tryz.func14 Tryz.ntmps14 (by simp only[go_sem,dG]) ?_
 have c1:=bl8 a c;obtain⟨M,hM⟩:∃M,tW a c=M:=⟨_,rfl⟩;rw[hM];unfold tW at hM;generalize C0 a c=E at*;obtain⟨⟨js,jc,jh,jt,jf,jz⟩,o,e⟩:=E;unfold eZ at c1;simp only[]at*;by_cases g:e=0
 ·rw[if_pos g]at hM
  subst hM g;unfold dG;simp only[];refine aD ?_;exact aC
 ·rw[if_neg g]at hM
  subst hM;unfold dG lZ j9;simp only[];refine aD ?_;exact aC
end Go.Proofs.YtioafciifiggaaaGreatDoor
namespace Go.Proofs.YtioafciifiggaaaGreatDoor
open Go.Proofs Go.AL
set_option maxRecDepth 100000
set_option maxHeartbeats 8000000
attribute [local irreducible] cH AW b9 dR eH hold
def rO(n:Int):jJ:=⟨n-1,n,0,[],[(0,0,[((n % 256,0,0,0),(0,0,0,0))])]⟩
def LP:List Int:=[3,0,2,245,235,241,168,1,2,3,0,0,1,0,0,1,3,0]
def LQ:List Int:=[3,1,2,245,235,241,168,1,0,0,0,0,0,0]
def Ky:List Int:=[4,0,2,249,241,183,240,2,3,4,0,0,1,0,0,1,4,0]
def LR:List Int:=[4,1,2,249,241,183,240,2,0,0,0,0,0,0]
def PR:cX:=⟨⟨0,100,0,0,1,[]⟩,[]⟩
def PS:cX:=⟨⟨0,100,0,7,1,[7]⟩,[⟨3,2,354186741,[[2,3,0,0,1,0,0,1,3,0],[]],[true,false],[1],false⟩]⟩
def PT:cX:=⟨⟨0,100,0,13,1,[7,6]⟩,[⟨3,2,354186741,[[2,3,0,0,1,0,0,1,3,0],[0,0,0,0,0,0]],[true,true],[1,2],false⟩]⟩
def J1:cX:=⟨⟨0,100,0,19,1,[7,6,6]⟩,[⟨3,2,354186741,[[2,3,0,0,1,0,0,1,3,0],[0,0,0,0,0,0]],[true,true],[1,2],false⟩,⟨4,2,772667641,[[],[0,0,0,0,0,0]],[false,true],[3],false⟩]⟩
def wS:cX:=⟨⟨0,100,0,21,1,[7,6,6,2]⟩,[⟨3,2,354186741,[[2,3,0,0,1,0,0,1,3,0],[0,0,0,0,0,0]],[true,true],[1,2,4],true⟩,⟨4,2,772667641,[[],[0,0,0,0,0,0]],[false,true],[3],false⟩]⟩
theorem fa1:kP (rO 3) 10=([LP,LQ],0):=by kernel_rfl
theorem fa2:kP (rO 4) 10=([Ky,LR],0):=by kernel_rfl
theorem fa3:(tW 0 100).1=PR/\(tW 0 100).2.2=0:=⟨by kernel_rfl,by kernel_rfl⟩
theorem fa4:(nL PR LP).1=PS/\(nL PR LP).2.2=0:=⟨by kernel_rfl,by kernel_rfl⟩
theorem fa5:(nL PS LQ).1=PT/\(nL PS LQ).2.2=0:=⟨by kernel_rfl,by kernel_rfl⟩
theorem fa6:(nL PT LR).1=J1/\(nL PT LR).2.2=0:=⟨by kernel_rfl,by kernel_rfl⟩
theorem Kz:(mT J1 3).1=wS/\(mT J1 3).2.1.length=2/\(mT J1 3).2.2=0:=⟨by kernel_rfl,by kernel_rfl,by kernel_rfl⟩
theorem fa8:(mT wS 4).2.2=15:=by kernel_rfl
theorem fa9:(L6 wS 4).2=12:=by kernel_rfl
theorem bm3:L6 wS 3=(rO 3,0):=by kernel_rfl
theorem bm4:BU wS=[3]:=by kernel_rfl
def ad9(s:cX):Bool:=decide (s.j.b8.length<=100)&&decide (s.aR.length<=20)&&s.aR.all fun x=>decide (x.bS.length<=60)&&decide (x.seen.length<=60)&&decide (x.records.length<=100)&&x.bS.all fun p=>decide (p.length<=200)&&p.all fun b=>decide (0<=b)&&decide (b<256)
theorem ae0{n:Nat}:∀(h:List (List Int)),(∀x∈h,x.length<=n)->fO h<=h.length*n
 |[],_=>by simp[fO]
 |x::h,hh=>by
  have h1:=ae0 h (fun y hy=>hh y (by simp[hy]))
  have h2:=hh x (by simp)
  simp only[fO,gJ,qP,dK,vG]at*;omega
theorem VV{s:cX}(h:ad9 s=true):rA s:=by
 unfold ad9 at h;simp only[k6,decide_eq_true_eq,gK]at h;obtain⟨⟨h1,h2⟩,h3⟩:=h;refine⟨by omega,by omega,fun x hx=> ?_⟩
 obtain⟨⟨⟨h4,h5⟩,h6⟩,h7⟩:=h3 x hx;have h8:=ae0 (n:=200) x.bS (fun y hy=>(h7 y hy).1)
 refine⟨⟨by show x.bS.length<=100000;omega,by show x.seen.length<=100000;omega,fun y hy=>⟨by have:=(h7 y hy).1;omega,fun z hz=>(h7 y hy).2 z hz⟩,?_⟩,by omega⟩
 show fO x.bS<=100000
 have:x.bS.length*200<=60*200:=nN 200 h4;omega
theorem la0:rA PR:=VV (by kernel_rfl)
theorem la1:rA PS:=VV (by kernel_rfl)
theorem la2:rA PT:=VV (by kernel_rfl)
theorem la3:rA J1:=VV (by kernel_rfl)
theorem Bu:rA wS:=VV (by kernel_rfl)
end Go.Proofs.YtioafciifiggaaaGreatDoor
namespace Go.Proofs.YtioafciifiggaaaGreatDoor
open Go.Proofs Go.AL
set_option maxRecDepth 100000
set_option maxHeartbeats 8000000
attribute [local irreducible] cH AW b9 dR eH hold
attribute [local irreducible] jI
theorem bm9(n:Int):mI (rO n)=[zV (n-1),zV n,zV 0,.snap [],.snap [[zV 0,zV 0,.snap [[uV (n % 256),uV 0,uV 0,uV 0,uV 0,uV 0,uV 0,uV 0]]]]]:=rfl
theorem ae1(n:Int)(h0: -100000<=n)(h1:n<=2000000000):PC 28 [zV n] (.agg (mI (rO n))):=by
 rw[bm9];refine BI Tryz.func28 Tryz.ntmps28 (by simp[fQ,eV,fC]) ?_
 have Jd:aS aE=[uV 0,uV 0,uV 0,uV 0,uV 0,uV 0,uV 0,uV 0]:=rfl;have hu:=VL n;have w:=IntWalk.i64_in (n-1) (by omega)
 refine aD ?_;exact oD
theorem VW{l:List Int}(h:(l.all fun b=>decide (0<=b)&&decide (b<256))=true):∀x∈l,aV x:=fun x hx=>by
 rw[gK]at h;have:=h x hx;simp only[k6,decide_eq_true_eq]at this;exact this
theorem bn0(n:Int):OR (rO n):=⟨by simp[rO],by simp[rO],by intro x hx;simp[rO]at hx;subst hx;simp⟩
theorem ae2(n:Int)(hb:∀x∈qE (rO n),aV x)(hl:(qE (rO n)).length<=100000):PC 27 [.agg (mI (rO n)),zV 10] (.aU [.snap (aA dF (kP (rO n) 10).1),zV (kP (rO n) 10).2]):=
 ac1 (rO n) 10 (bn0 n) (by simp[rO]) (by simp[rO]) (by intro x hx;simp[rO]at hx;subst hx;simp) hl hb
theorem ae3:PC 9 [] (bV true):=by
 refine bI Tryz.func9 Tryz.ntmps9 (.c _) ?_;have c1:=ae1 3 (by decide) (by decide)
 have c2:=ae1 4 (by decide) (by decide)
 have c3:=ae2 3 (VW (by kernel_rfl)) (aG3 (by kernel_rfl))
 have c4:=ae2 4 (VW (by kernel_rfl)) (aG3 (by kernel_rfl))
 rw[fa1]at c3;rw[fa2]at c4;have c5:=Kx 0 100;rw[fa3.1,fa3.2]at c5;have c6:=Br PR LP la0 (VW (by kernel_rfl)) (by decide)
 rw[fa4.1,fa4.2]at c6;have c7:=Br PS LQ la1 (VW (by kernel_rfl)) (by decide)
 rw[fa5.1,fa5.2]at c7;have c8:=Br PT LR la2 (VW (by kernel_rfl)) (by decide)
 rw[fa6.1,fa6.2]at c8;have c9:=Ku J1 3 la3;rw[Kz.1,Kz.2.2]at c9;have rP:(mT J1 3).2.1.length=2:=Kz.2.1;have DP:=Ku wS 4 Bu;rw[fa8]at DP;have uU:=Za wS 4 Bu;rw[fa9]at uU;have sL:=Za wS 3 Bu;rw[bm3]at sL;have C5:=Zb wS Bu;rw[bm4]at C5;have c14:FC 32 [.snap [[zV 1],[zV 2],[zV 4]],.snap [[zV 1],[zV 2],[zV 4]]] (bV true):=tL.Hb (ad3 [1,2,4] (by decide)) rfl
 have c15:FC 32 [.snap [[zV 3]],.snap [[zV 3]]] (bV true):=tL.Hb (ad3 [3] (by decide)) rfl
 have Bv:=bl7 (rO 3) (by decide) (by decide) (by intro x hx;simp[rO]at hx;subst hx;simp)
 have h3:aA bD [3]=[[zV 3]]:=rfl;rw[h3]at C5;have hP:aA dF [LP,LQ]=[[.snap (aA aN LP)],[.snap (aA aN LQ)]]:=rfl;have hQ:aA dF [Ky,LR]=[[.snap (aA aN Ky)],[.snap (aA aN LR)]]:=rfl;rw[hP]at c3;rw[hQ]at c4;have hl4:(aA bQ wS.aR).length=2:=by rw[mH];rfl
 have hl5:wS.aR.length=2:=rfl;have hg4:(aA bQ wS.aR)[0]? =some [zV 3,zV 2,zV 354186741,.snap (aA dF [[2,3,0,0,1,0,0,1,3,0],[0,0,0,0,0,0]]),.snap (aA eJ [true,true]),.snap [[zV 1],[zV 2],[zV 4]],bV true]:=rfl;generalize (mT wS 4).1=U1 at*;generalize (mT wS 4).2.1=U2 at*;generalize (mT J1 3).2.1=U3 at*;generalize (nL PR LP).2.1=U4 at*;generalize (nL PS LQ).2.1=U5 at*
 generalize (nL PT LR).2.1=U6 at*;generalize (tW 0 100).2.1=U7 at*;generalize (L6 wS 4).1=U8 at*;obtain⟨⟨us,uc,uh,ut,uf,uz⟩,ul⟩:=U1;obtain⟨vb,vn,vt,vp,vw⟩:=U8;have e3:mI (rO 3)=[zV 2,zV 3,zV 0,.snap [],.snap [[zV 0,zV 0,.snap [[uV 3,uV 0,uV 0,uV 0,uV 0,uV 0,uV 0,uV 0]]]]]:=rfl;have e4:mI (rO 4)=[zV 3,zV 4,zV 0,.snap [],.snap [[zV 0,zV 0,.snap [[uV 4,uV 0,uV 0,uV 0,uV 0,uV 0,uV 0,uV 0]]]]]:=rfl
 rw[e3]at c1 c3 sL Bv;rw[e4]at c2 c4;clear e3 e4;unfold dG mI at*;simp only[]at*;clear hP hQ h3;refine aD ?_;refine Bt ?_;refine aD ?_;exact aC
structure LS(s:cX)(o:List eW):Prop where
 b8:s.j.b8.length<=100001
 aR:s.aR.length<=100001
 one:∀x∈s.aR,F3 x
 ops:o.length<=10
 data:∀w∈o,w.2.2.length<=2000
theorem H3:LS lZ []:=⟨by simp[lZ,j9],by simp[lZ],fun x hx=>by simp[lZ]at hx,by simp,fun w hw=>by simp at hw⟩
theorem bn1{a n p:Int}{l:List aH}(hl:l.length<=1100):∀w∈tC a n p l,w.2.2.length<=2000:=fun w hw=>by
 unfold tC at hw;split at hw
 ·simp only[cG,jF,or_false]at hw
  rcases hw with rfl|rfl
  ·simp only[cU];omega
  ·simp only[eF];omega
 ·simp only[cG,jF,or_false]at hw
  subst hw;simp only[];omega
theorem bn2(j:Jr)(k:Int)(p:List Int):(kD j k p).2.1.length<=10/\∀w∈(kD j k p).2.1,w.2.2.length<=2000:=by
 have h0:([]:List eW).length<=10/\∀w∈([]:List eW),w.2.2.length<=2000:=⟨by simp,fun w hw=>by simp at hw⟩
 unfold kD;split
 ·split
  ·split
   ·exact h0
   ·split
    ·exact h0
    ·simp only[]
     refine⟨?_,fun w hw=> ?_⟩
     ·have:=ac7 j.start (j.count-16) j.tail (tB k (jN j) p).1
      rw[bP];simp only[dK,fJ];omega
     ·rcases lS.1 hw with h|h
      ·exact bn1 ac6 w h
      ·simp only[cG,jF,or_false]at h
       subst h;simp
  ·exact h0
 ·exact h0
theorem La{s:cX}{k:Int}{p:List Int}{x:aW}(hs:rA s)(hx:F3 x):LS (vN s k p x).1 (vN s k p x).2.1:=by
 have h1:=bn2 s.j k p;unfold vN;split
 ·refine⟨?_,?_,fun y hy=> ?_,h1.1,h1.2⟩
  ·have:=bl5 (j:=s.j) (k:=k) (p:=p)
   have:=hs.b8;simp only[];omega
  ·have:=LO s.aR x
   have:=hs.aR;simp only[];omega
  ·rcases VU hy with h|h
   ·subst h;exact hx
   ·exact(hs.one y h).l2
 ·exact H3
theorem ae4{s:cX}(hs:rA s):LS s []:=⟨by have:=hs.b8;omega,by have:=hs.aR;omega,fun x hx=>(hs.one x hx).l2,by simp,fun w hw=>by simp at hw⟩
theorem bn3{s:cX}{p:List Int}(hs:rA s)(hp:∀x∈p,aV x):LS (nL s p).1 (nL s p).2.1:=by
 unfold nL;split
 ·rename_i g
  obtain⟨-,-,h3⟩:=BV g;have mM:=ET s.j _ _ _ h3;split
  ·split
   ·rename_i g3
    obtain⟨hi,-⟩:=yR g3;have hm:=cQ aY hi;have hx:=hs.one _ hm;have pK:=VT (mM _ hm);split
    ·split
     ·exact ae4 hs
     ·exact La hs ⟨Bo hx.bF.ok hp,by unfold iT;simp only[bP,dK,fJ];omega⟩
    ·exact H3
   ·split
    ·exact H3
    ·exact La hs ⟨Bp hp,by simp[iT]⟩
  ·exact H3
 ·exact H3
theorem bn4{s:cX}{n:Int}(hs:rA s):LS (mT s n).1 (mT s n).2.1:=by
 unfold mT;split
 ·rename_i g
  obtain⟨-,-,h3⟩:=BV g;have mM:=ET s.j _ _ _ h3;split
  ·rename_i g3
   obtain⟨hi,-⟩:=yR g3;have hm:=cQ aY hi;have hx:=hs.one _ hm;have pK:=VT (mM _ hm);split
   ·exact ae4 hs
   ·split
    ·exact La hs ⟨hx.bF.ok,by unfold iT;simp only[bP,dK,fJ];omega⟩
    ·exact H3
  ·exact H3
 ·exact H3
end Go.Proofs.YtioafciifiggaaaGreatDoor
namespace Go.Proofs.YtioafciifiggaaaGreatDoor
open Go.Proofs Go.AL
open Go.ChangeShapes Go.WideShapes Go.RowKit
theorem bn5{n:Int}(h:(Lit.int .u8 n).wf=true):aV n:=by
 have:=Go.bounds_u8 h;exact⟨by omega,by omega⟩
abbrev AK:Sh:= .int .i64
abbrev Lb:Sh:= .int .u8
theorem Lc{a:AV}(h:sM AK a):∃n:Int,a=zV n:=by
 obtain⟨n,rfl,hn⟩:=h.Bw;exact⟨n,rfl⟩
theorem bn6(r:List AV)(h:oQ [AK] r):∃x:Int,True/\r=bD x:=by
 obtain⟨a0,r,rfl,h0,g0⟩:=h.PU;obtain rfl:=g0.Ld;obtain⟨n,rfl,hn⟩:=h0.Bw;exact⟨n,trivial,rfl⟩
theorem open_ints{a:AV}(h:sM (.sl [AK]) a):∃l:List Int,(∀x∈l,True)/\l.length<=maxLen/\a= .snap (aA bD l):=ae5 bn6 h
end Go.Proofs.YtioafciifiggaaaGreatDoor
namespace Go.Proofs.YtioafciifiggaaaGreatDoor
open Go.Proofs Go.AL
set_option maxRecDepth 100000
set_option maxHeartbeats 1000000
attribute [local irreducible] cH AW b9 dR eH hold
def y4(c:jJ)(most:Nat):Nat:=sY (nB c).1.length most
def PV(c:jJ)(most i:Nat):List Int:=iJ (nB c).1 most i
def PX(c:jJ)(most i:Nat):List Int:=V2 c.number (i:Int) ((y4 c most:Nat):Int) (fV (nB c).1) (PV c most i)
structure CP(c:jJ)(most:Nat):Prop where
 enc:(nB c).2=0
 m1:1<=most
 m2:most<=4096
theorem CP.num{c:jJ}{most:Nat}(h:CP c most):1<=c.number/\c.number<=1073741824:=by
 have:=Xw (Is h.enc).2.1;have h1:=this.base;have h2:=this.number;omega
theorem bn7{l most i:Nat}(h:1<=most)(hi:i<sY l most):i*most<l:=by
 unfold sY at hi;have h1:=(Nat.le_div_iff_mul_le (by omega:0<most)).1 (Nat.succ_le_of_lt hi)
 rw[vG]at h1;omega
theorem bn8{c:jJ}{most i:Nat}(h:CP c most)(hi:i<y4 c most):1<=(PV c most i).length/\(PV c most i).length<=most:=by
 have h1:=bn7 h.m1 hi;have:=h.m1;unfold PV iJ;rw[cU,eF];omega
theorem Le{c:jJ}{most:Nat}(h:CP c most):kP c (most:Int)=((List.range (y4 c most)).map (PX c most),0):=by
 have h1:=h.m1;have h2:=h.m2;unfold kP;rw[if_pos h.enc,if_neg (by omega)]
 rfl
def pA(c:jJ)(most:Nat)(S:List Bool):nT:=⟨c.number,((y4 c most:Nat):Int),fV (nB c).1,(List.range (y4 c most)).map (fun i=>if S.getD i false=true then PV c most i else []),S⟩
def Lf(c:jJ)(most:Nat):List Bool:=List.replicate (y4 c most) false
theorem Lg:∀(S:List Bool) (i:Nat),i<S.length->S.getD i false=false->((S.set i true).filter id).length=(S.filter id).length+1
 |[],_,h,_=>by simp at h
 |b::S,0,_,hb=>by
  have:b=false:=by simpa using hb
  subst this;simp
 |b::S,i+1,hi,hb=>by
  have h1:=Lg S i (by simpa using hi) (by simpa using hb)
  cases b<;>simp[h1]
theorem Lh:∀(S:List Bool) (i:Nat),S.getD i false=true->S.set i true=S
 |[],_,h=>by simp at h
 |b::S,0,hb=>by
  have:b=true:=by simpa using hb
  subst this;rfl
 |b::S,i+1,hb=>by
  have h1:=Lh S i (by simpa using hb)
  rw[Ge,h1]
theorem ae6{n:Int}(h:n<=34359738367):(aQ n).length<=5:=by
 refine OG 4 _ ?_;unfold pE;split<;>omega
theorem ae7{n:Int}(h:n<=127):(aQ n).length<=1:=by
 refine OG 0 _ ?_;unfold pE;split<;>omega
theorem bn9{c:jJ}{most i:Nat}(h:CP c most)(hi:i<y4 c most)(hm:y4 c most<=127):(PX c most i).length<=most+12:=by
 have h1:=h.num;have h3:=bn8 h hi;have h4:=KV (nB c).1;have v1:=ae6 (n:=c.number) (by omega)
 have v2:=ae7 (n:=(i:Int)) (by omega)
 have v3:=ae7 (n:=((y4 c most:Nat):Int)) (by omega)
 have v4:=ae6 (n:=fV (nB c).1) (by omega)
 unfold PX V2;simp only[bP];omega
end Go.Proofs.YtioafciifiggaaaGreatDoor
