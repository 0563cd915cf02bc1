/- Staging. No condition. -/
import Derived.Test.YtioafciifiggaaaGreatDoorL0
import Derived.Test.YtioafciifiggaaaGreatDoorAzc
import Derived.Test.YtioafciifiggaaaGreatDoorLg
import Derived.Test.YtioafciifiggaaaGreatDoorAz
import Derived.Test.YtioafciifiggaaaGreatDoorLc
import Derived.KernelRfl
import Derived.JoinedOf
set_option linter.all false
namespace Go.Proofs.YtioafciifiggaaaGreatDoor
open Go.Proofs Go.AL
set_option maxRecDepth 100000
set_option maxHeartbeats 8000000
attribute [local irreducible] cB AW aX cZ dK hold
attribute [local irreducible] eV
theorem ax9(a b:Int):PC 89 [zV a,zV b] (.snap (aA aH (b9 a++b9 b))):=by
 refine aT Tryz.func89 Tryz.ntmps89 (iJ _) ?_;have c2:=PQ a;have v1:=rU a;have c3:=L8 (b9 a) b (by omega)
 rw[x8]at c2;have t1:(b9 a).take (b9 a).length=b9 a:=l4;have t2:(b9 a++b9 b).take (b9 a++b9 b).length=b9 a++b9 b:=l4;generalize b9 a++b9 b=B at*;generalize b9 a=A at*;refine aE ?_;exact aB
theorem ay0(a c:Int):PC 46 [.agg [zV a,zV c]] (.aR [.agg (eG (sV a c).1),.snap (aA bC (sV a c).2.1),zV (sV a c).2.2]):=by
 refine uH Tryz.func46 Tryz.ntmps46 (by simp only[go_sem,eG]) ?_
 have c1:=ZZ a c;have c3:=ax9 0 1;have c4:=ac1 a (b9 0++b9 1) (by have:=rU 0;have:=rU 1;rw[cP];omega)
 have QK:=Ke a (b9 0++b9 1);obtain⟨M,hM⟩:∃M,sV a c=M:=⟨_,rfl⟩;rw[hM];unfold sV at hM;have IS:=fun h=>yW (a:=a) (b:=c) h
 generalize lV a c=v at*;generalize rY a (b9 0++b9 1)=E at*;generalize b9 0++b9 1=V at*;obtain⟨so,se⟩:=E;simp only[]at*;cases v with
 |false=>
  rw[if_neg (by decide)]at hM
  subst hM;unfold eG l7;clear c3 c4 IS;refine aE ?_;exact aB
 |true=>
  rw[if_pos rfl]at hM;have h5:=IS rfl;have c2:=II a c;have w1:=IntWalk.i64_in (c-16) (by omega)
  rw[w1]at c2;clear IS;obtain⟨n,rfl⟩:∃n:Nat,c=(n:Int)+16:=⟨(c-16).toNat,by omega⟩
  have e1:(n:Int)+16-16=n:=by omega
  have c5:=On a (n+16) 0 (List.replicate n aO) (by omega) (by omega) (by omega) (by omega) (by omega) (by omega) (by rw[BO];omega)
  have hW:FP a ((n:Int)+16-16) 0 (List.replicate n aO)=[(0,a+16,List.replicate n aO)]:=by
   unfold FP;rw[if_neg (by rw[BO];omega)]
   simp
  have hz:rQ ((n:Int)+16-16)=List.replicate n aO:=by unfold rQ;rw[e1,nC]
  rw[hW]at c5;rw[hz]at hM;rw[e1]at c2 w1;clear hW hz e1;have r1:aA bC [(0,a+16,List.replicate n aO)]=[[zV 0,zV (a+16),.snap (aA aQ (List.replicate n aO))]]:=rfl;rw[r1]at c5
  have yV:∀so:List iC,xD ([zV 0,zV (a+16),.snap (aA aQ (List.replicate n aO))]::[zV 1,zV 0,.c (.slice none 0 0)]::aA bC so) (aA bC ([(0,a+16,List.replicate n aO),(1,0,[])]++so)):=fun so=>by
   have e:aA bC ([(0,a+16,List.replicate n aO),(1,0,[])]++so)=[zV 0,zV (a+16),.snap (aA aQ (List.replicate n aO))]::[zV 1,zV 0,.snap []]::aA bC so:=rfl;rw[e];exact vV (UR _) (vV (iO (.refl _) (iO (.refl _) (iO .nil sP))) (PT _))
  by_cases g:se=0
  ·rw[if_pos g]at hM
   subst hM g;unfold eG;simp only[];have e:aA bC ([(0,a+16,List.replicate n aO),(1,0,[])]++so)=[zV 0,zV (a+16),.snap (aA aQ (List.replicate n aO))]::[zV 1,zV 0,.snap []]::aA bC so:=rfl;rw[e];have hT:∀a b:List AV,List.take (2+so.length) (a::b::aA bC so)=a::b::aA bC so:=fun a b=>cR (by simp only[eI,fZ];omega)
   clear e yV;refine aE ?_;refine Cp ?_;refine aE ?_;exact nE
  ·rw[if_neg g]at hM
   subst hM;unfold eG l7;refine aE ?_;refine Cp ?_;refine aE ?_;exact aB
theorem Pj(a c:Int):PC 14 [.agg [zV a,zV c]] (.aR [.agg (fO (r7 a c).1),.snap (aA bC (r7 a c).2.1),zV (r7 a c).2.2]):=by
 refine aT Tryz.func14 Tryz.ntmps14 (by simp only[go_sem,fO]) ?_
 have c1:=ay0 a c;obtain⟨M,hM⟩:∃M,r7 a c=M:=⟨_,rfl⟩;rw[hM];unfold r7 at hM;generalize sV a c=E at*;obtain⟨⟨js,jc,jh,jt,jf,jz⟩,o,e⟩:=E;unfold eG at c1;simp only[]at*;by_cases g:e=0
 ·rw[if_pos g]at hM
  subst hM g;unfold fO;simp only[];refine aE ?_;exact aB
 ·rw[if_neg g]at hM
  subst hM;unfold fO nI l7;simp only[];refine aE ?_;exact aB
end Go.Proofs.YtioafciifiggaaaGreatDoor
namespace Go.Proofs.YtioafciifiggaaaGreatDoor
open Go.Proofs Go.AL
set_option maxRecDepth 100000
set_option maxHeartbeats 8000000
attribute [local irreducible] cB AW aX cZ dK hold
def pG(n:Int):oO:=⟨n-1,n,0,[],[(0,0,[((n % 256,0,0,0),(0,0,0,0))])]⟩
def IT:List Int:=[3,0,2,245,235,241,168,1,2,3,0,0,1,0,0,1,3,0]
def IU:List Int:=[3,1,2,245,235,241,168,1,0,0,0,0,0,0]
def Cq:List Int:=[4,0,2,249,241,183,240,2,3,4,0,0,1,0,0,1,4,0]
def IV:List Int:=[4,1,2,249,241,183,240,2,0,0,0,0,0,0]
def M6:l8:=⟨⟨0,100,0,0,1,[]⟩,[]⟩
def M7:l8:=⟨⟨0,100,0,7,1,[7]⟩,[⟨3,2,354186741,[[2,3,0,0,1,0,0,1,3,0],[]],[true,false],[1],false⟩]⟩
def M8:l8:=⟨⟨0,100,0,13,1,[7,6]⟩,[⟨3,2,354186741,[[2,3,0,0,1,0,0,1,3,0],[0,0,0,0,0,0]],[true,true],[1,2],false⟩]⟩
def FX:l8:=⟨⟨0,100,0,19,1,[7,6,6]⟩,[⟨3,2,354186741,[[2,3,0,0,1,0,0,1,3,0],[0,0,0,0,0,0]],[true,true],[1,2],false⟩,⟨4,2,772667641,[[],[0,0,0,0,0,0]],[false,true],[3],false⟩]⟩
def tQ:l8:=⟨⟨0,100,0,21,1,[7,6,6,2]⟩,[⟨3,2,354186741,[[2,3,0,0,1,0,0,1,3,0],[0,0,0,0,0,0]],[true,true],[1,2,4],true⟩,⟨4,2,772667641,[[],[0,0,0,0,0,0]],[false,true],[3],false⟩]⟩
theorem fa1:FD (pG 3) 10=([IT,IU],0):=by kernel_rfl
theorem fa2:FD (pG 4) 10=([Cq,IV],0):=by kernel_rfl
theorem Pk:(r7 0 100).1=M6/\(r7 0 100).2.2=0:=⟨by kernel_rfl,by kernel_rfl⟩
theorem Pl:(wF M6 IT).1=M7/\(wF M6 IT).2.2=0:=⟨by kernel_rfl,by kernel_rfl⟩
theorem Pm:(wF M7 IU).1=M8/\(wF M7 IU).2.2=0:=⟨by kernel_rfl,by kernel_rfl⟩
theorem Pn:(wF M8 IV).1=FX/\(wF M8 IV).2.2=0:=⟨by kernel_rfl,by kernel_rfl⟩
theorem Cr:(xR FX 3).1=tQ/\(xR FX 3).2.1.length=2/\(xR FX 3).2.2=0:=⟨by kernel_rfl,by kernel_rfl,by kernel_rfl⟩
theorem fa8:(xR tQ 4).2.2=15:=by kernel_rfl
theorem fa9:(I6 tQ 4).2=12:=by kernel_rfl
theorem ay5:I6 tQ 3=(pG 3,0):=by kernel_rfl
theorem ay6:VN tQ=[3]:=by kernel_rfl
def Po(s:l8):Bool:=decide (s.j.cD.length<=100)&&decide (s.cN.length<=20)&&s.cN.all fun x=>decide (x.cI.length<=60)&&decide (x.seen.length<=60)&&decide (x.records.length<=100)&&x.cI.all fun p=>decide (p.length<=200)&&p.all fun b=>decide (0<=b)&&decide (b<256)
theorem Pp{n:Nat}:∀(h:List (List Int)),(∀x∈h,x.length<=n)->jJ h<=h.length*n
 |[],_=>by simp[jJ]
 |x::h,hh=>by
  have h1:=Pp h (fun y hy=>hh y (by simp[hy]))
  have h2:=hh x (by simp)
  simp only[jJ,jW,u9,eI,uB]at*;omega
theorem R3{s:l8}(h:Po s=true):xI s:=by
 unfold Po at h;simp only[jX,decide_eq_true_eq,gK]at h;obtain⟨⟨h1,h2⟩,h3⟩:=h;refine⟨by omega,by omega,fun x hx=> ?_⟩
 obtain⟨⟨⟨h4,h5⟩,h6⟩,h7⟩:=h3 x hx;have h8:=Pp (n:=200) x.cI (fun y hy=>(h7 y hy).1)
 refine⟨⟨by show x.cI.length<=100000;omega,by show x.seen.length<=100000;omega,fun y hy=>⟨by have:=(h7 y hy).1;omega,fun z hz=>(h7 y hy).2 z hz⟩,?_⟩,by omega⟩
 show jJ x.cI<=100000
 have:x.cI.length*200<=60*200:=mU 200 h4;omega
theorem la0:xI M6:=R3 (by kernel_rfl)
theorem la1:xI M7:=R3 (by kernel_rfl)
theorem la2:xI M8:=R3 (by kernel_rfl)
theorem la3:xI FX:=R3 (by kernel_rfl)
theorem WL:xI tQ:=R3 (by kernel_rfl)
end Go.Proofs.YtioafciifiggaaaGreatDoor
namespace Go.Proofs.YtioafciifiggaaaGreatDoor
open Go.Proofs Go.AL
set_option maxRecDepth 100000
set_option maxHeartbeats 8000000
attribute [local irreducible] cB AW aX cZ dK hold
attribute [local irreducible] eV
theorem az1(n:Int):gT (pG n)=[zV (n-1),zV n,zV 0,.snap [],.snap [[zV 0,zV 0,.snap [[uV (n % 256),uV 0,uV 0,uV 0,uV 0,uV 0,uV 0,uV 0]]]]]:=rfl
theorem Pq(n:Int)(h0: -100000<=n)(h1:n<=2000000000):PC 28 [zV n] (.agg (gT (pG n))):=by
 rw[az1];refine uH Tryz.func28 Tryz.ntmps28 (by simp[eU,e8,eF]) ?_
 have Mi:aQ aO=[uV 0,uV 0,uV 0,uV 0,uV 0,uV 0,uV 0,uV 0]:=rfl;have hu:=W4 n;have w:=IntWalk.i64_in (n-1) (by omega)
 refine aE ?_;exact nE
theorem R4{l:List Int}(h:(l.all fun b=>decide (0<=b)&&decide (b<256))=true):∀x∈l,aV x:=fun x hx=>by
 rw[gK]at h;have:=h x hx;simp only[jX,decide_eq_true_eq]at this;exact this
theorem az2(n:Int):LC (pG n):=⟨by simp[pG],by simp[pG],by intro x hx;simp[pG]at hx;subst hx;simp⟩
theorem Pr(n:Int)(hb:∀x∈yU (pG n),aV x)(hl:(yU (pG n)).length<=100000):PC 27 [.agg (gT (pG n)),zV 10] (.aR [.snap (aA bW (FD (pG n) 10).1),zV (FD (pG n) 10).2]):=
 aw4 (pG n) 10 (az2 n) (by simp[pG]) (by simp[pG]) (by intro x hx;simp[pG]at hx;subst hx;simp) hl hb
theorem az3:PC 9 [] (bV true):=by
 refine aT Tryz.func9 Tryz.ntmps9 (.c _) ?_;have c1:=Pq 3 (by decide) (by decide)
 have c2:=Pq 4 (by decide) (by decide)
 have c3:=Pr 3 (R4 (by kernel_rfl)) (Nat.le_of_ble_eq_true (by kernel_rfl))
 have c4:=Pr 4 (R4 (by kernel_rfl)) (Nat.le_of_ble_eq_true (by kernel_rfl))
 rw[fa1]at c3;rw[fa2]at c4;have c5:=Pj 0 100;rw[Pk.1,Pk.2]at c5;have c6:=Cn M6 IT la0 (R4 (by kernel_rfl)) (by decide)
 rw[Pl.1,Pl.2]at c6;have c7:=Cn M7 IU la1 (R4 (by kernel_rfl)) (by decide)
 rw[Pm.1,Pm.2]at c7;have c8:=Cn M8 IV la2 (R4 (by kernel_rfl)) (by decide)
 rw[Pn.1,Pn.2]at c8;have c9:=Pf FX 3 la3;rw[Cr.1,Cr.2.2]at c9;have kK:(xR FX 3).2.1.length=2:=Cr.2.1;have v8:=Pf tQ 4 WL;rw[fa8]at v8;have nK:=Mx tQ 4 WL;rw[fa9]at nK;have mD:=Mx tQ 3 WL;rw[ay5]at mD;have pH:=ap7 tQ WL;rw[ay6]at pH;have c14:FC 32 [.snap [[zV 1],[zV 2],[zV 4]],.snap [[zV 1],[zV 2],[zV 4]]] (bV true):=xA.Ps (Pg [1,2,4] (by decide)) rfl
 have c15:FC 32 [.snap [[zV 3]],.snap [[zV 3]]] (bV true):=xA.Ps (Pg [3] (by decide)) rfl
 have c16:=ax8 (pG 3) (by decide) (by decide) (by intro x hx;simp[pG]at hx;subst hx;simp)
 have h3:aA bA [3]=[[zV 3]]:=rfl;rw[h3]at pH;have hP:aA bW [IT,IU]=[[.snap (aA aH IT)],[.snap (aA aH IU)]]:=rfl;have hQ:aA bW [Cq,IV]=[[.snap (aA aH Cq)],[.snap (aA aH IV)]]:=rfl;rw[hP]at c3;rw[hQ]at c4;have hl4:(aA cG tQ.cN).length=2:=by rw[fZ];rfl
 have hl5:tQ.cN.length=2:=rfl;have hg4:(aA cG tQ.cN)[0]? =some [zV 3,zV 2,zV 354186741,.snap (aA bW [[2,3,0,0,1,0,0,1,3,0],[0,0,0,0,0,0]]),.snap (aA cM [true,true]),.snap [[zV 1],[zV 2],[zV 4]],bV true]:=rfl;generalize (xR tQ 4).1=U1 at*;generalize (xR tQ 4).2.1=U2 at*;generalize (xR FX 3).2.1=U3 at*;generalize (wF M6 IT).2.1=U4 at*;generalize (wF M7 IU).2.1=U5 at*
 generalize (wF M8 IV).2.1=U6 at*;generalize (r7 0 100).2.1=U7 at*;generalize (I6 tQ 4).1=U8 at*;obtain⟨⟨us,uc,uh,ut,uf,uz⟩,ul⟩:=U1;obtain⟨vb,vn,vt,vp,vw⟩:=U8;have e3:gT (pG 3)=[zV 2,zV 3,zV 0,.snap [],.snap [[zV 0,zV 0,.snap [[uV 3,uV 0,uV 0,uV 0,uV 0,uV 0,uV 0,uV 0]]]]]:=rfl;have e4:gT (pG 4)=[zV 3,zV 4,zV 0,.snap [],.snap [[zV 0,zV 0,.snap [[uV 4,uV 0,uV 0,uV 0,uV 0,uV 0,uV 0,uV 0]]]]]:=rfl
 rw[e3]at c1 c3 mD c16;rw[e4]at c2 c4;clear e3 e4;unfold fO gT at*;simp only[]at*;clear hP hQ h3;refine aE ?_;refine Cp ?_;refine aE ?_;exact aB
end Go.Proofs.YtioafciifiggaaaGreatDoor
namespace Go.Proofs.YtioafciifiggaaaGreatDoor
open Go.Proofs Go.AL
open Go.ChangeShapes Go.WideShapes Go.RowKit
theorem FY{n:Int}(h:(Lit.int .u8 n).wf=true):aV n:=by
 have:=Go.bounds_u8 h;exact⟨by omega,by omega⟩
abbrev M9:Sh:= .int .i64
abbrev FZ:Sh:= .int .u8
theorem Pt{a:AV}(h:r9 M9 a):∃n:Int,a=zV n:=by
 obtain⟨n,rfl,hn⟩:=h.CF;exact⟨n,rfl⟩
end Go.Proofs.YtioafciifiggaaaGreatDoor
namespace Go.Proofs.YtioafciifiggaaaGreatDoor
open Go.Proofs Go.AL
set_option maxRecDepth 100000
set_option maxHeartbeats 1000000
attribute [local irreducible] cB AW aX cZ dK hold
def WM(c:oO)(k6:Nat):Nat:=xG (rZ c).1.length k6
def pcN(c:oO)(k6 i:Nat):List Int:=kH (rZ c).1 k6 i
def pA(c:oO)(k6:Nat)(S:List Bool):mO:=⟨c.number,((WM c k6:Nat):Int),eO (rZ c).1,(List.range (WM c k6)).map (fun i=>if S.getD i false=true then pcN c k6 i else []),S⟩
def Cs(c:oO)(k6:Nat):List Bool:=List.replicate (WM c k6) false
def PW(l:List bI):Prop:=l.Pairwise fun a b=>a.number<b.number
theorem PW.sort{l:List bI}(h:PW l):DG l:=fun i k fE hk=>by
 have h1:=Z0.1 h i k (by omega) hk fE
 have h2:l.getD i b8=l[i]:=by simp[show i<l.length by omega]
 have h3:l.getD k b8=l[k]:=by simp[hk]
 rw[h2,h3];exact h1
def Pu(l:List bI)(n:Int):Option bI:=if iW l n=true then some (l.getD (bE l n) b8)else none
theorem az6{l:List bI}(hl:PW l){x:bI}(hx:x∈l):iW l x.number=true/\l.getD (bE l x.number) b8=x:=by
 obtain⟨i,hi,hix⟩:=ER.1 hx;have h2:l.getD i b8=x:=by simp[hi,hix]
 have h1:bE l x.number=i:=by
  rcases TZ (bE l x.number) i with g|g|g
  ·have h3:=QG hl.sort (cA _) (by omega:bE l x.number<l.length)
   have h4:=hl.sort _ _ g hi;rw[h2]at h4;omega
  ·exact g
  ·have h3:=QF g
   rw[h2]at h3;omega
 refine⟨?_,by rw[h1];exact h2⟩
 unfold iW;rw[h1,h2];simp[hi]
theorem az8{l:List bI}{n:Int}{x:bI}(hx:x∈l.take (bE l n)):x.number<n:=by
 obtain⟨i,hi,rfl⟩:=ER.1 hx;rw[eD]at hi;have:=QF (l:=l) (n:=n) (i:=i) (by omega)
 simpa[show i<l.length by omega]using this
theorem az9{l:List bI}(hl:PW l){n:Int}{x:bI}(hx:x∈l.drop (bE l n)):n<=x.number:=by
 obtain⟨i,hi,rfl⟩:=ER.1 hx;rw[fX]at hi;have:=QG hl.sort (n:=n) (i:=bE l n+i) (by omega) (by omega)
 simpa[show bE l n+i<l.length by omega]using this
theorem aA0{l:List bI}(hl:PW l)(x:bI):PW (pD l x):=by
 unfold pD;split
 ·rename_i g
  obtain⟨h1,h2⟩:=yZ g;refine Z0.2 fun i k hi hk fE=> ?_
  rw[KY]at hi hk;have h3:=Z0.1 hl i k hi hk fE;have h4:(l[bE l x.number]).number=x.number:=by simpa[h1]using h2
  rw[List.getElem_set,List.getElem_set];by_cases g1:bE l x.number=i
  ·rw[if_pos g1,if_neg (by omega)]
   subst g1;omega
  ·rw[if_neg g1]
   by_cases g2:bE l x.number=k
   ·rw[if_pos g2]
    subst g2;omega
   ·rw[if_neg g2]
    exact h3
 ·rename_i g
  have hd:∀y∈l.drop (bE l x.number),x.number<y.number:=fun y hy=>by
   have h1:=az9 hl hy
   have h2:y.number≠x.number:=fun h=>g (by
    have:=(az6 hl (l5 hy)).1;rw[h]at this
    exact this)
   omega
  refine List.pairwise_append.2 ⟨List.Pairwise.sublist (List.take_sublist _ _) hl,List.pairwise_cons.2 ⟨hd,List.Pairwise.sublist (List.drop_sublist _ _) hl⟩,fun a ha b hb=> ?_⟩
  have h1:=az8 ha;rcases fB.1 hb with rfl|hb
  ·exact h1
  ·have:=hd b hb
   omega
structure Hv(s:l8)(c:oO)(k6:Nat)(S:List Bool):Prop where
 len:S.length=WM c k6
 at_:∀y,Pu s.cN c.number=some y->bF y=pA c k6 S/\y.closed=false
 no:Pu s.cN c.number=none->S=Cs c k6
theorem aA1(n:Int):(b9 n).length<=8:=by
 refine PO 7 _ ?_;unfold jC;split<;>omega
def aR0:l8:=⟨⟨0,1200,0,0,1,[]⟩,[]⟩
theorem AE(c:oO)(k6:Nat):Hv aR0 c k6 (Cs c k6):=⟨by simp[Cs],fun y hy=>(by cases hy),fun _=>rfl⟩
end Go.Proofs.YtioafciifiggaaaGreatDoor
namespace Go.AL
def kQ(P:Program)(f:FuncId)(fn:Func)(s:ChangeSpec)(c:OpenClaim):List Bool:=
 [c.wf (OpenSpec.ofChange s),laidOutB P,mapsRowed P,
 fn.params.all (P.readableRec ·),namedTie P c.named s.vars,
 (c.stops==[]),(P.stops==[]),(c.knobs==[]),(P.stopKnobs==[]),
 (c.inPlace==P.inPlace f),(c.unfollowed==P.unfollowed f),(c.recurses==P.recurses f),(c.named==P.varsNamed f),
 (c.maps==(fn.params.toList++s.plain.varTypes P).any (P.mapsRec ·)),(c.ifaces==(fn.params.toList++s.plain.varTypes P).any (P.ifacesRec ·)),(c.mapsOut==P.mapsAmong fn.resultTypes.toList),
 (c.loops==(fn.params.toList++s.plain.varTypes P).any (P.loopsFrom ·)),(c.wideKeys==(fn.params.toList++s.plain.varTypes P++fn.resultTypes.toList).any (P.wideKeysFrom ·)),
 s.vars.all (P.varReadable ·),fn.resultTypes.all (fun t=>P.readableRec t&&decide (t<P.types.size)),(c.ifacesOut==fn.resultTypes.toList.any (P.ifacesRec ·)),(c.loopsOut==fn.resultTypes.toList.any (P.loopsFrom ·)),(c.plainKeys==P.plainKeys),c.shortTexts.isNone,P.stopsHeard,P.mayEnter,(c.lifted==P.liftsFinal),(P.make==some c.make),(c.kinds==(if c.domain.isEmpty then []else fn.params.toList.map fun t=>match P.underlying t with|some (.int k)=>some k|_=>none)),(c.pinned==c.pinnedBy),
 (c.veiled==(fn.params.toList++s.plain.varTypes P++fn.resultTypes.toList).any (P.veiledRec ·)),c.veiledFits P fn.params.toList (fn.params.toList++s.plain.varTypes P++fn.resultTypes.toList)]
theorem aA3{P:Program}{f:FuncId}{fn:Func}{s:ChangeSpec}{c:OpenClaim}(h:(kQ P f fn s c).all id=true):joinedFacts P f fn s c=true:=by
 unfold kQ at h;simp only[KV,List.all_nil,id,Iu,jX]at h;unfold joinedFacts;simp only[jX];obtain⟨h0,h1,h2,h3,h4,h5,h6,h7,h8,h9,cO,kC,rX,vU,zZ,Ct,Cu,Cv,h18,h19,h20,h21,h22,h23,h24,h25,h26,h27,h28,h29,h30,Cw⟩:=h;exact⟨⟨⟨⟨⟨⟨⟨⟨⟨⟨⟨⟨⟨⟨⟨⟨⟨⟨⟨⟨⟨⟨⟨⟨⟨⟨⟨⟨⟨⟨⟨h0,h1⟩,h2⟩,h3⟩,h4⟩,h5⟩,h6⟩,h7⟩,h8⟩,h9⟩,cO⟩,kC⟩,rX⟩,vU⟩,zZ⟩,Ct⟩,Cu⟩,Cv⟩,h18⟩,h19⟩,h20⟩,h21⟩,h22⟩,h23⟩,h24⟩,h25⟩,h26⟩,h27⟩,h28⟩,h29⟩,h30⟩,Cw⟩
theorem Bf{l:List Bool}(h:∀i,i<l.length->l.getD i true=true):l.all id=true:=by
 rw[gK];intro b hb;obtain⟨i,hi⟩:=wX.1 hb;obtain⟨h1,h2⟩:=dS.1 hi;have h3:=h i h1;rw[lC,hi]at h3;exact h3
end Go.AL
