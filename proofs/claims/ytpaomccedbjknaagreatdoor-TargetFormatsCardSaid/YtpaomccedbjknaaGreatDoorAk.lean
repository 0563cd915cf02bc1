/- Target: contracts of its functions (Ak). No condition but those named. -/
import Derived.Test.YtpaomccedbjknaaGreatDoorAj
import Derived.Shelf.SlicesG.Cmp
import Derived.Shelf.Lay
import Derived.Ground.SlgcProg
import Derived.Deep.RegionLaw
import Derived.Deep.RegionHeld3
import Derived.Deep.RegionWith
import Derived.Sort.Grow
import Derived.Deep.Draws
import Derived.LoopN
import Derived.RowKit3
import Derived.Shelf.SlSortCmp.WholeK
import Derived.Shelf.SlSortCmp.NoneTotal
import Derived.Ground.SlsfProg
set_option linter.all false
namespace Go.Proofs.YtpaomccedbjknaaGreatDoor
open Go.Proofs Go.AL Tryz
set_option maxRecDepth 100000
set_option maxHeartbeats 8000000
attribute [local irreducible] bT AW b8 cF dB hold
theorem ao1(im:List (List aQ))(w:Int×Int×List aQ)(hl:im.length<=1000)(hv:∀v∈im,v.length<=1000000)(hw:w.2.2.length<=9223372036854775807):PC 252 [.snap (aB bA im),.agg (aH w)] (zV (lA (bH im) w)):=by
 refine aZ func252 ntmps252 (.c _) ?_;have hg:=gV im;obtain⟨v,s,l⟩:=w;unfold aH;simp only[]at*;unfold lA;by_cases g1:v<0
 ·rw[if_pos (.inl g1)]
  exact zEa
 by_cases g2:(im.length:Int)<=v
 ·rw[if_pos (by rw[vE];exact .inr g2)]
  exact zEa
 rw[if_neg (by rw[vE];omega)]
 by_cases g3:l.length=0
 ·rw[if_pos g3]
  have g4:(l.length:Int)=0:=oM
  exact zEa
 rw[if_neg g3];have g4:¬(l.length:Int)=0:=oM
 obtain⟨n,rfl⟩:=xD (by omega:0<=v)
 have g5:n<im.length:=oM
 have e1:(bH im).getD ((n:Int)).toNat 0=((im.getD n []).length:Int):=by
  rw[sY];unfold bH;rw[rL,rL,kJ,gY g5];rfl
 rw[e1];have hvn:=hv _ (eB [] g5);have hgn:=hg n g5;clear hg hv e1;generalize im.getD n []=V at*;have w1:IntKind.i64.wrap ((V.length:Int)-l.length)=(V.length:Int)-l.length:=IntWalk.i64_in _ oM
 by_cases g6:s<0
 ·rw[if_pos (.inl g6)]
  exact zEa
 by_cases g7:(V.length:Int)-l.length<s
 ·rw[if_pos (.inr g7)]
  exact zEa
 rw[if_neg (fun h=>by simp only[]at h;omega)]
 exact zEa
theorem ao2(im:List (List aQ))(w:bR)(hl:im.length<=1000)(hv:∀v∈im,v.length<=1000000)(hw:w.2.2.length<=9223372036854775807):FC 252 [.snap (aB bA im),.agg (aH w)] (zV (lA (bH im) w)):=
 nJ.H3 (ao1 im w hl hv hw) rfl
def ao3(im:List (List aQ))(n:Nat)(env:List (Nat×Bool×AV))(H:Heap):Prop:=
 ∃(k N o:Nat) (G:Nat->Option aI) (ids:List Nat),n=im.length-k/\k<=im.length/\vH G N (im.take k) ids/\o<N/\(∀q∈ids,q≠o)/\(∀id,N<=id->G id=none)/\
  env=[(13,true,zV k),(12,true,zV im.length),(11,true,.snap (aB bA im)),(1,true,.fn (.func 150) [] []),(5,true,.own o 0 k)]/\
  H=⟨N,fU G [(o,some (.cells 58 1 (lH ids (im.take k)) true true))]⟩
def R0(ids:List Nat)(im:List (List aQ)):=lH ids im
def ao4(im:List (List aQ))(ws:List bR)(M:List (List aQ)×Int×Int)(n:Nat)(env:List (Nat×Bool×AV))(H:Heap):Prop:=
 ∃(k N o:Nat) (G:Nat->Option aI) (ids:List Nat) (cur:List (List aQ)),n=ws.length-k/\k<=ws.length/\vH G N cur ids/\o<N/\(∀q∈ids,q≠o)/\(∀id,N<=id->G id=none)/\bH cur=bH im/\DD (ws.drop k) cur k=M/\
  env=[(21,true,zV k),(20,true,zV ws.length),(19,true,.snap (aB aH ws)),(8,true,.own o 0 im.length)]/\
  H=⟨N,fU G [(o,some (.cells 58 1 (lH ids cur) true true))]⟩
theorem ao5(im:List (List aQ))(ws:List bR)(hl:im.length<=1000)(hv:∀v∈im,v.length<=1000000)(hw:∀w∈ws,w.2.2.length<=9223372036854775807)(HG:ws.length<=9223372036854775807):PC 220 [.snap (aB bA im),.snap (aB aH ws)] (.aK [.snap (aB bA (kY im ws).1),zV (kY im ws).2.1,zV (kY im ws).2.2]):=by
 refine iZ func220 ntmps220 (by simp only[go_sem]) ?_
 have c1:=TY im hl;obtain⟨M,hM⟩:∃M,kY im ws=M:=⟨_,rfl⟩;rw[hM];unfold kY at hM;by_cases g:cZ (bH im)=0
 ·rw[if_pos g]at hM
  rw[g]at c1;have dO:=GZ g;have Z9:=gV im;clear g;refine aE ?_;refine eO func255 ntmps255 ?_;refine aE ?_;refine eO func277 ntmps277 ?_;refine aE ?_;refine PQ (ao3 im) im.length ?_ ?_
  ·refine⟨_,_,⟨0,1000,0,fun _=>none,[],oM,oM,vH.nil,oM,fun q h=>by simp at h,fun _ _=>rfl,rfl,rfl⟩,?_⟩
   rw[<-an6,show lH [] (im.take 0)=[]from rfl]
   exact aG
  ·rintro n env H ⟨k,N,o,G,ids,rfl,hk,hV,Lk,HK,hG,rfl,rfl⟩
   have BL:=bC.mk hV;have HL:=bC.mk HK;have u6:=bC.mk hG;have hlen:=hV.len;have hF:∀q,q∈ids->q≠o:=HK;clear hV HK hF;by_cases bG:k<im.length
   ·have bO:=Z9 k bG
    have UA:=hv _ (eB [] bG)
    have aT:im.getD k []≠[]:=fun e=>by
     have:=dO.2.2 ((im.getD k []).length:Int) (by
      unfold bH
      exact mF.2 ⟨_,eB [] bG,rfl⟩)
     rw[e]at this;simp at this
    have c2:=Jz (im.getD k []) aT UA
    have cI:bC (im.take (k+1)=im.take k++[im.getD k []]):=⟨by
     rw[CS bG];simp[bG]⟩
    have qJ:(im.take k).length=k:=by rw[dX];omega
    have rU:=U9 hlen;have eR:bC (∀m,lH ids (im.take k)++[[.own m 0 (im.getD k []).length]]=lH (ids++[m]) (im.take (k+1))):=⟨fun m=>by rw[cI.out];exact an9 hlen m _⟩
    rw[qJ]at rU;generalize hR:lH ids (im.take k)=R at*;generalize im.getD k []=V at*;clear Z9 hv dO aT hlen qJ;refine aE ?_
    have hN:vH (fU G [(N,some (DE V)),(o,none)]) (N+3) (im.take (k+1)) (ids++[N]):=by
     rw[cI.out];refine BL.out.snoc V (cA _) oM (by simp only[fU,lG,if_true]) fun q hq=> ?_
     have h1:=BL.out.HJ q hq;have h2:=HL.out q hq;simp only[fU,lG];rw[if_neg oM,if_neg h2]
    refine⟨im.length-(k+1),oM,_,_,⟨k+1,N+3,N+1+1,_,_,rfl,oM,hN,oM,fun q hq=> ?_,Ll u6.out oM (by simp only[PR,and_true];omega),rfl,rfl⟩,?_⟩
    ·rcases qW.1 hq with h1|h1
     ·have:=BL.out.HJ q h1;omega
     ·simp at h1;omega
    ·rw[ZA,<-eR.out]
     simp only[BB,sF,DE];exact vG
   ·obtain rfl:k=im.length:=oM
    rw[cN (cA im.length)]at BL hlen⊢;have rU:=U9 hlen;clear Z9 hG;have zZ:bC (R0 ids im=lH ids im):=⟨rfl⟩;rw[<-zZ.out];rw[<-zZ.out]at rU;generalize R0 ids im=R at*;refine aE ?_;refine PQ (ao4 im ws M) ws.length ?_ ?_
    ·refine⟨_,_,⟨0,N,o,G,ids,im,oM,oM,BL.out,Lk,HL.out,u6.out,rfl,hM,rfl,rfl⟩,?_⟩
     rw[<-zZ.out];have hG:=u6.out;exact vG
    ·rintro n env H ⟨k,N,o,G,ids,cur,rfl,hk,hV,Lk,HK,hG,wL,BM,rfl,rfl⟩
     have u6:=bC.mk hG;have BL:=bC.mk hV;have HL:=bC.mk HK;have hlen:=hV.len;have rU:=U9 hlen;have gZ:cur.length=im.length:=by have:=congrArg List.length wL;simpa[bH]using this
     have UB:bC (∀(F:Nat->Option aI),F o=some (.cells 58 1 (lH ids cur) true true)->(∀q∈ids,F q=G q)->bJ F 3 (.own o 0 im.length)= .snap (aB bA cur)):=⟨fun F h1 h2=>by rw[<-gZ];exact hV.exp 0 h1 h2⟩
     by_cases bG:k<ws.length
     ·have bO:=gW ws k bG
      have nW:=hw _ (eB eF bG)
      have Lm:ws.drop k=ws.getD k eF::ws.drop (k+1):=by
       rw[OP bG];simp[bG]
      rw[Lm]at BM;unfold DD at BM
      have c3:=ao2 cur (ws.getD k eF) oM (fun v hvm=>by
       have h1:((v.length:Int))∈bH im:=by rw[<-wL];exact mF.2 ⟨v,hvm,rfl⟩
       have:=dO.2.2 _ h1
       omega) nW
      have PS:bC (lA (bH cur) (ws.getD k eF)=0->_):=⟨fun h=>Lg h⟩
      have Ln:bC (lA (bH cur) (ws.getD k eF)=0->bH (HI cur (ws.getD k eF))=bH cur):=⟨fun h=>Z8 h⟩
      generalize ws.getD k eF=w at*;obtain⟨v,t,d⟩:=w;have yN:(aB aH ws)[k]? =some [zV v,zV t,.snap (aB aP d)]:=bO;have c4:FC 252 [.snap (aB bA cur),.agg [zV v,zV t,.snap (aB aP d)]] (zV (lA (bH cur) (v,t,d))):=c3;simp only[]at*;clear hV HK hw hv dO Lm bO c3
      have UC:∀(x:Option aI),bC (∀q∈ids,fU G [(o,some (.cells 58 1 (lH ids cur) true true)),(N,x)] q=G q):=fun x=>⟨fun q hq=>by
       have h1:=BL.out.HJ q hq;have h2:=HL.out q hq;simp only[fU,lG]
       rw[if_neg h2,if_neg oM]⟩
      refine aE ?_;refine DG (args:=[.own o 0 im.length,.agg [zV v,zV t,.snap (aB aP d)]]) (n:=252) rfl rfl ?hc (c4.act 3 ?he ?hn) ?hrest
      case hc=>simp(maxSteps:=2000000) (disch:=omega) only[go_sem, *]<;>rfl
      case he=>
       simp only[qE,GU];rw[UB.out _ (by simp only[fU,lG,if_true]) (UC _).out]
       rfl
      case hn=>simp only[go_sem]
      case hrest=>
       rintro r H' ⟨rfl,rfl⟩;by_cases qK:lA (bH cur) (v,t,d)=0
       ·rw[if_pos qK]at BM
        obtain⟨f1,f2,f3,f4,f5⟩:=PS.out qK;have Lo:=Ln.out qK;simp only[]at f1 f2 f3 f4 f5;rw[qK];clear qK PS Ln UB c4;obtain⟨V,rfl⟩:=xD f1;obtain⟨T,rfl⟩:=xD f4;simp only[sY]at f2 f5;have cS:=Lj hlen f2;have HM:=BL.out.get V f2;have hqr:=BL.out.HJ _ (PO (by rw[hlen];exact f2))
        have hqo:=HL.out _ (PO (by rw[hlen];exact f2))
        have hVi:V<im.length:=oM
        unfold DE at HM;have pS:bC (∀v,v.length=(cur.getD V []).length->lH ids (cur.set V v)=lH ids cur):=⟨fun v h=>ao0 h⟩
        have yQ:bC (HI cur ((V:Int),(T:Int),d)=cur.set V (DC (cur.getD V []) T d)):=⟨by unfold HI;simp only[sY]⟩
        have xH:bC (ids.getD V 0=ids.getD V 0):=⟨rfl⟩;generalize Lp:ids.getD V 0=q at*;generalize UA:cur.getD V []=v0 at*;have hmn:Nat.min d.length (v0.length-T)=d.length:=Yw oM
        have cI:(aB aP d).take d.length=aB aP d:=cN (by rw[fK];omega)
        have ao7:=bC.mk Lo;have ao8:=bC.mk wL;have Lq:=bC.mk Lp;have bU0:=bC.mk UA;have ao9:=bC.mk BM;clear f1 f4 Lo wL UC xH Lp UA BM;refine aE ?_;have nX:(DC v0 T d).length=v0.length:=Lf f5
        have hV2:vH (fU G [(q,some (DE (DC v0 T d)))]) (N+13) (cur.set V (DC v0 T d)) ids:=by
         refine BL.out.put f2 _ oM (by rw[Lq.out];simp only[fU,lG,if_true]) fun q' DH pT=> ?_
         rw[Lq.out]at pT;simp only[fU,lG];rw[if_neg pT]
        refine⟨ws.length-(k+1),oM,_,_,⟨k+1,N+13,o,_,ids,cur.set V (DC v0 T d),rfl,oM,hV2,oM,HL.out,Ll u6.out oM (by simp only[PR,and_true];omega),?_,?_,rfl,rfl⟩,?_⟩
        ·rw[<-yQ.out,ao7.out];exact ao8.out
        ·rw[<-yQ.out];exact ao9.out
        ·rw[ZA,pS.out _ nX]
         simp only[BB,sF,DE,DC];exact vG
       ·rw[if_neg qK]at BM
        subst BM;generalize lA (bH cur) (v,t,d)=e at*;clear UB rU gZ hlen c4;refine aE ?_;exact dS
     ·obtain rfl:k=ws.length:=oM
      rw[v8]at BM;obtain rfl:(cur,(0:Int),(0:Int))=M:=BM
      have UC:bC (∀q∈ids,fU G [(o,some (.cells 58 1 (lH ids cur) true true))] q=G q):=⟨fun q hq=>by
       have h2:=HL.out q hq;simp only[fU,lG]
       rw[if_neg h2]⟩
      clear HK hV hw hM;refine aE ?_
      have e:bJ (fU G [(o,some (.cells 58 1 (lH ids cur) true true))]) 4 (.aK [.own o 0 im.length,zV 0,zV 0])= .aK [.snap (aB bA cur),zV 0,zV 0]:=by
       show AV.aK [bJ _ 3 (.own o 0 im.length),zV 0,zV 0]=_
       rw[UB.out _ (by simp only[fU,lG,if_true]) UC.out]
      refine⟨?_,?_⟩
      ·show bF (bJ _ 4 _)
       rw[e];simp only[go_sem]
      ·show Wk (bJ _ 4 _) _
       rw[e];exact .refl _
 ·rw[if_neg g]at hM
  subst hM;clear hw;refine aE ?_;exact dS
end Go.Proofs.YtpaomccedbjknaaGreatDoor
namespace Go.Proofs.YtpaomccedbjknaaGreatDoor
open Go.Proofs Go.AL Tryz
set_option maxRecDepth 100000
abbrev Pl:=Int×Int
abbrev Ef:=List (Pl×aQ)
def Lr(k:Pl)(x:aQ):Ef->Ef
 |[]=> [(k,x)]
 |(k',y)::r=>if k'=k then(k',x)::r else(k',y)::Lr k x r
def ZB(k:Pl):Ef->Option aQ
 |[]=>none
 |(k',x)::r=>if k'=k then some x else ZB k r
def ZC:Ef->Int->Int->List aQ->Ef
 |m,_,_,[]=>m
 |m,v,s,x::l=>ZC (Lr (v,s) x m) v (s+1) l
def Ls(m:Ef)(ws:List bR):Ef:=ws.foldl (fun m w=>ZC m w.1 w.2.1 w.2.2) m
def ZD(m:Ef)(k:Pl):aQ:=(ZB k m).getD bS
def ZE(m:Ef):List Pl->List bR->bR->List bR
 |[],done,w=>done++[w]
 |k::r,done,w=>if k=(w.1,w.2.1+(w.2.2.length:Int))then ZE m r done (w.1,w.2.1,w.2.2++[ZD m k])else ZE m r (done++[w]) (k.1,k.2,[ZD m k])
def ap1(m:Ef):List Pl->List bR
 |[]=> []
 |k::r=>ZE m r [] (k.1,k.2,[ZD m k])
end Go.Proofs.YtpaomccedbjknaaGreatDoor
namespace Go.Proofs.YtpaomccedbjknaaGreatDoor
open Go.Proofs Go.Sort Go.Shelf Go.Lib
set_option maxRecDepth 10000
shelf_lay_g SlLaysC2.n5 Slgc 5 at Tryz 193 as Tryz.cmpP
end Go.Proofs.YtpaomccedbjknaaGreatDoor
namespace Go.Proofs.YtpaomccedbjknaaGreatDoor
open Go.Proofs Go.AL Go.RowKit Go.Sort Go.Shelf
shelf_lay_g SlLaysF0.n6 Slsf 6 at Tryz 291 as Tryz.sortPl
end Go.Proofs.YtpaomccedbjknaaGreatDoor
namespace Go.Proofs.YtpaomccedbjknaaGreatDoor
open Go.Proofs Go.AL Tryz
set_option maxRecDepth 100000
set_option maxHeartbeats 8000000
attribute [local irreducible] bT AW b8 cF dB hold
theorem ap2(m:Ef)(v s:Int):ZC m v s []=m:=rfl
attribute [local go_sem] ap2
end Go.Proofs.YtpaomccedbjknaaGreatDoor
namespace Go.Proofs.YtpaomccedbjknaaGreatDoor
open Go.Proofs Go.AL Tryz
set_option maxRecDepth 100000
def ru:List nL->bQ->Option bQ
 |[],d=>some d
 |o::r,d=>if o.1=0 then(if lF d o.2.1 o.2.2.length=true then ru r ⟨d.st,d.ca++iC o.2.1 o.2.2⟩else none)else if o.1=1 then ru r ⟨k9 d.st d.ca,[]⟩else none
end Go.Proofs.YtpaomccedbjknaaGreatDoor
namespace Go.Proofs.YtpaomccedbjknaaGreatDoor
open Go.Proofs Go.AL Tryz
set_option maxRecDepth 100000
set_option maxHeartbeats 8000000
attribute [local irreducible] bT AW b8 cF dB hold
abbrev vI(e:Int):Value:= .iface 377 (.agg #[.int .i64 e])
abbrev XC(n:FuncId)(args:List AV)(x:Value):Prop:=DI prog n args x
theorem ZF(e:Int):PC 248 [bV true,zV e] (.aK []):=by
 refine aZ func248 ntmps248 (.aK _ (by simp)) ?_
 exact zEa
theorem ZG(e:Int):XC 248 [bV false,zV e] (vI e):=by
 refine HN func248 ntmps248 ?_;have s1:rV 1 3 (vI e):=⟨⟩;refine nY ?_;rfl
theorem ap3:PC 249 [zV 0] (.aK []):=by
 refine aZ func249 ntmps249 (.aK _ (by simp)) ?_
 have c1:=ZF 0;exact zEa
theorem L3(e:Int)(he:¬e=0):XC 249 [zV e] (vI e):=by
 refine HN func249 ntmps249 ?_;have g:(e==0)=false:=by simp[he]
 have c1:=ZG e;have s1:rV 0 3 (vI e):=⟨⟩;clear he;refine nY ?_;rfl
theorem ap4(e:Int):PC 247 [.c (vI e)] (zV e):=by
 refine aZ func247 ntmps247 (.c _) ?_;exact zEa
theorem ap5(i j N:Nat)(G:Nat->Option aI):oW prog 246 [.ptr i 0 0,.ptr j 0 0] ⟨N,G⟩ none (fun H'=>H'=⟨N,G⟩):=by
 refine Lt func246 ntmps246 ?_;refine aM ?_;exact⟨.inl rfl,⟨_,rfl⟩,rfl⟩
theorem ap6(e:Int)(N:Nat)(G:Nat->Option aI)(x0 x1 x2 x3 x4 a:AV):
  oW prog 246 [.ptr 0 0 0,.ptr 1 0 0] ⟨N,fU G [(0,some (.cells 72 5 [[x0,x1,x2,x3,x4]] true false)),(1,some (.cells 29 1 [[a]] true false))]⟩ (some (vI e))
   (fun H'=>H'=⟨N+1+1,fU G [(0,some (.cells 72 5 [[zV 0,zV 0,zV 0,.c (.slice none 0 0),.c (.slice none 0 0)]] true false)),(1,some (.cells 29 1 [[zV e]] true false))]⟩):=by
 refine Lt func246 ntmps246 ?_;have c1:=ap4 e;refine aM ?_;exact⟨.inl rfl,⟨_,rfl⟩,rfl⟩
def ZH(n:Int):Int:=if n<0\/4096<n then 0 else(n+10)/4
theorem ap7(n:Int):PC 238 [zV n] (zV (ZH n)):=by
 refine aZ func238 ntmps238 (.c _) ?_;unfold ZH;by_cases g1:n<0
 ·rw[if_pos (.inl g1)]
  exact zEa
 ·by_cases g2:4096<n
  ·rw[if_pos (.inr g2)]
   exact zEa
  ·rw[if_neg oM]
   have h1:(3+n+4+4-1).tdiv 4=(n+10)/4:=by rw[Int.tdiv_eq_ediv_of_nonneg oM];congr 1;omega
   exact zEa
def mH(a b:Int):Bool:=decide (0<=a)&&decide (20<=b)&&decide (a<=4096)&&decide (b<=4096-a)
theorem ap8(a b:Int):PC 164 [.agg [zV a,zV b]] (bV (mH a b)):=by
 refine aZ func164 ntmps164 (.c _) ?_;unfold mH;by_cases g1:0<=a
 ·by_cases g2:20<=b
  ·by_cases g3:b<=4096
   ·have h1:decide (a<=4096)=true\/decide (b<=4096-a)=false:=by
     by_cases h:a<=4096
     ·exact .inl (by simp[h])
     ·exact .inr (by simp;omega)
    by_cases g4:a<=4096-b
    ·have h2:a<=4096:=oM
     have h3:b<=4096-a:=oM
     exact zEa
    ·have h3:¬b<=4096-a:=oM
     have h4:(decide (0<=a)&&decide (20<=b)&&decide (a<=4096)&&decide (b<=4096-a))=false:=by simp[h3]
     rw[h4];clear h1 h3 h4;exact zEa
   ·have h3:(decide (0<=a)&&decide (20<=b)&&decide (a<=4096)&&decide (b<=4096-a))=false:=by simp;omega
    rw[h3];clear h3;exact zEa
  ·refine aM ?_
   exact cR
 ·refine aM ?_
  exact cR
theorem Lu(a b:Int):PC 156 [.agg [zV a,zV b]] (bV (mH a b)):=by
 refine aZ func156 ntmps156 (.c _) ?_;unfold mH;by_cases g1:0<=a
 ·by_cases g2:20<=b
  ·by_cases g3:a<=4096
   ·by_cases g4:b<=4096-a
    ·refine aM ?_
     exact cR
    ·refine aM ?_
     exact cR
   ·refine aM ?_
    exact cR
  ·refine aM ?_
   exact cR
 ·refine aM ?_
  exact cR
theorem ap9(a b:Int)(h1:20<=b)(h2:b<=4096):PC 158 [.agg [zV a,zV b]] (zV (b-16)):=by
 refine aZ func158 ntmps158 (.c _) ?_;exact zEa
theorem aq0:prog.eqGuardType prog.depth 67=false:=by kernel_rfl
theorem aq1(d:Nat)(s t:aQ):pA prog (d+2) 67 (.agg (aP s)) (.agg (aP t))=some (decide (s=t)):=by
 have h5:prog.underlying 5=some (.int .u8):=Tryz.underlying5;simp only[pA,Tryz.underlying67,aa1,HO,qL,aa2,aP,GV,List.range_zero,sF,BB,zR,Nat.mul_one,qX,CX,h5,if_true];obtain⟨⟨a,b,c,e⟩,⟨f,g,h,i⟩⟩:=s;obtain⟨⟨a',b',c',e'⟩,⟨f',g',h',i'⟩⟩:=t;simp only[bM,cQ];rw[Bool.eq_iff_iff]
 simp only[jF,beq_iff_eq,decide_eq_true_eq,Ig,and_assoc]
@[go_sem] theorem bU1(s:aQ):vJ prog 67 (.agg (aP s)) (.agg (aP s))=some true:=by
  unfold vJ;rw[aq0,if_neg (by simp)]
  exact(aq1 9998 s s).trans (by simp)
theorem aq2(l:List Int)(hl:l.length<=1000000):PC 172 [.snap (aB aW l),.snap (aB aW l)] (bV true):=by
 refine aZ func172 ntmps172 (.c _) ?_;have hg:=gI l;refine aE ?_;refine nS l.length 0 [] (fun k=> [(5,true,zV k),(0,true,.snap (aB aW l)),(1,true,.snap (aB aW l))]) aG (fun k m bG hm=> ?_) (fun m hm=> ?_)
 ·have bO:=hg k bG
  clear hg;refine aE ?_;refine⟨m+200,oM,aG⟩
 ·clear hg
  exact zE
theorem Lv(l:List aQ)(hl:l.length<=1000000):PC 47 [.snap (aB aP l),.snap (aB aP l)] (bV true):=by
 refine aZ func47 ntmps47 (.c _) ?_;have hg:=gS l;refine aE ?_;refine nS l.length 0 [] (fun k=> [(5,true,zV k),(0,true,.snap (aB aP l)),(1,true,.snap (aB aP l))]) aG (fun k m bG hm=> ?_) (fun m hm=> ?_)
 ·have bO:=hg k bG
  clear hg;refine aE ?_;refine⟨m+200,oM,aG⟩
 ·clear hg
  exact zE
theorem aq3(l:List nL)(hl:l.length<=1000000)(hs:∀o∈l,o.2.2.length<=1000000):PC 10 [.snap (aB aH l),.snap (aB aH l)] (bV true):=by
 refine aZ func10 ntmps10 (.c _) ?_;have hg:=gO l;refine aE ?_;refine nS l.length 0 [] (fun k=> [(5,true,zV k),(0,true,.snap (aB aH l)),(1,true,.snap (aB aH l))]) aG (fun k m bG hm=> ?_) (fun m hm=> ?_)
 ·have bO:=hg k bG
  clear hg;have r6:l.getD k oQ∈l:=eB oQ bG;have c1:=Lv (l.getD k oQ).2.2 (hs _ r6);unfold aH at bO;have yN:(aB aH l)[k]? =some [zV (l.getD k oQ).1,zV (l.getD k oQ).2.1,.snap (aB aP (l.getD k oQ).2.2)]:=bO;clear bO;refine aE ?_;refine⟨m+200,oM,aG⟩
 ·clear hg
  exact zE
abbrev l4:=BitVec 32
def nV(v:l4):Int:=(v.toNat:Int)
theorem UD(v:l4):0<=nV v/\nV v<4294967296:=by
 have:=v.isLt
 grind [nV]
theorem aq4(v:l4):BitVec.ofInt 32 (nV v)=v:=by
 grind [nV]
theorem UE(a b:l4):bits .xor .u32 (nV a) (nV b)=nV (a ^^^ b):=by
 have h:bits .xor .u32 (nV a) (nV b)=IntKind.u32.wrap ((BitVec.ofInt 32 (nV a) ^^^ BitVec.ofInt 32 (nV b)).toNat:Int):=rfl
 grind [aq4,IntKind.wrap_u32,nV]
theorem Lw(a:l4)(k:Nat):(nV a).fdiv ((2:Int) ^ k)=nV (a>>>k):=by
 grind [nV,Nat.shiftRight_eq_div_pow]
def PT:l4:=0x82F63B78#32
def A3(r:l4):l4:=(r>>>1) ^^^ (if r.getLsbD 0 then PT else 0#32)
theorem aq5(a b p:l4):(a ^^^ p) ^^^ (b ^^^ p)=a ^^^ b:=by
 apply Zd;intro i hi;simp only[Ze];cases a.getLsbD i<;>cases b.getLsbD i<;>cases p.getLsbD i<;>rfl
theorem aq6(a b:l4):A3 (a ^^^ b)=A3 a ^^^ A3 b:=by
 unfold A3;rw[BitVec.ushiftRight_xor_distrib,Ze];cases a.getLsbD 0<;>cases b.getLsbD 0
 ·simp
 ·grind
 ·grind
 simp_all [aq5]
def lI:Nat->l4->l4
 |0,r=>r
 |k+1,r=>lI k (A3 r)
theorem Lx:∀(k:Nat) (a b:l4),lI k (a ^^^ b)=lI k a ^^^ lI k b
 |0,a,b=>rfl
 |k+1,a,b=>by simp only[lI];rw[aq6,Lx k]
theorem Ly:∀(k:Nat) (r:l4),lI (k+1) r=A3 (lI k r)
 |0,r=>rfl
 |k+1,r=>by
  have:=Ly k (A3 r)
  grind [lI]
theorem Ma:∀(k:Nat) (r:l4),(∀i,i<k->r.getLsbD i=false)->lI k r=r>>>k
 |0,r,_=>by simp[lI]
 |k+1,r,h=>by
  have h0:A3 r=r>>>1:=by unfold A3;rw[h 0 oM];simp
  simp only[lI];rw[h0,Ma k _ fun i hi=>by grind]
  grind
theorem aq7(r:l4):r=(r&&&0xFFFFFF00#32) ^^^ (r&&&0xFF#32):=by
 apply Zd;intro i hi;simp only[Ze,Zf];have h:∀j:Fin 32,(0xFFFFFF00#32).getLsbD j.val= !((0xFF#32).getLsbD j.val):=by decide
 rw[h ⟨i,hi⟩]
 grind
theorem hi8(r:l4):(r&&&0xFFFFFF00#32)>>>8=r>>>8:=by
 apply Zd;intro i hi;simp only[BitVec.getLsbD_ushiftRight,Zf];by_cases h:8+i<32
 ·have h2:∀j:Fin 32,8<=j.val->(0xFFFFFF00#32).getLsbD j.val=true:=by decide
  rw[h2 ⟨8+i,h⟩ (by simp)]
  simp
 grind
theorem aq9(r b:l4):lI 8 (r ^^^ b)=(r>>>8) ^^^ lI 8 ((r&&&0xFF#32) ^^^ b):=by
 have h1:lI 8 (r&&&0xFFFFFF00#32)=(r&&&0xFFFFFF00#32)>>>8:=Ma 8 _ fun i hi=>by
  have h2:∀j:Fin 8,(0xFFFFFF00#32).getLsbD j.val=false:=by decide
  rw[Zf,h2 ⟨i,hi⟩,Zb]
 grind [aq7,Lx,hi8]
def yR(r:l4)(l:List Int):l4:=l.foldl (fun r x=>lI 8 (r ^^^ BitVec.ofInt 32 x)) r
def jO(l:List Int):Int:=nV (~~~ (yR (~~~ 0#32) l))
theorem ZI(l:List Int):0<=jO l/\jO l<4294967296:=UD _
theorem ar0{r:l4}{l:List Int}{k:Nat}(h:k<l.length):yR r (l.take (k+1))=lI 8 (yR r (l.take k) ^^^ BitVec.ofInt 32 (l.getD k 0)):=by
 grind [yR,List.take_succ_eq_append_getElem]
end Go.Proofs.YtpaomccedbjknaaGreatDoor
