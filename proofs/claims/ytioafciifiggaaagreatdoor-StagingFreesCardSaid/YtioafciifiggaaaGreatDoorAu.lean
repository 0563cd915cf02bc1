/- Staging. No condition. -/
import Derived.Test.YtioafciifiggaaaGreatDoorL0
import Derived.Test.YtioafciifiggaaaGreatDoorAt
set_option linter.all false
namespace Go.Proofs.YtioafciifiggaaaGreatDoor
open Go.Proofs Go.AL
set_option maxRecDepth 100000
set_option maxHeartbeats 4000000
attribute [local irreducible] cH AW b9 dR eH hold
attribute [local irreducible] jI
theorem bj9(a:Option Addr)(cap:Nat):PC 150 [.c (.slice a 0 cap)] (.snap (aA eJ [])):=by
 refine bI Tryz.func150 Tryz.ntmps150 (kL _) ?_;cases a with
 |none=>
  refine aG ?_;simp only[G6];exact aC
 |some a=>
  refine aG ?_;simp only[G6];exact aC
theorem bk0(l:List Bool)(hl:l.length<=1000000):PC 150 [.snap (aA eJ l)] (.snap (aA eJ l)):=by
 by_cases h:l=[]
 ·subst h
  exact eU.nil (pre:=[]) (post:=[]) bj9
 ·refine bI Tryz.func150 Tryz.ntmps150 (kL l) ?_
  have h1:=wG h;refine aG ?_;exact aC
theorem bk1(l:List Bool)(h:l≠[])(hl:l.length<=1000000):sC Tryz.prog 150 [.snap (aA eJ l)] 4 1 (aA eJ l):=by
 refine G7 Tryz.func150 Tryz.ntmps150 (by simp only[go_sem]) (oB l) ?_
 have h1:=wG h;refine aG ?_;exact⟨1,by simp only[go_sem],by simp only[go_sem]⟩
theorem bk2(l:List aW)(h:l≠[])(hl:l.length<=1000000):sC Tryz.prog 199 [.snap (aA bQ l)] 64 7 (aA bQ l):=by
 refine G7 Tryz.func199 Tryz.ntmps199 (by simp only[go_sem]) (oB l) ?_
 have h1:=wG h;refine aG ?_;exact⟨1,by simp only[go_sem],by simp only[go_sem]⟩
theorem Ke(G:Nat->Option aI)(k:Nat)(l:List (List Int)):(aA dF l).map (fun row=>row.map (cR G k))=aA dF l:=by
 unfold aA;rw[I1];refine s7 fun o _=> ?_
 cases k<;>simp[dF,cR]
theorem LD(a:nT)(r:List Int)(c:Bool)(ha:a.bS.length<=100000)(hs:a.seen.length<=100000)(hp:∀x∈a.bS,x.length<=100000)(hr:r.length<=200000):PC 73 [.agg (iZ a),.snap (aA bD r),bV c] (.agg (bQ (iT a r c))):=by
 refine BI Tryz.func73 Tryz.ntmps73 (by rw[iK];simp only[go_sem]) ?_
 have c1:=bk0 a.seen (by omega)
 have c2:=ZF r (by omega)
 have hg:=KZ a.bS
 replace hp:=bB.mk hp
 obtain⟨n,p,s,h,e⟩:=a;rw[iK];unfold iT iZ at*;simp only[]at*;refine aD ?_;refine fK (α:=Nat) h.length (fun k id=> [(26,true,zV k),(25,true,zV h.length),(24,true,.snap (aA dF h)),(7,true,.ptr 15 0 0),(6,true,.ptr 1 0 0),(3,true,.ptr 0 0 0)]) (fun k id=>(0,some (.cells 161 5 [[zV n,zV p,zV s,.snap (aA dF h),.snap (aA eJ e)]] true false))::(1,some (.cells 64 7 [[zV 0,zV 0,zV 0,.c (.slice none 0 0),.c (.slice none 0 0),.c (.slice none 0 0),bV false]] true false))::(15,some (.cells 64 7 [[zV n,zV p,zV s,uO k id,.snap (aA eJ e),.snap (aA bD r),bV c]] true false))::wM 74 1 (aA dF (h.take k)) k id) (fun k m id=>16<=m/\(0<k->16<=id/\id<m)) ⟨100,0,⟨by omega,fun h=>absurd h (by omega)⟩,aT⟩ (fun k m id hk hR=> ?_) (fun m id hR=> ?_)
 ·obtain⟨hm,hR⟩:=hR
  have fD:=hg k hk;have Kf:(h.getD k []).length<=100000:=hp.out _ (cQ [] hk);have c3:=BL (h.getD k []) (by omega)
  have iI:=A8 [] hk;have jS:aA dF (h.take k)++[[.snap (aA aN (h.getD k []))]]=aA dF (h.take k++[h.getD k []]):=sP (h.take k) (h.getD k []);have LF:(h.take k).length=k:=by rw[cU];omega
  rw[iI];clear iI hg hp Kf c1 c2 hs hr;generalize h.getD k []=x at*;generalize h.take k=F at*;have gG:aA dF ([]++[x])=[[.snap (aA aN x)]]:=rfl;cases k with
  |zero=>
   have m5:F=[]:=jQ LF;subst m5;clear hR LF jS;refine aD ?_;exact⟨m+40,m+5,⟨by omega,fun _=>by omega⟩,aT⟩
  |succ q=>
   obtain⟨i1,i2⟩:=hR (by omega)
   clear hR gG;refine aD ?_;exact⟨m+40,m+5,⟨by omega,fun _=>by omega⟩,aT⟩
 ·obtain⟨hm,hR⟩:=hR
  rw[lI];clear hg hp c1 c2 ha hs hr;cases hh:h.length with
  |zero=>
   have Kg:h=[]:=jQ hh;subst Kg;clear hR hh;refine aD ?_;exact oD
  |succ q=>
   obtain⟨i1,i2⟩:=hR (by omega)
   have hex:=fun G k=>Ke G k h
   have iI:h.take (q+1)=h:=eD (by omega)
   have eY:(∀row,row∈aA dF h->∀x,x∈row->bK x)=True:=eq_true (oB h);clear hR;refine aD ?_;exact oD
theorem VL(x:Int):IntKind.u8.wrap x=x % 256:=by
 simp[IntKind.wrap,IntKind.bits,IntKind.signed]
theorem fd8(n:Int):n.fdiv (2 ^ min 8 64)=n/256:=by
 have:(2:Int) ^ min 8 64=256:=by decide
 rw[this,Tk _ (by decide)]
theorem bk3(n:Int)(h0:0<=n)(h1:n<=4294967295):PC 239 [zV n,zV 2] (.snap (aA aN (qH n 2))):=by
 refine bI Tryz.func239 Tryz.ntmps239 (kL _) ?_;have hr:aA aN (qH n 2)=[[uV (n % 256)],[uV (n/256 % 256)]]:=rfl;rw[hr];have hd:=fd8;have hu:=VL;refine aD ?_;refine kC 3 ?_;refine kM ?_;refine aD ?_;exact aC
theorem aa7(n:Int)(h0:0<=n)(h1:n<=4294967295):PC 239 [zV n,zV 4] (.snap (aA aN (qH n 4))):=by
 refine bI Tryz.func239 Tryz.ntmps239 (kL _) ?_;have hr:aA aN (qH n 4)=[[uV (n % 256)],[uV (n/256 % 256)],[uV (n/256/256 % 256)],[uV (n/256/256/256 % 256)]]:=rfl;rw[hr];have hd:=fd8;have hu:=VL;refine aD ?_;refine kC 5 ?_;refine kM ?_;refine aD ?_;exact aC
theorem LG{x y:Int}(h:¬x=y):(x==y)=false/\(x !=y)=true:=⟨beq_eq_false_iff_ne.2 h,bne_iff_ne.2 h⟩
theorem l8(x:Int):(x==x)=true/\(x !=x)=false:=by simp
theorem Bh{x y:Nat}(h:¬x=y):((x:Int)==(y:Int))=false/\((x:Int) !=(y:Int))=true:=⟨beq_eq_false_iff_ne.2 (by omega),bne_iff_ne.2 (by omega)⟩
theorem VM{x y:Nat}(h:x=y):((x:Int)==(y:Int))=true/\((x:Int) !=(y:Int))=false:=by simp[h]
theorem aa8(a b:nT)(ha:a.bS.length<=100000)(hb:b.bS.length<=100000)(sa:a.seen.length<=100000)(sb:b.seen.length<=100000)(h1:∀x∈a.bS,∀y∈x,aV y)(h2:∀x∈b.bS,∀y∈x,aV y):PC 76 [.agg (iZ a),.agg (iZ b)] (bV (decide (a=b))):=by
 refine bI Tryz.func76 Tryz.ntmps76 (.c _) ?_;have c1:=bj7 a.seen b.seen sa sb;have c2:=bj8 a.bS b.bS ha hb h1 h2;clear h1 h2 ha hb sa sb;obtain⟨M,hM⟩:∃M,decide (a=b)=M:=⟨_,rfl⟩;rw[hM];obtain⟨an,ap,az,ah,ae⟩:=a;obtain⟨bn,bp,bs,bh,be⟩:=b;unfold iZ;simp only[]at*;by_cases g1:an=bn
 case neg=>
  rw[decide_eq_false (fun h=>g1 (by injection h))]at hM
  subst hM;obtain⟨g,gx⟩:=LG g1;clear g1 c1 c2;refine aD ?_;exact aC
 by_cases g2:ap=bp
 case neg=>
  rw[decide_eq_false (fun h=>g2 (by injection h))]at hM
  subst hM;obtain⟨g,gx⟩:=LG g2;subst g1;obtain⟨d1,vO⟩:=l8 an;clear g2 c1 c2;refine aD ?_;exact aC
 by_cases g3:az=bs
 case neg=>
  rw[decide_eq_false (fun h=>g3 (by injection h))]at hM
  subst hM;obtain⟨g,gx⟩:=LG g3;subst g1 g2;obtain⟨d1,vO⟩:=l8 an;obtain⟨d2,EW⟩:=l8 ap;clear g3 c1 c2;refine aD ?_;exact aC
 by_cases g4:ae=be
 case neg=>
  rw[decide_eq_false (fun h=>g4 (by injection h))]at hM
  subst hM;rw[decide_eq_false g4]at c1;subst g1 g2 g3;obtain⟨d1,vO⟩:=l8 an;obtain⟨d2,EW⟩:=l8 ap;obtain⟨d3,PI⟩:=l8 az;clear g4 c2;refine aD ?_;exact aC
 by_cases g5:ah=bh
 case neg=>
  rw[decide_eq_false (fun h=>g5 (by injection h))]at hM
  subst hM;rw[decide_eq_true g4]at c1;rw[decide_eq_false g5]at c2;subst g1 g2 g3;obtain⟨d1,vO⟩:=l8 an;obtain⟨d2,EW⟩:=l8 ap;obtain⟨d3,PI⟩:=l8 az;clear g4 g5;refine aD ?_;exact aC
 ·rw[decide_eq_true g4]at c1
  rw[decide_eq_true g5]at c2;subst g1 g2 g3 g4 g5;rw[decide_eq_true rfl]at hM;subst hM;obtain⟨d1,vO⟩:=l8 an;obtain⟨d2,EW⟩:=l8 ap;obtain⟨d3,PI⟩:=l8 az;refine aD ?_;exact aC
theorem bk4(a b:nT)(ha:a.bS.length<=100000)(hb:b.bS.length<=100000)(sa:a.seen.length<=100000)(sb:b.seen.length<=100000)(h1:∀x∈a.bS,∀y∈x,aV y)(h2:∀x∈b.bS,∀y∈x,aV y):PC 100 [.agg (iZ a),.agg (iZ b)] (bV (decide (a=b))):=by
 refine bI Tryz.func100 Tryz.ntmps100 (.c _) ?_;obtain⟨M,hM⟩:∃M,decide (a=b)=M:=⟨_,rfl⟩;rw[hM];obtain⟨an,ap,az,ah,ae⟩:=a;obtain⟨bn,bp,bs,bh,be⟩:=b;unfold iZ;simp only[]at*;by_cases g1:an=bn
 case neg=>
  rw[decide_eq_false (fun h=>g1 (by injection h))]at hM
  subst hM;obtain⟨g,gx⟩:=LG g1;clear g1 h1 h2;refine aD ?_;exact aC
 by_cases g2:ap=bp
 case neg=>
  rw[decide_eq_false (fun h=>g2 (by injection h))]at hM
  subst hM;obtain⟨g,gx⟩:=LG g2;subst g1;obtain⟨d1,vO⟩:=l8 an;clear g2 h1 h2;refine aD ?_;exact aC
 by_cases g3:az=bs
 case neg=>
  rw[decide_eq_false (fun h=>g3 (by injection h))]at hM
  subst hM;obtain⟨g,gx⟩:=LG g3;subst g1 g2;obtain⟨d1,vO⟩:=l8 an;obtain⟨d2,EW⟩:=l8 ap;clear g3 h1 h2;refine aD ?_;exact aC
 by_cases g4:ah.length=bh.length
 case neg=>
  rw[decide_eq_false (fun h=>g4 (by injection h with _ _ _ h _;rw[h]))]at hM
  subst hM;obtain⟨g,gx⟩:=Bh g4;subst g1 g2 g3;obtain⟨d1,vO⟩:=l8 an;obtain⟨d2,EW⟩:=l8 ap;obtain⟨d3,PI⟩:=l8 az;clear g4 h1 h2;refine aD ?_;exact aC
 by_cases g5:ae.length=be.length
 case neg=>
  rw[decide_eq_false (fun h=>g5 (by injection h with _ _ _ _ h;rw[h]))]at hM
  subst hM;obtain⟨g,gx⟩:=Bh g5;subst g1 g2 g3;obtain⟨d1,vO⟩:=l8 an;obtain⟨d2,EW⟩:=l8 ap;obtain⟨d3,PI⟩:=l8 az;obtain⟨d4,d4x⟩:=VM g4;clear g5 h1 h2;refine aD ?_;exact aC
 have l9:decide (ah=bh/\ae=be)=M:=by
  rw[<-hM];exact decide_eq_decide.2 ⟨fun h=>by rw[g1,g2,g3,h.1,h.2],fun h=>by injection h with _ _ _ h1 h2;exact⟨h1,h2⟩⟩
 clear hM;subst g1 g2 g3;obtain⟨d1,vO⟩:=l8 an;obtain⟨d2,EW⟩:=l8 ap;obtain⟨d3,PI⟩:=l8 az;obtain⟨d4,d4x⟩:=VM g4;obtain⟨d5,d5x⟩:=VM g5
 replace h1:=bB.mk h1
 replace h2:=bB.mk h2
 have ga:=KZ ah;have gb:=KZ bh;have ua:=IP ae;have ub:=IP be;refine aD ?_;refine fK (α:=Unit) ah.length (fun k _=> [(5,true,zV k),(3,true,.ptr 1 0 0),(2,true,.ptr 0 0 0)]) (fun _ _=> [(0,some (.cells 161 5 [[zV an,zV ap,zV az,.snap (aA dF ah),.snap (aA eJ ae)]] true false)),(1,some (.cells 161 5 [[zV an,zV ap,zV az,.snap (aA dF bh),.snap (aA eJ be)]] true false))]) (fun k m _=>2<=m/\∀i,i<k->ah.getD i []=bh.getD i []) ⟨100,(),⟨by omega,fun i hi=>absurd hi (by omega)⟩,aT⟩ (fun k m _ hk hR=> ?_) (fun m _ hR=> ?_)
 ·obtain⟨hm,hR⟩:=hR
  have LB:=ga k hk;have LC:=gb k (by omega)
  have he:=Kc (h1.out _ (cQ [] hk)) (h2.out _ (cQ [] (by omega:k<bh.length)))
  clear ga gb ua ub;obtain⟨x,hx⟩:∃x,ah.getD k []=x:=⟨_,rfl⟩;obtain⟨y,hy⟩:∃y,bh.getD k []=y:=⟨_,rfl⟩;rw[hx]at LB he;rw[hy]at LC he;have Kd:k<bh.length:=by omega
  by_cases g:x=y
  ·have cP:bB (∀i,i<k+1->ah.getD i []=bh.getD i []):=⟨fun i hi=>by
    rcases oA i k with h1|h1
    ·exact hR i h1
    ·rw[show i=k by omega,hx,hy];exact g⟩
   rw[decide_eq_true g]at he;clear hR hx hy g l9;refine aD ?_;exact⟨m+20,(),⟨by omega,cP.out⟩,aT⟩
  ·rw[decide_eq_false (fun h=>g (by rw[<-hx,<-hy,h.1]))]at l9
   subst l9;rw[decide_eq_false g]at he;clear hR hx hy g;refine aD ?_;exact aC
 obtain⟨hm,hR⟩:=hR;have e1:ah=bh:=Bg [] g4 hR
 have VN:decide (ae=be)=M:=by
  rw[<-l9];exact decide_eq_decide.2 ⟨fun h=>⟨e1,h⟩,fun h=>h.2⟩
 clear l9 hR e1 ga gb;refine aD ?_;refine fK (α:=Unit) ae.length (fun k _=> [(6,true,zV k),(3,true,.ptr 1 0 0),(2,true,.ptr 0 0 0)]) (fun _ _=> [(0,some (.cells 161 5 [[zV an,zV ap,zV az,.snap (aA dF ah),.snap (aA eJ ae)]] true false)),(1,some (.cells 161 5 [[zV an,zV ap,zV az,.snap (aA dF bh),.snap (aA eJ be)]] true false))]) (fun k m _=>2<=m/\∀i,i<k->ae.getD i false=be.getD i false) ⟨m+100,(),⟨by omega,fun i hi=>absurd hi (by omega)⟩,aT⟩ (fun k m _ hk hR=> ?_) (fun m _ hR=> ?_)
 ·obtain⟨hm,hR⟩:=hR
  have LB:(aA eJ ae)[k]? =some [bV (ae.getD k false)]:=ua k hk;have LC:(aA eJ be)[k]? =some [bV (be.getD k false)]:=ub k (by omega)
  clear ua ub;obtain⟨x,hx⟩:∃x,ae.getD k false=x:=⟨_,rfl⟩;obtain⟨y,hy⟩:∃y,be.getD k false=y:=⟨_,rfl⟩;rw[hx]at LB;rw[hy]at LC;have Kd:k<be.length:=by omega
  by_cases g:x=y
  ·have cP:bB (∀i,i<k+1->ae.getD i false=be.getD i false):=⟨fun i hi=>by
    rcases oA i k with h1|h1
    ·exact hR i h1
    ·rw[show i=k by omega,hx,hy];exact g⟩
   have hd:(x==y)=true:=by simpa using g
   clear hR hx hy g VN;refine aD ?_;exact⟨m+20,(),⟨by omega,cP.out⟩,aT⟩
  ·rw[decide_eq_false (fun h=>g (by rw[<-hx,<-hy,h]))]at VN
   subst VN;have hd:(x==y)=false:=by simpa using g
   clear hR hx hy g;refine aD ?_;exact aC
 obtain⟨hm,hR⟩:=hR;rw[decide_eq_true (Bg false g5 hR)]at VN;subst VN;clear hR ua ub;refine aD ?_;exact aC
@[go_sem] theorem cE4(F:List aW)(n p s:Int)(h:List (List Int))(e:List Bool)(r:List Int)(c:Bool):aA bQ F++[[zV n,zV p,zV s,.snap (aA dF h),.snap (aA eJ e),.snap (aA bD r),bV c]]=aA bQ (F++[⟨n,p,s,h,e,r,c⟩]):=sP F ⟨n,p,s,h,e,r,c⟩
set_option maxHeartbeats 8000000
theorem bk7:Tryz.prog.eqGuardType Tryz.prog.depth 149=false:=by kernel_rfl
theorem Kh(xs ys:List Int)(hx:xs.length=3)(hy:ys.length=3):EL Tryz.prog 149 (.agg (xs.map zV)) (.agg (ys.map zV))=some (decide (xs=ys)):=by
 unfold EL;rw[bk7,if_neg (by simp)]
 have hk:AH Tryz.prog 149=some (.array 3 0):=by kernel_rfl
 unfold AH at hk;split at hk
 ·rename_i fs hu
  split at hk
  ·cases hk
  ·rename_i hp
   obtain⟨n,hm,he⟩:=PJ hk;simp only[TypeDesc.array.injEq,and_true]at he;subst he;have:=Ki (P:=Tryz.prog) (d:=9998) fs.toList 0 3 xs ys hm (by rw[hx]) (by rw[hy])
   simp only[CO]at this
   show sW Tryz.prog (9999+1) 149 (.agg (xs.map zV)) (.agg (ys.map zV))=_
   rw[aa9 hu,if_neg hp];have e1:∀l:List Int,l.map zV=(l.map iV).map AV.c:=fun l=>by rw[I1];rfl
   rw[e1,e1];exact this
 ·cases hk
 ·rename_i VO C3
  exact absurd hk (C3 _ _)
def AI(h:List (List Int))(k:Nat):List (List AV):=aA dF (h.take k)++List.replicate (h.length-k) [.c (.slice none 0 0)]
theorem bk8(h:List (List Int)):List.replicate h.length [AV.c (.slice none 0 0)]=AI h 0:=rfl
theorem ab0(h:List (List Int)):AI h h.length=aA dF h:=by unfold AI;rw[lI,CM];simp
theorem ab1{h:List (List Int)}{k:Nat}(hk:k<=h.length):(AI h k).length=h.length:=by
 unfold AI;rw[bP,mH,cU,s6];omega
theorem ab2{h:List (List Int)}{k:Nat}(hk:k<h.length):(AI h k)[k]? =some [.c (.slice none 0 0)]:=by
 unfold AI;rw[k7 (by rw[mH,cU];omega),O8,if_pos (by rw[mH,cU];omega)]
theorem ab3{h:List (List Int)}{k:Nat}(hk:k<h.length):(AI h k).set k [.snap (aA aN (h.getD k []))]=AI h (k+1):=by
 unfold AI;have hl:(aA dF (h.take k)).length=k:=by rw[mH,cU];omega
 rw[List.set_append_right _ _ (by omega),hl,CM,A8 [] hk,<-LH,show h.length-k=(h.length-(k+1))+1 by omega,I6,Gc,fF]
 rfl
attribute [local irreducible] AI
theorem ab4(a:nT)(b:List Int)(hA:V8 a)(hb:∀x∈b,aV x)(hl:b.length<=100000):PC 74 [.agg (iZ a),.snap (aA aN b)] (.aU [.agg (iZ (iA a b).1),zV (iA a b).2]):=by
 refine BI Tryz.func74 Tryz.ntmps74 (by simp only[go_sem,iZ]) ?_
 have c1:=Iz a (by have:=hA.bS;omega) (by have:=hA.seen;omega) (fun y hy=>by have:=(hA.one y hy).1;omega)
 have c2:=Iw b hb hl;have dO:=IQ hb;have h3:=Je (a:=a);have h4:=Yp (a:=a);obtain⟨M,hM⟩:∃M,iA a b=M:=⟨_,rfl⟩;rw[hM];unfold iA at hM;generalize qF a=ae at*;generalize bZ b=R at*;obtain⟨⟨n,i,p,s,l⟩,e⟩:=R;obtain⟨an,ap,az,ah,oJ⟩:=a;have gG:=hA.one;have KP:=hA.seen;clear hA hb;unfold iZ at*;simp only[]at*;by_cases g1:ae=0
 case neg=>
  rw[if_neg g1]at hM;subst hM;have h3:=h3 g1;subst h3;clear c2 dO h4 gG;unfold rL;refine aD ?_;exact aC
 rw[if_pos g1]at hM;obtain⟨-,-,p1,-,-,-,p2,p3,-⟩:=h4 g1;subst g1;clear h3 h4;by_cases g2:e=0
 case neg=>
  rw[if_neg g2]at hM;subst hM;clear dO gG;unfold rL;refine aD ?_;exact aC
 rw[if_pos g2]at hM;obtain⟨o1,o2,o3,o4,o5,o6,o7,o8,o9,o10,o11⟩:=dO g2;subst g2;clear dO;by_cases g3:n=an
 case neg=>
  rw[if_neg g3]at hM;subst hM;obtain⟨g,gx⟩:=LG g3;clear gG g3;unfold rL;refine aD ?_;exact aC
 rw[if_pos g3]at hM;by_cases g4:p=ap
 case neg=>
  rw[if_neg (fun h=>g4 h.1)]at hM
  subst hM g3;obtain⟨d1,vO⟩:=l8 n;have g:EL Tryz.prog 149 (.agg [zV n,zV p,zV s]) (.agg [zV n,zV ap,zV az])=some false:=(Kh [n,p,s] [n,ap,az] rfl rfl).trans (by rw[decide_eq_false (fun h=>g4 (by injection h with _ h;injection h))])
  clear gG g4;unfold rL;refine aD ?_;exact aC
 by_cases g5:s=az
 case neg=>
  rw[if_neg (fun h=>g5 h.2)]at hM
  subst hM g3 g4;obtain⟨d1,vO⟩:=l8 n;have g:EL Tryz.prog 149 (.agg [zV n,zV p,zV s]) (.agg [zV n,zV p,zV az])=some false:=(Kh [n,p,s] [n,p,az] rfl rfl).trans (by rw[decide_eq_false (fun h=>g5 (by injection h with _ h;injection h with _ h;injection h))])
  clear gG g5;unfold rL;refine aD ?_;exact aC
 rw[if_pos ⟨g4,g5⟩]at hM;subst g3 g4 g5;obtain⟨d1,vO⟩:=l8 n;obtain⟨i,rfl⟩:=BA o3;rw[mE]at hM;subst p2;have hih:i<ah.length:=by omega
 have xU:i<oJ.length:=by omega
 have c3:=bj5 (ah.getD i []) l (gG _ (cQ [] hih)).2 o10;have A5:=KZ ah;have k8:=A5 i hih
 replace A5:=bB.mk A5
 have IH:(aA eJ oJ)[i]? =some [bV (oJ.getD i false)]:=IP oJ i xU;have w1:∀k:Nat,k<ah.length->PC 151 [.snap (aA aN (ah.getD k []))] (.snap (aA aN (ah.getD k []))):=fun k hk=>BL _ (by have:=(gG _ (cQ [] hk)).1;omega)
 clear gG o10
 replace w1:=bB.mk w1
 have d4:EL Tryz.prog 149 (.agg [zV n,zV ah.length,zV s]) (.agg [zV n,zV ah.length,zV s])=some true:=(Kh [n,ah.length,s] [n,ah.length,s] rfl rfl).trans (by simp)
 generalize oJ.getD i false=sb at*;have c4:=bk1 oJ (fun h=>by rw[h]at xU;simp at xU) (by omega)
 have m0:=bk8 ah;have ZU:(aA eJ oJ).set i [bV true]=aA eJ (oJ.set i true):=TR (f:=eJ) oJ i true;have pM:(aA dF ah).set i [.snap (aA aN l)]=aA dF (ah.set i l):=TR (f:=dF) ah i l;cases sb with
 |true=>
  by_cases g6:ah.getD i []=l
  case neg=>
   rw[if_pos ⟨rfl,g6⟩]at hM;subst hM;rw[decide_eq_false g6]at c3;unfold rL;clear w1;refine aD ?_;exact aC
  rw[if_neg (fun h=>h.2 g6)]at hM
  subst hM;rw[decide_eq_true g6]at c3;clear g6;refine aD ?_;refine fK (α:=Unit) ah.length (fun k _=> [(81,true,zV k),(80,true,zV ah.length),(79,true,.snap (aA dF ah)),(10,true,.ptr 4 0 0),(8,true,.snap (aA aN l)),(7,true,.ptr 2 0 0),(4,true,.ptr 1 0 0)]) (fun k _=> [(1,some (.cells 161 5 [[zV 0,zV 0,zV 0,.c (.slice none 0 0),.c (.slice none 0 0)]] true false)),(2,some (.cells 154 4 [[zV n,zV ah.length,zV s,zV i]] true false)),(4,some (.cells 161 5 [[zV n,zV ah.length,zV s,.own 11 0 ah.length,.own 8 0 oJ.length]] true false)),(8,some (.cells 4 1 (aA eJ oJ) true true)),(11,some (.cells 74 1 (AI ah k) true true))]) (fun k m _=>12<=m) ⟨100,(),by omega,aT⟩ (fun k m _ hk hm=> ?_) (fun m _ hm=> ?_)
  ·have fD:=A5.out k hk
   have c5:=w1.out k hk;have m1:=ab2 hk;have m2:=ab3 hk;have m3:=ab1 (h:=ah) (k:=k) (by omega)
   generalize ah.getD k []=x at*;clear A5 w1 pM ZU k8 IH m0 c4;refine aD ?_;exact⟨m+40,(),by omega,aT⟩
  ·rw[ab0]
   have yU:(aA dF ah).length=ah.length:=mH ah;have cW:(aA eJ oJ).length=oJ.length:=mH oJ;have t1:(ah.set i l).take ah.length=ah.set i l:=eD (by simp)
   have t2:(oJ.set i true).take oJ.length=oJ.set i true:=eD (by simp)
   have n1:(∀row,row∈aA dF (ah.set i l)->∀x,x∈row->bK x)=True:=eq_true (oB _);have n2:(∀row,row∈aA eJ (oJ.set i true)->∀x,x∈row->bK x)=True:=eq_true (oB _);have x1:=fun G k=>Ke G k (ah.set i l)
   have x2:=fun G k=>Jb G k (oJ.set i true)
   clear A5 w1 m0 c4;refine aD ?_;exact oD
 |false=>
  rw[if_neg (fun h=>absurd h.1 (by decide))]at hM
  subst hM;clear c3;refine aD ?_;refine fK (α:=Unit) ah.length (fun k _=> [(81,true,zV k),(80,true,zV ah.length),(79,true,.snap (aA dF ah)),(10,true,.ptr 4 0 0),(8,true,.snap (aA aN l)),(7,true,.ptr 2 0 0),(4,true,.ptr 1 0 0)]) (fun k _=> [(1,some (.cells 161 5 [[zV 0,zV 0,zV 0,.c (.slice none 0 0),.c (.slice none 0 0)]] true false)),(2,some (.cells 154 4 [[zV n,zV ah.length,zV s,zV i]] true false)),(4,some (.cells 161 5 [[zV n,zV ah.length,zV s,.own 11 0 ah.length,.own 8 0 oJ.length]] true false)),(8,some (.cells 4 1 (aA eJ oJ) true true)),(11,some (.cells 74 1 (AI ah k) true true))]) (fun k m _=>12<=m) ⟨100,(),by omega,aT⟩ (fun k m _ hk hm=> ?_) (fun m _ hm=> ?_)
  ·have fD:=A5.out k hk
   have c5:=w1.out k hk;have m1:=ab2 hk;have m2:=ab3 hk;have m3:=ab1 (h:=ah) (k:=k) (by omega)
   generalize ah.getD k []=x at*;clear A5 w1 pM ZU k8 IH m0 c4;refine aD ?_;exact⟨m+40,(),by omega,aT⟩
  ·rw[ab0]
   have yU:(aA dF ah).length=ah.length:=mH ah;have cW:(aA eJ oJ).length=oJ.length:=mH oJ;have t1:(ah.set i l).take ah.length=ah.set i l:=eD (by simp)
   have t2:(oJ.set i true).take oJ.length=oJ.set i true:=eD (by simp)
   have n1:(∀row,row∈aA dF (ah.set i l)->∀x,x∈row->bK x)=True:=eq_true (oB _);have n2:(∀row,row∈aA eJ (oJ.set i true)->∀x,x∈row->bK x)=True:=eq_true (oB _);have x1:=fun G k=>Ke G k (ah.set i l)
   have x2:=fun G k=>Jb G k (oJ.set i true)
   clear A5 w1 m0 c4;refine aD ?_;exact oD
end Go.Proofs.YtioafciifiggaaaGreatDoor
namespace Go.Proofs.YtioafciifiggaaaGreatDoor
open Go.Proofs Go.AL
set_option maxRecDepth 100000
set_option maxHeartbeats 8000000
attribute [local irreducible] cH AW b9 dR eH hold
attribute [local irreducible] jI
theorem IX(a c:Int):PC 87 [.agg [zV a,zV c]] (zV (IntKind.i64.wrap (c-16))):=by
 refine bI Tryz.func87 Tryz.ntmps87 (.c _) ?_;refine aD ?_;exact aC
theorem Bi(a c p:Int):PC 109 [.agg [zV a,zV c],zV p] (zV (IntKind.i64.wrap (IntKind.i64.wrap (a+16)+p))):=by
 refine bI Tryz.func109 Tryz.ntmps109 (.c _) ?_;refine aD ?_;exact aC
theorem Kj(j:Jr)(u:Int)(h0:1<=j.first)(h1:j.first<=1073741824)(hl:j.b8.length<=100000):PC 85 [.agg (encS j u)] (zV (j.first+j.b8.length)):=by
 refine bI Tryz.func85 Tryz.ntmps85 (.c _) ?_;have w:=IntWalk.i64_in (j.first+j.b8.length) (by omega)
 unfold encS;refine aD ?_;exact aC
theorem Kk(j:Jr)(u:Int)(h0:20<=j.count)(h1:j.count<=4096)(h2:0<=u)(h3:u<=4096):PC 58 [.agg (encS j u)] (zV (j.count-16-u)):=by
 refine bI Tryz.func58 Tryz.ntmps58 (.c _) ?_;have c1:=IX j.start j.count;have w:=IntWalk.i64_in (j.count-16) (by omega)
 have w2:=IntWalk.i64_in (j.count-16-u) (by omega)
 rw[w]at c1;unfold encS;refine aD ?_;exact aC
theorem ab7(a c p:Int)(l:List aH)(h1:0<=a)(h2:a<=4096)(h3:20<=c)(h4:c<=4096)(h5:0<=p)(h6:p<c-16)(hl:l.length<=100000):sC Tryz.prog 103 [.agg [zV a,zV c],zV p,.snap (aA aS l)] 100 3 (aA bJ (tC a (c-16) p l)):=by
 refine G7 Tryz.func103 Tryz.ntmps103 (by simp only[go_sem]) (oB _) ?_
 have c1:=IX a c;have c2:=Bi a c p;have c3:=Bi a c 0;rw[IntWalk.i64_in (c-16) (by omega)]at c1
 rw[IntWalk.i64_in (a+16) (by omega),IntWalk.i64_in (a+16+p) (by omega)]at c2
 rw[IntWalk.i64_in (a+16) (by omega),IntWalk.i64_in (a+16+0) (by omega)]at c3
 have w:=IntWalk.i64_in (c-16-p) (by omega)
 unfold tC;obtain⟨q,hq⟩:∃q:Nat,c-16-p=q:=⟨(c-16-p).toNat,by omega⟩
 rw[hq]at w⊢;rw[mE];by_cases g:(q:Int)<l.length
 ·rw[if_pos g]
  have g1:min (l.length:Int) q=q:=by omega
  have g2:¬(l.length:Int)<q:=by omega
  have r1:aA bJ [(0,a+16+p,l.take q),(0,a+16,l.drop q)]=[[zV 0,zV (a+16+p),.snap (aA aS (l.take q))],[zV 0,zV (a+16),.snap (aA aS (l.drop q))]]:=rfl;rw[r1];have h0:a+16+0=a+16:=by omega
  rw[h0]at c3;have hd:(l.drop q).take (l.length-q)=l.drop q:=eD (by rw[eF];exact cE _)
  clear h0;refine aD ?_;exact⟨_,lT,lT⟩
 ·rw[if_neg g]
  have g1:min (l.length:Int) q=l.length:=by omega
  have r1:aA bJ [(0,a+16+p,l)]=[[zV 0,zV (a+16+p),.snap (aA aS l)]]:=rfl;rw[r1];have hd:l.take l.length=l:=lI;refine aD ?_;exact⟨_,lT,lT⟩
end Go.Proofs.YtioafciifiggaaaGreatDoor
