/- Target: contracts of its functions (Au). No condition but those named. -/
import Derived.Test.YtpaomccedbjknaaGreatDoorAt
set_option linter.all false
namespace Go.Proofs.YtpaomccedbjknaaGreatDoor
open Go.Proofs Go.AL Tryz
set_option maxRecDepth 100000
set_option maxHeartbeats 8000000
attribute [local irreducible] bT AW b8 cF dB hold
attribute [local irreducible] iX
theorem aB9(a:Option Addr)(cap:Nat):PC 196 [.c (.slice a 0 cap)] (.snap (aB eH [])):=by
 refine aZ func196 ntmps196 (gJ _) ?_;cases a with
 |none=>
  refine aM ?_;simp only[yJ];exact cR
 |some a=>
  refine aM ?_;simp only[yJ];exact cR
theorem Ow(l:List Bool)(hl:l.length<=1000000):PC 196 [.snap (aB eH l)] (.snap (aB eH l)):=by
 by_cases h:l=[]
 ·subst h
  exact eA.nil (pre:=[]) (post:=[]) aB9
 ·refine aZ func196 ntmps196 (gJ l) ?_
  have h1:=qF h;exact zEa
theorem aC0(l:List Bool)(h:l≠[])(hl:l.length<=1000000):r5 prog 196 [.snap (aB eH l)] 4 1 (aB eH l):=by
 refine EU func196 ntmps196 (by simp only[go_sem]) (oN l) ?_
 have h1:=qF h;refine aM ?_;exact⟨1,by simp only[go_sem],by simp only[go_sem]⟩
theorem aC1(l:List bK)(h:l≠[])(hl:l.length<=1000000):r5 prog 242 [.snap (aB bX l)] 192 7 (aB bX l):=by
 refine EU func242 ntmps242 (by simp only[go_sem]) (oN l) ?_
 have h1:=qF h;refine aM ?_;exact⟨1,by simp only[go_sem],by simp only[go_sem]⟩
theorem Be(G:Nat->Option aI)(k:Nat)(l:List (List Int)):(aB bY l).map (fun row=>row.map (bJ G k))=aB bY l:=by
 unfold aB;rw[B9];refine sG fun o _=> ?_
 cases k<;>simp[bY,bJ]
theorem VC(a:oX)(r:List Int)(c:Bool)(ha:a.dF.length<=100000)(hs:a.seen.length<=100000)(hp:∀x∈a.dF,x.length<=100000)(hr:r.length<=200000):PC 118 [.agg (jX a),.snap (aB aW r),bV c] (.agg (bX (z7 a r c))):=by
 refine iZ func118 ntmps118 (by rw[lY];simp only[go_sem]) ?_
 have c1:=Ow a.seen oM
 have c2:=yK r oM
 have hg:=F8 a.dF
 replace hp:=bC.mk hp
 obtain⟨n,p,s,h,e⟩:=a;rw[lY];unfold z7 jX at*;simp only[]at*;refine aE ?_;refine dC (α:=Nat) h.length (fun k id=> [(26,true,zV k),(25,true,zV h.length),(24,true,.snap (aB bY h)),(7,true,.ptr 15 0 0),(6,true,.ptr 1 0 0),(3,true,.ptr 0 0 0)]) (fun k id=>(0,some (.cells 216 5 [[zV n,zV p,zV s,.snap (aB bY h),.snap (aB eH e)]] true false))::(1,some (.cells 192 7 [[zV 0,zV 0,zV 0,.c (.slice none 0 0),.c (.slice none 0 0),.c (.slice none 0 0),bV false]] true false))::(15,some (.cells 192 7 [[zV n,zV p,zV s,lJ k id,.snap (aB eH e),.snap (aB aW r),bV c]] true false))::lX 77 1 (aB bY (h.take k)) k id) (fun k m id=>16<=m/\(0<k->16<=id/\id<m)) ⟨100,0,⟨oM,fun h=>absurd h oM⟩,aG⟩ (fun k m id hk hR=> ?_) (fun m id hR=> ?_)
 ·obtain⟨hm,hR⟩:=hR
  have bO:=hg k hk;have QJ:(h.getD k []).length<=100000:=hp.out _ (eB [] hk);have c3:=HC (h.getD k []) oM
  have cI:=kF [] hk;have eR:aB bY (h.take k)++[[.snap (aB aO (h.getD k []))]]=aB bY (h.take k++[h.getD k []]):=kK (h.take k) (h.getD k []);have iE:(h.take k).length=k:=by rw[dX];omega
  rw[cI];clear cI hg hp QJ c1 c2 hs hr;generalize h.getD k []=x at*;generalize h.take k=F at*;have dM:aB bY ([]++[x])=[[.snap (aB aO x)]]:=rfl;cases k with
  |zero=>
   have jC:F=[]:=eL iE;subst jC;clear hR iE eR;refine aE ?_;exact⟨m+40,m+5,⟨oM,fun _=>by omega⟩,aG⟩
  |succ q=>
   obtain⟨i1,i2⟩:=hR oM
   clear hR dM;refine aE ?_;exact⟨m+40,m+5,⟨oM,fun _=>by omega⟩,aG⟩
 ·obtain⟨hm,hR⟩:=hR
  rw[gP];clear hg hp c1 c2 ha hs hr;cases hh:h.length with
  |zero=>
   have jD:h=[]:=eL hh;subst jD;clear hR hh;refine aE ?_;exact dS
  |succ q=>
   obtain⟨i1,i2⟩:=hR oM
   have hex:=fun G k=>Be G k h
   have cI:h.take (q+1)=h:=cN oM
   have fM:(∀row,row∈aB bY h->∀x,x∈row->bF x)=True:=eq_true (oN h);clear hR;refine aE ?_;exact dS
theorem Bf(x:Int):IntKind.u8.wrap x=x % 256:=by
 simp[IntKind.wrap,IntKind.bits,IntKind.signed]
theorem Ox(n:Int):n.fdiv (2 ^ min 8 64)=n/256:=by
 have:(2:Int) ^ min 8 64=256:=by decide
 rw[this,bH9 _ dE]
theorem aC2(n:Int)(h0:0<=n)(h1:n<=4294967295):PC 265 [zV n,zV 2] (.snap (aB aO (rD n 2))):=by
 refine aZ func265 ntmps265 (gJ _) ?_;have hr:aB aO (rD n 2)=[[uV (n % 256)],[uV (n/256 % 256)]]:=rfl;rw[hr];have hd:=Ox;have hu:=Bf;refine aE ?_;refine fZ 3 ?_;refine gD ?_;exact zE
theorem Oy(n:Int)(h0:0<=n)(h1:n<=4294967295):PC 265 [zV n,zV 4] (.snap (aB aO (rD n 4))):=by
 refine aZ func265 ntmps265 (gJ _) ?_;have hr:aB aO (rD n 4)=[[uV (n % 256)],[uV (n/256 % 256)],[uV (n/256/256 % 256)],[uV (n/256/256/256 % 256)]]:=rfl;rw[hr];have hd:=Ox;have hu:=Bf;refine aE ?_;refine fZ 5 ?_;refine gD ?_;exact zE
theorem I3{x y:Int}(h:¬x=y):(x==y)=false/\(x !=y)=true:=⟨beq_eq_false_iff_ne.2 h,bne_iff_ne.2 h⟩
theorem jJ(x:Int):(x==x)=true/\(x !=x)=false:=by simp
theorem Oz{x y:Nat}(h:¬x=y):((x:Int)==(y:Int))=false/\((x:Int) !=(y:Int))=true:=⟨beq_eq_false_iff_ne.2 oM,bne_iff_ne.2 oM⟩
theorem Bg{x y:Nat}(h:x=y):((x:Int)==(y:Int))=true/\((x:Int) !=(y:Int))=false:=by simp[h]
theorem aC3(a b:oX)(ha:a.dF.length<=100000)(hb:b.dF.length<=100000)(sa:a.seen.length<=100000)(sb:b.seen.length<=100000)(h1:∀x∈a.dF,∀y∈x,bZ y)(h2:∀x∈b.dF,∀y∈x,bZ y):PC 121 [.agg (jX a),.agg (jX b)] (bV (decide (a=b))):=by
 refine aZ func121 ntmps121 (.c _) ?_;have c1:=aB7 a.seen b.seen sa sb;have c2:=aB8 a.dF b.dF ha hb h1 h2;clear h1 h2 ha hb sa sb;obtain⟨M,hM⟩:∃M,decide (a=b)=M:=⟨_,rfl⟩;rw[hM];obtain⟨an,ap,az,ah,ae⟩:=a;obtain⟨bn,bp,bs,bh,be⟩:=b;unfold jX;simp only[]at*;by_cases g1:an=bn
 case neg=>
  rw[decide_eq_false (fun h=>g1 (by injection h))]at hM
  subst hM;obtain⟨g,gx⟩:=I3 g1;clear g1 c1 c2;exact zE
 by_cases g2:ap=bp
 case neg=>
  rw[decide_eq_false (fun h=>g2 (by injection h))]at hM
  subst hM;obtain⟨g,gx⟩:=I3 g2;subst g1;obtain⟨d1,wQ⟩:=jJ an;clear g2 c1 c2;exact zE
 by_cases g3:az=bs
 case neg=>
  rw[decide_eq_false (fun h=>g3 (by injection h))]at hM
  subst hM;obtain⟨g,gx⟩:=I3 g3;subst g1 g2;obtain⟨d1,wQ⟩:=jJ an;obtain⟨d2,C4⟩:=jJ ap;clear g3 c1 c2;exact zE
 by_cases g4:ae=be
 case neg=>
  rw[decide_eq_false (fun h=>g4 (by injection h))]at hM
  subst hM;rw[decide_eq_false g4]at c1;subst g1 g2 g3;obtain⟨d1,wQ⟩:=jJ an;obtain⟨d2,C4⟩:=jJ ap;obtain⟨d3,I4⟩:=jJ az;clear g4 c2;exact zE
 by_cases g5:ah=bh
 case neg=>
  rw[decide_eq_false (fun h=>g5 (by injection h))]at hM
  subst hM;rw[decide_eq_true g4]at c1;rw[decide_eq_false g5]at c2;subst g1 g2 g3;obtain⟨d1,wQ⟩:=jJ an;obtain⟨d2,C4⟩:=jJ ap;obtain⟨d3,I4⟩:=jJ az;clear g4 g5;exact zE
 ·rw[decide_eq_true g4]at c1
  rw[decide_eq_true g5]at c2;subst g1 g2 g3 g4 g5;rw[decide_eq_true rfl]at hM;subst hM;obtain⟨d1,wQ⟩:=jJ an;obtain⟨d2,C4⟩:=jJ ap;obtain⟨d3,I4⟩:=jJ az;exact zE
theorem aC4(a b:oX)(ha:a.dF.length<=100000)(hb:b.dF.length<=100000)(sa:a.seen.length<=100000)(sb:b.seen.length<=100000)(h1:∀x∈a.dF,∀y∈x,bZ y)(h2:∀x∈b.dF,∀y∈x,bZ y):PC 170 [.agg (jX a),.agg (jX b)] (bV (decide (a=b))):=by
 refine aZ func170 ntmps170 (.c _) ?_;obtain⟨M,hM⟩:∃M,decide (a=b)=M:=⟨_,rfl⟩;rw[hM];obtain⟨an,ap,az,ah,ae⟩:=a;obtain⟨bn,bp,bs,bh,be⟩:=b;unfold jX;simp only[]at*;by_cases g1:an=bn
 case neg=>
  rw[decide_eq_false (fun h=>g1 (by injection h))]at hM
  subst hM;obtain⟨g,gx⟩:=I3 g1;clear g1 h1 h2;exact zE
 by_cases g2:ap=bp
 case neg=>
  rw[decide_eq_false (fun h=>g2 (by injection h))]at hM
  subst hM;obtain⟨g,gx⟩:=I3 g2;subst g1;obtain⟨d1,wQ⟩:=jJ an;clear g2 h1 h2;exact zE
 by_cases g3:az=bs
 case neg=>
  rw[decide_eq_false (fun h=>g3 (by injection h))]at hM
  subst hM;obtain⟨g,gx⟩:=I3 g3;subst g1 g2;obtain⟨d1,wQ⟩:=jJ an;obtain⟨d2,C4⟩:=jJ ap;clear g3 h1 h2;exact zE
 by_cases g4:ah.length=bh.length
 case neg=>
  rw[decide_eq_false (fun h=>g4 (by injection h with _ _ _ h _;rw[h]))]at hM
  subst hM;obtain⟨g,gx⟩:=Oz g4;subst g1 g2 g3;obtain⟨d1,wQ⟩:=jJ an;obtain⟨d2,C4⟩:=jJ ap;obtain⟨d3,I4⟩:=jJ az;clear g4 h1 h2;exact zE
 by_cases g5:ae.length=be.length
 case neg=>
  rw[decide_eq_false (fun h=>g5 (by injection h with _ _ _ _ h;rw[h]))]at hM
  subst hM;obtain⟨g,gx⟩:=Oz g5;subst g1 g2 g3;obtain⟨d1,wQ⟩:=jJ an;obtain⟨d2,C4⟩:=jJ ap;obtain⟨d3,I4⟩:=jJ az;obtain⟨d4,Pb⟩:=Bg g4;clear g5 h1 h2;exact zE
 have QK:decide (ah=bh/\ae=be)=M:=by
  rw[<-hM];exact decide_eq_decide.2 ⟨fun h=>by rw[g1,g2,g3,h.1,h.2],fun h=>by injection h with _ _ _ h1 h2;exact⟨h1,h2⟩⟩
 clear hM;subst g1 g2 g3;obtain⟨d1,wQ⟩:=jJ an;obtain⟨d2,C4⟩:=jJ ap;obtain⟨d3,I4⟩:=jJ az;obtain⟨d4,Pb⟩:=Bg g4;obtain⟨d5,Bh⟩:=Bg g5
 replace h1:=bC.mk h1
 replace h2:=bC.mk h2
 have ga:=F8 ah;have gb:=F8 bh;have ua:=F7 ae;have ub:=F7 be;refine aE ?_;refine dC (α:=Unit) ah.length (fun k _=> [(5,true,zV k),(3,true,.ptr 1 0 0),(2,true,.ptr 0 0 0)]) (fun _ _=> [(0,some (.cells 216 5 [[zV an,zV ap,zV az,.snap (aB bY ah),.snap (aB eH ae)]] true false)),(1,some (.cells 216 5 [[zV an,zV ap,zV az,.snap (aB bY bh),.snap (aB eH be)]] true false))]) (fun k m _=>2<=m/\∀i,i<k->ah.getD i []=bh.getD i []) ⟨100,(),⟨oM,fun i hi=>absurd hi oM⟩,aG⟩ (fun k m _ hk hR=> ?_) (fun m _ hR=> ?_)
 ·obtain⟨hm,hR⟩:=hR
  have FJ:=ga k hk;have FK:=gb k oM
  have he:=Bd (h1.out _ (eB [] hk)) (h2.out _ (eB [] (by omega:k<bh.length)))
  clear ga gb ua ub;obtain⟨x,hx⟩:∃x,ah.getD k []=x:=⟨_,rfl⟩;obtain⟨y,hy⟩:∃y,bh.getD k []=y:=⟨_,rfl⟩;rw[hx]at FJ he;rw[hy]at FK he;have VB:k<bh.length:=oM
  by_cases g:x=y
  ·have cW:bC (∀i,i<k+1->ah.getD i []=bh.getD i []):=⟨fun i hi=>by
    rcases qY i k with h1|h1
    ·exact hR i h1
    ·rw[show i=k by omega,hx,hy];exact g⟩
   rw[decide_eq_true g]at he;clear hR hx hy g QK;refine aE ?_;exact⟨m+20,(),⟨oM,cW.out⟩,aG⟩
  ·rw[decide_eq_false (fun h=>g (by rw[<-hx,<-hy,h.1]))]at QK
   subst QK;rw[decide_eq_false g]at he;clear hR hx hy g;exact zE
 obtain⟨hm,hR⟩:=hR;have e1:ah=bh:=QI [] g4 hR
 have QL:decide (ae=be)=M:=by
  rw[<-QK];exact decide_eq_decide.2 ⟨fun h=>⟨e1,h⟩,fun h=>h.2⟩
 clear QK hR e1 ga gb;refine aE ?_;refine dC (α:=Unit) ae.length (fun k _=> [(6,true,zV k),(3,true,.ptr 1 0 0),(2,true,.ptr 0 0 0)]) (fun _ _=> [(0,some (.cells 216 5 [[zV an,zV ap,zV az,.snap (aB bY ah),.snap (aB eH ae)]] true false)),(1,some (.cells 216 5 [[zV an,zV ap,zV az,.snap (aB bY bh),.snap (aB eH be)]] true false))]) (fun k m _=>2<=m/\∀i,i<k->ae.getD i false=be.getD i false) ⟨m+100,(),⟨oM,fun i hi=>absurd hi oM⟩,aG⟩ (fun k m _ hk hR=> ?_) (fun m _ hR=> ?_)
 ·obtain⟨hm,hR⟩:=hR
  have FJ:(aB eH ae)[k]? =some [bV (ae.getD k false)]:=ua k hk;have FK:(aB eH be)[k]? =some [bV (be.getD k false)]:=ub k oM
  clear ua ub;obtain⟨x,hx⟩:∃x,ae.getD k false=x:=⟨_,rfl⟩;obtain⟨y,hy⟩:∃y,be.getD k false=y:=⟨_,rfl⟩;rw[hx]at FJ;rw[hy]at FK;have VB:k<be.length:=oM
  by_cases g:x=y
  ·have cW:bC (∀i,i<k+1->ae.getD i false=be.getD i false):=⟨fun i hi=>by
    rcases qY i k with h1|h1
    ·exact hR i h1
    ·rw[show i=k by omega,hx,hy];exact g⟩
   have hd:(x==y)=true:=by simpa using g
   clear hR hx hy g QL;refine aE ?_;exact⟨m+20,(),⟨oM,cW.out⟩,aG⟩
  ·rw[decide_eq_false (fun h=>g (by rw[<-hx,<-hy,h]))]at QL
   subst QL;have hd:(x==y)=false:=by simpa using g
   clear hR hx hy g;exact zE
 obtain⟨hm,hR⟩:=hR;rw[decide_eq_true (QI false g5 hR)]at QL;subst QL;clear hR ua ub;exact zE
@[go_sem] theorem bX2(F:List bK)(n p s:Int)(h:List (List Int))(e:List Bool)(r:List Int)(c:Bool):aB bX F++[[zV n,zV p,zV s,.snap (aB bY h),.snap (aB eH e),.snap (aB aW r),bV c]]=aB bX (F++[⟨n,p,s,h,e,r,c⟩]):=kK F ⟨n,p,s,h,e,r,c⟩
theorem aC5:prog.eqGuardType prog.depth 127=false:=by kernel_rfl
theorem Bi(xs ys:List Int)(hx:xs.length=3)(hy:ys.length=3):vJ prog 127 (.agg (xs.map zV)) (.agg (ys.map zV))=some (decide (xs=ys)):=by
 unfold vJ;rw[aC5,if_neg (by simp)]
 have hk:vR prog 127=some (.array 3 0):=by kernel_rfl
 unfold vR at hk;split at hk
 ·rename_i fs hu
  split at hk
  ·cases hk
  ·rename_i hp
   obtain⟨n,hm,he⟩:=I5 hk;simp only[TypeDesc.array.injEq,and_true]at he;subst he;have:=VD (P:=prog) (d:=9998) fs.toList 0 3 xs ys hm (by rw[hx]) (by rw[hy])
   simp only[sZ]at this
   show pA prog (9999+1) 127 (.agg (xs.map zV)) (.agg (ys.map zV))=_
   rw[Bj hu,if_neg hp];have e1:∀l:List Int,l.map zV=(l.map iV).map AV.c:=fun l=>by rw[B9];rfl
   rw[e1,e1];exact this
 ·cases hk
 ·rename_i Bk DQ
  exact absurd hk (DQ _ _)
theorem aC6:prog.eqGuardType prog.depth 37=false:=by kernel_rfl
theorem aC7(xs ys:List Int)(hx:xs.length=2)(hy:ys.length=2):vJ prog 37 (.agg (xs.map zV)) (.agg (ys.map zV))=some (decide (xs=ys)):=by
 unfold vJ;rw[aC6,if_neg (by simp)]
 have hk:vR prog 37=some (.array 2 0):=by kernel_rfl
 unfold vR at hk;split at hk
 ·rename_i fs hu
  split at hk
  ·cases hk
  ·rename_i hp
   obtain⟨n,hm,he⟩:=I5 hk;simp only[TypeDesc.array.injEq,and_true]at he;subst he;have:=VD (P:=prog) (d:=9998) fs.toList 0 2 xs ys hm (by rw[hx]) (by rw[hy])
   simp only[sZ]at this
   show pA prog (9999+1) 37 (.agg (xs.map zV)) (.agg (ys.map zV))=_
   rw[Bj hu,if_neg hp];have e1:∀l:List Int,l.map zV=(l.map iV).map AV.c:=fun l=>by rw[B9];rfl
   rw[e1,e1];exact this
 ·cases hk
 ·rename_i Bk DQ
  exact absurd hk (DQ _ _)
def xV(h:List (List Int))(k:Nat):List (List AV):=aB bY (h.take k)++List.replicate (h.length-k) [.c (.slice none 0 0)]
theorem aC8(h:List (List Int)):List.replicate h.length [AV.c (.slice none 0 0)]=xV h 0:=rfl
theorem Pc(h:List (List Int)):xV h h.length=aB bY h:=by unfold xV;rw[gP,B7];simp
theorem Pd{h:List (List Int)}{k:Nat}(hk:k<=h.length):(xV h k).length=h.length:=by
 unfold xV;rw[cU,fK,dX,yG];omega
theorem Pe{h:List (List Int)}{k:Nat}(hk:k<h.length):(xV h k)[k]? =some [.c (.slice none 0 0)]:=by
 unfold xV;rw[nI (by rw[fK,dX];omega),Ik,if_pos (by rw[fK,dX];omega)]
theorem Pf{h:List (List Int)}{k:Nat}(hk:k<h.length):(xV h k).set k [.snap (aB aO (h.getD k []))]=xV h (k+1):=by
 unfold xV;have hl:(aB bY (h.take k)).length=k:=by rw[fK,dX];omega
 rw[List.set_append_right _ _ oM,hl,B7,kF [] hk,<-DR,show h.length-k=(h.length-(k+1))+1 by omega,Ia,Yy,nH]
 rfl
attribute [local irreducible] xV
theorem aC9(a:oX)(b:List Int)(hA:Q4 a)(hb:∀x∈b,bZ x)(hl:b.length<=100000):PC 119 [.agg (jX a),.snap (aB aO b)] (.aK [.agg (jX (vL a b).1),zV (vL a b).2]):=by
 refine iZ func119 ntmps119 (by simp only[go_sem,jX]) ?_
 have c1:=ZS a (by have:=hA.dF;omega) (by have:=hA.seen;omega) (fun y hy=>by have:=(hA.one y hy).1;omega)
 have c2:=ZQ b hb hl;have eC:=UM hb;have h3:=ZY (a:=a);have h4:=Nb (a:=a);obtain⟨M,hM⟩:∃M,vL a b=M:=⟨_,rfl⟩;rw[hM];unfold vL at hM;generalize uB a=ae at*;generalize dA b=R at*;obtain⟨⟨n,i,p,s,l⟩,e⟩:=R;obtain⟨an,ap,az,ah,mA⟩:=a;have dM:=hA.one;have sP:=hA.seen;clear hA hb;unfold jX at*;simp only[]at*;by_cases g1:ae=0
 case neg=>
  rw[if_neg g1]at hM;subst hM;have h3:=h3 g1;subst h3;clear c2 eC h4 dM;unfold pU;exact zE
 rw[if_pos g1]at hM;obtain⟨-,-,p1,-,-,-,p2,p3,-⟩:=h4 g1;subst g1;clear h3 h4;by_cases g2:e=0
 case neg=>
  rw[if_neg g2]at hM;subst hM;clear eC dM;unfold pU;exact zE
 rw[if_pos g2]at hM;obtain⟨o1,o2,o3,o4,o5,o6,o7,o8,o9,Pg,o11⟩:=eC g2;subst g2;clear eC;by_cases g3:n=an
 case neg=>
  rw[if_neg g3]at hM;subst hM;obtain⟨g,gx⟩:=I3 g3;clear dM g3;unfold pU;exact zE
 rw[if_pos g3]at hM;by_cases g4:p=ap
 case neg=>
  rw[if_neg (fun h=>g4 h.1)]at hM
  subst hM g3;obtain⟨d1,wQ⟩:=jJ n;have g:vJ prog 127 (.agg [zV n,zV p,zV s]) (.agg [zV n,zV ap,zV az])=some false:=(Bi [n,p,s] [n,ap,az] rfl rfl).trans (by rw[decide_eq_false (fun h=>g4 (by injection h with _ h;injection h))])
  clear dM g4;unfold pU;exact zE
 by_cases g5:s=az
 case neg=>
  rw[if_neg (fun h=>g5 h.2)]at hM
  subst hM g3 g4;obtain⟨d1,wQ⟩:=jJ n;have g:vJ prog 127 (.agg [zV n,zV p,zV s]) (.agg [zV n,zV p,zV az])=some false:=(Bi [n,p,s] [n,p,az] rfl rfl).trans (by rw[decide_eq_false (fun h=>g5 (by injection h with _ h;injection h with _ h;injection h))])
  clear dM g5;unfold pU;exact zE
 rw[if_pos ⟨g4,g5⟩]at hM;subst g3 g4 g5;obtain⟨d1,wQ⟩:=jJ n;obtain⟨i,rfl⟩:=xD o3;rw[sY]at hM;subst p2;have Ph:i<ah.length:=oM
 have vM:i<mA.length:=oM
 have c3:=aB5 (ah.getD i []) l (dM _ (eB [] Ph)).2 Pg;have xN:=F8 ah;have oB:=xN i Ph
 replace xN:=bC.mk xN
 have VE:(aB eH mA)[i]? =some [bV (mA.getD i false)]:=F7 mA i vM;have w1:∀k:Nat,k<ah.length->PC 179 [.snap (aB aO (ah.getD k []))] (.snap (aB aO (ah.getD k []))):=fun k hk=>HC _ (by have:=(dM _ (eB [] hk)).1;omega)
 clear dM Pg
 replace w1:=bC.mk w1
 have d4:vJ prog 127 (.agg [zV n,zV ah.length,zV s]) (.agg [zV n,zV ah.length,zV s])=some true:=(Bi [n,ah.length,s] [n,ah.length,s] rfl rfl).trans (by simp)
 generalize mA.getD i false=sb at*;have c4:=aC0 mA (fun h=>by rw[h]at vM;simp at vM) oM
 have m0:=aC8 ah;have PM:(aB eH mA).set i [bV true]=aB eH (mA.set i true):=KO (f:=eH) mA i true;have pW:(aB bY ah).set i [.snap (aB aO l)]=aB bY (ah.set i l):=KO (f:=bY) ah i l;cases sb with
 |true=>
  by_cases g6:ah.getD i []=l
  case neg=>
   rw[if_pos ⟨rfl,g6⟩]at hM;subst hM;rw[decide_eq_false g6]at c3;unfold pU;clear w1;exact zE
  rw[if_neg (fun h=>h.2 g6)]at hM
  subst hM;rw[decide_eq_true g6]at c3;clear g6;refine aE ?_;refine dC (α:=Unit) ah.length (fun k _=> [(81,true,zV k),(80,true,zV ah.length),(79,true,.snap (aB bY ah)),(10,true,.ptr 4 0 0),(8,true,.snap (aB aO l)),(7,true,.ptr 2 0 0),(4,true,.ptr 1 0 0)]) (fun k _=> [(1,some (.cells 216 5 [[zV 0,zV 0,zV 0,.c (.slice none 0 0),.c (.slice none 0 0)]] true false)),(2,some (.cells 132 4 [[zV n,zV ah.length,zV s,zV i]] true false)),(4,some (.cells 216 5 [[zV n,zV ah.length,zV s,.own 11 0 ah.length,.own 8 0 mA.length]] true false)),(8,some (.cells 4 1 (aB eH mA) true true)),(11,some (.cells 77 1 (xV ah k) true true))]) (fun k m _=>12<=m) ⟨100,(),oM,aG⟩ (fun k m _ hk hm=> ?_) (fun m _ hm=> ?_)
  ·have bO:=xN.out k hk
   have c5:=w1.out k hk;have m1:=Pe hk;have m2:=Pf hk;have m3:=Pd (h:=ah) (k:=k) oM
   generalize ah.getD k []=x at*;clear xN w1 pW PM oB VE m0 c4;refine aE ?_;exact⟨m+40,(),oM,aG⟩
  ·rw[Pc]
   have AG:(aB bY ah).length=ah.length:=fK ah;have dG:(aB eH mA).length=mA.length:=fK mA;have t1:(ah.set i l).take ah.length=ah.set i l:=cN (by simp)
   have t2:(mA.set i true).take mA.length=mA.set i true:=cN (by simp)
   have n1:(∀row,row∈aB bY (ah.set i l)->∀x,x∈row->bF x)=True:=eq_true (oN _);have n2:(∀row,row∈aB eH (mA.set i true)->∀x,x∈row->bF x)=True:=eq_true (oN _);have x1:=fun G k=>Be G k (ah.set i l)
   have x2:=fun G k=>ZU G k (mA.set i true)
   clear xN w1 m0 c4;refine aE ?_;exact dS
 |false=>
  rw[if_neg (fun h=>absurd h.1 dE)]at hM
  subst hM;clear c3;refine aE ?_;refine dC (α:=Unit) ah.length (fun k _=> [(81,true,zV k),(80,true,zV ah.length),(79,true,.snap (aB bY ah)),(10,true,.ptr 4 0 0),(8,true,.snap (aB aO l)),(7,true,.ptr 2 0 0),(4,true,.ptr 1 0 0)]) (fun k _=> [(1,some (.cells 216 5 [[zV 0,zV 0,zV 0,.c (.slice none 0 0),.c (.slice none 0 0)]] true false)),(2,some (.cells 132 4 [[zV n,zV ah.length,zV s,zV i]] true false)),(4,some (.cells 216 5 [[zV n,zV ah.length,zV s,.own 11 0 ah.length,.own 8 0 mA.length]] true false)),(8,some (.cells 4 1 (aB eH mA) true true)),(11,some (.cells 77 1 (xV ah k) true true))]) (fun k m _=>12<=m) ⟨100,(),oM,aG⟩ (fun k m _ hk hm=> ?_) (fun m _ hm=> ?_)
  ·have bO:=xN.out k hk
   have c5:=w1.out k hk;have m1:=Pe hk;have m2:=Pf hk;have m3:=Pd (h:=ah) (k:=k) oM
   generalize ah.getD k []=x at*;clear xN w1 pW PM oB VE m0 c4;refine aE ?_;exact⟨m+40,(),oM,aG⟩
  ·rw[Pc]
   have AG:(aB bY ah).length=ah.length:=fK ah;have dG:(aB eH mA).length=mA.length:=fK mA;have t1:(ah.set i l).take ah.length=ah.set i l:=cN (by simp)
   have t2:(mA.set i true).take mA.length=mA.set i true:=cN (by simp)
   have n1:(∀row,row∈aB bY (ah.set i l)->∀x,x∈row->bF x)=True:=eq_true (oN _);have n2:(∀row,row∈aB eH (mA.set i true)->∀x,x∈row->bF x)=True:=eq_true (oN _);have x1:=fun G k=>Be G k (ah.set i l)
   have x2:=fun G k=>ZU G k (mA.set i true)
   clear xN w1 m0 c4;refine aE ?_;exact dS
end Go.Proofs.YtpaomccedbjknaaGreatDoor
