/- Staging. No condition. -/
import Derived.Test.YtioafciifiggaaaGreatDoorL0
import Derived.Test.YtioafciifiggaaaGreatDoorAv
set_option linter.all false
namespace Go.Proofs.YtioafciifiggaaaGreatDoor
open Go.Proofs Go.AL
set_option maxRecDepth 100000
set_option maxHeartbeats 4000000
attribute [local irreducible] cB AW aX cZ dK hold
attribute [local irreducible] eV
@[go_sem] theorem au0:∀(l:List Int),FR (aA aH l)=some l
  |[]=>rfl
  |x::l=>by
   have h:=au0 l;simp only[aA,jW,aH,FR,Bv]at h⊢;rw[h]
theorem Oa(bs:ByteArray):∀(n i:Nat) (r:List UInt8),bs.size-i=n->ByteArray.toList.loop bs i r=r.reverse++bs.data.toList.drop i
 |0,i,r,h=>by
  rw[ByteArray.toList.loop,if_neg (by omega),EU (by rw[Ja];exact(by omega:bs.size<=i)),rO]
 |n+1,i,r,h=>by
  have hi:i<bs.size:=by omega
  have Bw:i<bs.data.toList.length:=by rw[Ja];exact hi
  rw[ByteArray.toList.loop,if_pos hi,Oa bs n (i+1) _ (by omega),List.reverse_cons,kA,P8,YW Bw]
  congr 2;have:bs.get! i=bs.data[i]! :=rfl;rw[this,getElem!_pos bs.data i hi,Array.getElem_toList]
theorem Ob(l:List Int):(IA l).toList=l.map (fun n=>UInt8.ofNat n.toNat):=by
 have h1:∀bs:ByteArray,bs.toList=bs.data.toList:=fun bs=>by
  rw[ByteArray.toList,Oa bs _ 0 [] rfl];rfl
 have h2:∀(l:List Int) (r:ByteArray),(l.foldl (fun r n=>r.push (UInt8.ofNat n.toNat)) r).data.toList=r.data.toList++l.map (fun n=>UInt8.ofNat n.toNat):=by
  intro l
  induction l with
  |nil=>intro r;simp
  |cons x l ih=>intro r;rw[HC,ih];simp[ByteArray.push]
 rw[h1,IA,h2];rfl
theorem str_inj:∀{a b:List Int},(∀x∈a,aV x)->(∀x∈b,aV x)->a.map (fun n=>UInt8.ofNat n.toNat)=b.map (fun n=>UInt8.ofNat n.toNat)->a=b
 |[],[],_,_,_=>rfl
 |[],_::_,_,_,h=>by simp at h
 |_::_,[],_,_,h=>by simp at h
 |x::a,y::b,ha,hb,h=>by
  simp only[jW,PG]at h;have h1:aV x:=ha x (by simp)
  have h2:aV y:=hb y (by simp)
  unfold aV at h1 h2;have h3:=congrArg UInt8.toNat h.1;rw[UInt8.toNat_ofNat',UInt8.toNat_ofNat',D3 (by omega),D3 (by omega)]at h3
  rw[show x=y by omega,str_inj (fun z hz=>ha z (by simp[hz])) (fun z hz=>hb z (by simp[hz])) h.2]
theorem VY{a b:List Int}(ha:∀x∈a,aV x)(hb:∀x∈b,aV x):((IA a).toList==(IA b).toList)=decide (a=b):=by
 rw[Ob,Ob];by_cases h:a=b
 ·subst h;simp
 ·rw[decide_eq_false h,beq_eq_false_iff_ne]
  exact fun h2=>h (str_inj ha hb h2)
theorem au1(a b:List Int)(ha:∀x∈a,aV x)(hb:∀x∈b,aV x):PC 152 [.snap (aA aH a),.snap (aA aH b)] (bV (decide (a=b))):=by
 refine aT Tryz.func152 Tryz.ntmps152 (.c _) ?_;have h:=VY ha hb;clear ha hb;generalize decide (a=b)=d at*;refine aD ?_;exact aB
theorem au2(a b:List Int)(ha:∀x∈a,aV x)(hb:∀x∈b,aV x):PC 155 [.snap (aA aH a),.snap (aA aH b)] (bV (decide (a=b))):=by
 refine aT Tryz.func155 Tryz.ntmps155 (.c _) ?_;have h:=VY ha hb;clear ha hb;generalize decide (a=b)=d at*;refine aD ?_;exact aB
theorem VZ{α:Type}(d:α){a b:List α}(hl:a.length=b.length)(h:∀i,i<a.length->a.getD i d=b.getD i d):a=b:=by
 refine List.ext_getElem hl fun i h1 h2=> ?_
 have:=h i h1;simpa[h1,h2]using this
theorem au3(a b:List Bool)(ha:a.length<=100000)(hb:b.length<=100000):PC 153 [.snap (aA cM a),.snap (aA cM b)] (bV (decide (a=b))):=by
 refine aT Tryz.func153 Tryz.ntmps153 (.c _) ?_;have ga:=AB a;have gb:=AB b;obtain⟨M,hM⟩:∃M,decide (a=b)=M:=⟨_,rfl⟩;rw[hM];by_cases g1:a.length=b.length
 case neg=>
  have:¬a=b:=fun h=>g1 (by rw[h])
  rw[decide_eq_false this]at hM;subst hM;have DF:((a.length:Int) !=(b.length:Int))=true:=bne_iff_ne.2 (by omega)
  clear this g1 ga gb;refine aD ?_;exact aB
 have DF:((a.length:Int) !=(b.length:Int))=false:=by simp[g1]
 refine aD ?_;refine dP (α:=Unit) a.length (fun k _=> [(13,true,zV k),(12,true,zV a.length),(1,true,.snap (aA cM b)),(0,true,.snap (aA cM a))]) (fun _ _=> []) (fun k m _=>∀i,i<k->a.getD i false=b.getD i false) ⟨100,(),(fun i hi=>absurd hi (by omega)),aN⟩ (fun k m _ hk hR=> ?_) (fun m _ hR=> ?_)
 ·have IB:(aA cM a)[k]? =some [bV (a.getD k false)]:=ga k hk
  have IC:(aA cM b)[k]? =some [bV (b.getD k false)]:=gb k (by omega)
  clear ga gb;obtain⟨x,hx⟩:∃x,a.getD k false=x:=⟨_,rfl⟩;obtain⟨y,hy⟩:∃y,b.getD k false=y:=⟨_,rfl⟩;rw[hx]at IB;rw[hy]at IC;have LY:k<b.length:=by omega
  by_cases g:x=y
  ·have bK:aU (∀i,i<k+1->a.getD i false=b.getD i false):=⟨fun i hi=>by
    rcases lU i k with h1|h1
    ·exact hR i h1
    ·rw[show i=k by omega,hx,hy];exact g⟩
   have hd:(x==y)=true:=by simpa using g
   clear hR hx hy g hM;refine aD ?_;exact⟨m+20,(),bK.out,aN⟩
  ·have:¬a=b:=fun h=>g (by rw[<-hx,<-hy,h])
   rw[decide_eq_false this]at hM;subst hM;have hd:(x==y)=false:=by simpa using g
   clear hR hx hy g this;refine aD ?_;exact aB
 ·have h1:a=b:=VZ false g1 hR
  rw[decide_eq_true h1]at hM;subst hM;clear hR h1;refine aD ?_;exact aB
theorem au4(a b:List (List Int))(ha:a.length<=100000)(hb:b.length<=100000)(h1:∀x∈a,∀y∈x,aV y)(h2:∀x∈b,∀y∈x,aV y):PC 154 [.snap (aA bW a),.snap (aA bW b),.fn (.func 155) [] []] (bV (decide (a=b))):=by
 refine aT Tryz.func154 Tryz.ntmps154 (.c _) ?_;have ga:=FH a;have gb:=FH b;obtain⟨M,hM⟩:∃M,decide (a=b)=M:=⟨_,rfl⟩;rw[hM];by_cases g1:a.length=b.length
 case neg=>
  have:¬a=b:=fun h=>g1 (by rw[h])
  rw[decide_eq_false this]at hM;subst hM;have DF:((a.length:Int) !=(b.length:Int))=true:=bne_iff_ne.2 (by omega)
  clear this g1 ga gb h1 h2;refine aD ?_;exact aB
 replace h1:=aU.mk h1
 replace h2:=aU.mk h2
 have DF:((a.length:Int) !=(b.length:Int))=false:=by simp[g1]
 refine aD ?_;refine dP (α:=Unit) a.length (fun k _=> [(17,true,zV k),(16,true,zV a.length),(15,true,.snap (aA bW a)),(2,true,.fn (.func 155) [] []),(1,true,.snap (aA bW b)),(0,true,.snap (aA bW a))]) (fun _ _=> []) (fun k m _=>∀i,i<k->a.getD i []=b.getD i []) ⟨100,(),(fun i hi=>absurd hi (by omega)),aN⟩ (fun k m _ hk hR=> ?_) (fun m _ hR=> ?_)
 ·have IB:=ga k hk
  have IC:=gb k (by omega)
  have c1:=au2 (a.getD k []) (b.getD k []) (h1.out _ (dC [] hk)) (h2.out _ (dC [] (by omega)))
  clear ga gb;obtain⟨x,hx⟩:∃x,a.getD k []=x:=⟨_,rfl⟩;obtain⟨y,hy⟩:∃y,b.getD k []=y:=⟨_,rfl⟩;rw[hx]at IB c1;rw[hy]at IC c1;have LY:k<b.length:=by omega
  by_cases g:x=y
  ·have bK:aU (∀i,i<k+1->a.getD i []=b.getD i []):=⟨fun i hi=>by
    rcases lU i k with h1|h1
    ·exact hR i h1
    ·rw[show i=k by omega,hx,hy];exact g⟩
   rw[decide_eq_true g]at c1;clear hR hx hy g hM;refine aD ?_;exact⟨m+20,(),bK.out,aN⟩
  ·have:¬a=b:=fun h=>g (by rw[<-hx,<-hy,h])
   rw[decide_eq_false this]at hM;subst hM;rw[decide_eq_false g]at c1;clear hR hx hy g this;refine aD ?_;exact aB
 ·have h1:a=b:=VZ [] g1 hR
  rw[decide_eq_true h1]at hM;subst hM;clear hR h1;refine aD ?_;exact aB
theorem au5(a:Option Addr)(cap:Nat):PC 150 [.c (.slice a 0 cap)] (.snap (aA cM [])):=by
 refine aT Tryz.func150 Tryz.ntmps150 (iJ _) ?_;cases a with
 |none=>
  refine aD ?_;simp only[D6];exact aB
 |some a=>
  refine aD ?_;simp only[D6];exact aB
theorem au6(l:List Bool)(hl:l.length<=1000000):PC 150 [.snap (aA cM l)] (.snap (aA cM l)):=by
 by_cases h:l=[]
 ·subst h
  exact fD.nil (pre:=[]) (post:=[]) au5
 ·refine aT Tryz.func150 Tryz.ntmps150 (iJ l) ?_
  have h1:=rS h;refine aD ?_;exact aB
theorem au7(l:List Bool)(h:l≠[])(hl:l.length<=1000000):rR Tryz.prog 150 [.snap (aA cM l)] 4 1 (aA cM l):=by
 refine L3 Tryz.func150 Tryz.ntmps150 (by simp only[go_sem]) (mN l) ?_
 have h1:=rS h;refine aD ?_;exact⟨1,by simp only[go_sem],by simp only[go_sem]⟩
theorem au8(l:List bI)(h:l≠[])(hl:l.length<=1000000):rR Tryz.prog 199 [.snap (aA cG l)] 64 7 (aA cG l):=by
 refine L3 Tryz.func199 Tryz.ntmps199 (by simp only[go_sem]) (mN l) ?_
 have h1:=rS h;refine aD ?_;exact⟨1,by simp only[go_sem],by simp only[go_sem]⟩
theorem QT(G:Nat->Option aI)(k:Nat)(l:List (List Int)):(aA bW l).map (fun row=>row.map (cT G k))=aA bW l:=by
 unfold aA;rw[P9];refine sL fun o _=> ?_
 cases k<;>simp[bW,cT]
theorem ID(a:mO)(r:List Int)(c:Bool)(ha:a.cI.length<=100000)(hs:a.seen.length<=100000)(hp:∀x∈a.cI,x.length<=100000)(hr:r.length<=200000):PC 73 [.agg (eL a),.snap (aA bA r),bV c] (.agg (cG (jT a r c))):=by
 refine uH Tryz.func73 Tryz.ntmps73 (by rw[iP];simp only[go_sem]) ?_
 have c1:=au6 a.seen (by omega)
 have c2:=Jo r (by omega)
 have hg:=FH a.cI
 replace hp:=aU.mk hp
 obtain⟨n,p,s,h,e⟩:=a;rw[iP];unfold jT eL at*;simp only[]at*;refine aE ?_;refine dP (α:=Nat) h.length (fun k id=> [(26,true,zV k),(25,true,zV h.length),(24,true,.snap (aA bW h)),(7,true,.ptr 15 0 0),(6,true,.ptr 1 0 0),(3,true,.ptr 0 0 0)]) (fun k id=>(0,some (.cells 161 5 [[zV n,zV p,zV s,.snap (aA bW h),.snap (aA cM e)]] true false))::(1,some (.cells 64 7 [[zV 0,zV 0,zV 0,.c (.slice none 0 0),.c (.slice none 0 0),.c (.slice none 0 0),bV false]] true false))::(15,some (.cells 64 7 [[zV n,zV p,zV s,nG k id,.snap (aA cM e),.snap (aA bA r),bV c]] true false))::oB 74 1 (aA bW (h.take k)) k id) (fun k m id=>16<=m/\(0<k->16<=id/\id<m)) ⟨100,0,⟨by omega,fun h=>absurd h (by omega)⟩,aN⟩ (fun k m id hk hR=> ?_) (fun m id hR=> ?_)
 ·obtain⟨hm,hR⟩:=hR
  have cV:=hg k hk;have PY:(h.getD k []).length<=100000:=hp.out _ (dC [] hk);have c3:=yT (h.getD k []) (by omega)
  have iD:=vZ [] hk;have fW:aA bW (h.take k)++[[.snap (aA aH (h.getD k []))]]=aA bW (h.take k++[h.getD k []]):=nR (h.take k) (h.getD k []);have IE:(h.take k).length=k:=by rw[eD];omega
  rw[iD];clear iD hg hp PY c1 c2 hs hr;generalize h.getD k []=x at*;generalize h.take k=F at*;have eM:aA bW ([]++[x])=[[.snap (aA aH x)]]:=rfl;cases k with
  |zero=>
   have gJ:F=[]:=fI IE;subst gJ;clear hR IE fW;refine aE ?_;exact⟨m+40,m+5,⟨by omega,fun _=>by omega⟩,aN⟩
  |succ q=>
   obtain⟨i1,i2⟩:=hR (by omega)
   clear hR eM;refine aE ?_;exact⟨m+40,m+5,⟨by omega,fun _=>by omega⟩,aN⟩
 ·obtain⟨hm,hR⟩:=hR
  rw[l4];clear hg hp c1 c2 ha hs hr;cases hh:h.length with
  |zero=>
   have Bx:h=[]:=fI hh;subst Bx;clear hR hh;refine aE ?_;exact nE
  |succ q=>
   obtain⟨i1,i2⟩:=hR (by omega)
   have hex:=fun G k=>QT G k h
   have iD:h.take (q+1)=h:=cR (by omega)
   have gG:(∀row,row∈aA bW h->∀x,x∈row->bJ x)=True:=eq_true (mN h);clear hR;refine aE ?_;exact nE
theorem W4(x:Int):IntKind.u8.wrap x=x % 256:=by
 simp[IntKind.wrap,IntKind.bits,IntKind.signed]
theorem Oc(n:Int):n.fdiv (2 ^ min 8 64)=n/256:=by
 have:(2:Int) ^ min 8 64=256:=by decide
 rw[this,Yd _ (by decide)]
theorem au9(n:Int)(h0:0<=n)(h1:n<=4294967295):PC 239 [zV n,zV 2] (.snap (aA aH (qH n 2))):=by
 refine aT Tryz.func239 Tryz.ntmps239 (iJ _) ?_;have hr:aA aH (qH n 2)=[[uV (n % 256)],[uV (n/256 % 256)]]:=rfl;rw[hr];have hd:=Oc;have hu:=W4;refine aE ?_;refine eP 3 ?_;refine eQ ?_;refine aE ?_;exact aB
theorem Od(n:Int)(h0:0<=n)(h1:n<=4294967295):PC 239 [zV n,zV 4] (.snap (aA aH (qH n 4))):=by
 refine aT Tryz.func239 Tryz.ntmps239 (iJ _) ?_;have hr:aA aH (qH n 4)=[[uV (n % 256)],[uV (n/256 % 256)],[uV (n/256/256 % 256)],[uV (n/256/256/256 % 256)]]:=rfl;rw[hr];have hd:=Oc;have hu:=W4;refine aE ?_;refine eP 5 ?_;refine eQ ?_;refine aE ?_;exact aB
theorem xS{x y:Int}(h:¬x=y):(x==y)=false/\(x !=y)=true:=⟨beq_eq_false_iff_ne.2 h,bne_iff_ne.2 h⟩
theorem gD(x:Int):(x==x)=true/\(x !=x)=false:=by simp
theorem Oe{x y:Nat}(h:¬x=y):((x:Int)==(y:Int))=false/\((x:Int) !=(y:Int))=true:=⟨beq_eq_false_iff_ne.2 (by omega),bne_iff_ne.2 (by omega)⟩
theorem By{x y:Nat}(h:x=y):((x:Int)==(y:Int))=true/\((x:Int) !=(y:Int))=false:=by simp[h]
theorem Of(a b:mO)(ha:a.cI.length<=100000)(hb:b.cI.length<=100000)(sa:a.seen.length<=100000)(sb:b.seen.length<=100000)(h1:∀x∈a.cI,∀y∈x,aV y)(h2:∀x∈b.cI,∀y∈x,aV y):PC 76 [.agg (eL a),.agg (eL b)] (bV (decide (a=b))):=by
 refine aT Tryz.func76 Tryz.ntmps76 (.c _) ?_;have c1:=au3 a.seen b.seen sa sb;have c2:=au4 a.cI b.cI ha hb h1 h2;clear h1 h2 ha hb sa sb;obtain⟨M,hM⟩:∃M,decide (a=b)=M:=⟨_,rfl⟩;rw[hM];obtain⟨an,ap,az,ah,ae⟩:=a;obtain⟨bn,bp,bs,bh,be⟩:=b;unfold eL;simp only[]at*;by_cases g1:an=bn
 case neg=>
  rw[decide_eq_false (fun h=>g1 (by injection h))]at hM
  subst hM;obtain⟨g,gx⟩:=xS g1;clear g1 c1 c2;refine aE ?_;exact aB
 by_cases g2:ap=bp
 case neg=>
  rw[decide_eq_false (fun h=>g2 (by injection h))]at hM
  subst hM;obtain⟨g,gx⟩:=xS g2;subst g1;obtain⟨d1,r8⟩:=gD an;clear g2 c1 c2;refine aE ?_;exact aB
 by_cases g3:az=bs
 case neg=>
  rw[decide_eq_false (fun h=>g3 (by injection h))]at hM
  subst hM;obtain⟨g,gx⟩:=xS g3;subst g1 g2;obtain⟨d1,r8⟩:=gD an;obtain⟨d2,wG⟩:=gD ap;clear g3 c1 c2;refine aE ?_;exact aB
 by_cases g4:ae=be
 case neg=>
  rw[decide_eq_false (fun h=>g4 (by injection h))]at hM
  subst hM;rw[decide_eq_false g4]at c1;subst g1 g2 g3;obtain⟨d1,r8⟩:=gD an;obtain⟨d2,wG⟩:=gD ap;obtain⟨d3,FT⟩:=gD az;clear g4 c2;refine aE ?_;exact aB
 by_cases g5:ah=bh
 case neg=>
  rw[decide_eq_false (fun h=>g5 (by injection h))]at hM
  subst hM;rw[decide_eq_true g4]at c1;rw[decide_eq_false g5]at c2;subst g1 g2 g3;obtain⟨d1,r8⟩:=gD an;obtain⟨d2,wG⟩:=gD ap;obtain⟨d3,FT⟩:=gD az;clear g4 g5;refine aE ?_;exact aB
 ·rw[decide_eq_true g4]at c1
  rw[decide_eq_true g5]at c2;subst g1 g2 g3 g4 g5;rw[decide_eq_true rfl]at hM;subst hM;obtain⟨d1,r8⟩:=gD an;obtain⟨d2,wG⟩:=gD ap;obtain⟨d3,FT⟩:=gD az;refine aE ?_;exact aB
theorem Og(a b:mO)(ha:a.cI.length<=100000)(hb:b.cI.length<=100000)(sa:a.seen.length<=100000)(sb:b.seen.length<=100000)(h1:∀x∈a.cI,∀y∈x,aV y)(h2:∀x∈b.cI,∀y∈x,aV y):PC 100 [.agg (eL a),.agg (eL b)] (bV (decide (a=b))):=by
 refine aT Tryz.func100 Tryz.ntmps100 (.c _) ?_;obtain⟨M,hM⟩:∃M,decide (a=b)=M:=⟨_,rfl⟩;rw[hM];obtain⟨an,ap,az,ah,ae⟩:=a;obtain⟨bn,bp,bs,bh,be⟩:=b;unfold eL;simp only[]at*;by_cases g1:an=bn
 case neg=>
  rw[decide_eq_false (fun h=>g1 (by injection h))]at hM
  subst hM;obtain⟨g,gx⟩:=xS g1;clear g1 h1 h2;refine aE ?_;exact aB
 by_cases g2:ap=bp
 case neg=>
  rw[decide_eq_false (fun h=>g2 (by injection h))]at hM
  subst hM;obtain⟨g,gx⟩:=xS g2;subst g1;obtain⟨d1,r8⟩:=gD an;clear g2 h1 h2;refine aE ?_;exact aB
 by_cases g3:az=bs
 case neg=>
  rw[decide_eq_false (fun h=>g3 (by injection h))]at hM
  subst hM;obtain⟨g,gx⟩:=xS g3;subst g1 g2;obtain⟨d1,r8⟩:=gD an;obtain⟨d2,wG⟩:=gD ap;clear g3 h1 h2;refine aE ?_;exact aB
 by_cases g4:ah.length=bh.length
 case neg=>
  rw[decide_eq_false (fun h=>g4 (by injection h with _ _ _ h _;rw[h]))]at hM
  subst hM;obtain⟨g,gx⟩:=Oe g4;subst g1 g2 g3;obtain⟨d1,r8⟩:=gD an;obtain⟨d2,wG⟩:=gD ap;obtain⟨d3,FT⟩:=gD az;clear g4 h1 h2;refine aE ?_;exact aB
 by_cases g5:ae.length=be.length
 case neg=>
  rw[decide_eq_false (fun h=>g5 (by injection h with _ _ _ _ h;rw[h]))]at hM
  subst hM;obtain⟨g,gx⟩:=Oe g5;subst g1 g2 g3;obtain⟨d1,r8⟩:=gD an;obtain⟨d2,wG⟩:=gD ap;obtain⟨d3,FT⟩:=gD az;obtain⟨d4,Oh⟩:=By g4;clear g5 h1 h2;refine aE ?_;exact aB
 have fS:decide (ah=bh/\ae=be)=M:=by
  rw[<-hM];exact decide_eq_decide.2 ⟨fun h=>by rw[g1,g2,g3,h.1,h.2],fun h=>by injection h with _ _ _ h1 h2;exact⟨h1,h2⟩⟩
 clear hM;subst g1 g2 g3;obtain⟨d1,r8⟩:=gD an;obtain⟨d2,wG⟩:=gD ap;obtain⟨d3,FT⟩:=gD az;obtain⟨d4,Oh⟩:=By g4;obtain⟨d5,Bz⟩:=By g5
 replace h1:=aU.mk h1
 replace h2:=aU.mk h2
 have ga:=FH ah;have gb:=FH bh;have ua:=AB ae;have ub:=AB be;refine aE ?_;refine dP (α:=Unit) ah.length (fun k _=> [(5,true,zV k),(3,true,.ptr 1 0 0),(2,true,.ptr 0 0 0)]) (fun _ _=> [(0,some (.cells 161 5 [[zV an,zV ap,zV az,.snap (aA bW ah),.snap (aA cM ae)]] true false)),(1,some (.cells 161 5 [[zV an,zV ap,zV az,.snap (aA bW bh),.snap (aA cM be)]] true false))]) (fun k m _=>2<=m/\∀i,i<k->ah.getD i []=bh.getD i []) ⟨100,(),⟨by omega,fun i hi=>absurd hi (by omega)⟩,aN⟩ (fun k m _ hk hR=> ?_) (fun m _ hR=> ?_)
 ·obtain⟨hm,hR⟩:=hR
  have IB:=ga k hk;have IC:=gb k (by omega)
  have he:=VY (h1.out _ (dC [] hk)) (h2.out _ (dC [] (by omega:k<bh.length)))
  clear ga gb ua ub;obtain⟨x,hx⟩:∃x,ah.getD k []=x:=⟨_,rfl⟩;obtain⟨y,hy⟩:∃y,bh.getD k []=y:=⟨_,rfl⟩;rw[hx]at IB he;rw[hy]at IC he;have LY:k<bh.length:=by omega
  by_cases g:x=y
  ·have bK:aU (∀i,i<k+1->ah.getD i []=bh.getD i []):=⟨fun i hi=>by
    rcases lU i k with h1|h1
    ·exact hR i h1
    ·rw[show i=k by omega,hx,hy];exact g⟩
   rw[decide_eq_true g]at he;clear hR hx hy g fS;refine aE ?_;exact⟨m+20,(),⟨by omega,bK.out⟩,aN⟩
  ·rw[decide_eq_false (fun h=>g (by rw[<-hx,<-hy,h.1]))]at fS
   subst fS;rw[decide_eq_false g]at he;clear hR hx hy g;refine aE ?_;exact aB
 obtain⟨hm,hR⟩:=hR;have e1:ah=bh:=VZ [] g4 hR
 have QU:decide (ae=be)=M:=by
  rw[<-fS];exact decide_eq_decide.2 ⟨fun h=>⟨e1,h⟩,fun h=>h.2⟩
 clear fS hR e1 ga gb;refine aE ?_;refine dP (α:=Unit) ae.length (fun k _=> [(6,true,zV k),(3,true,.ptr 1 0 0),(2,true,.ptr 0 0 0)]) (fun _ _=> [(0,some (.cells 161 5 [[zV an,zV ap,zV az,.snap (aA bW ah),.snap (aA cM ae)]] true false)),(1,some (.cells 161 5 [[zV an,zV ap,zV az,.snap (aA bW bh),.snap (aA cM be)]] true false))]) (fun k m _=>2<=m/\∀i,i<k->ae.getD i false=be.getD i false) ⟨m+100,(),⟨by omega,fun i hi=>absurd hi (by omega)⟩,aN⟩ (fun k m _ hk hR=> ?_) (fun m _ hR=> ?_)
 ·obtain⟨hm,hR⟩:=hR
  have IB:(aA cM ae)[k]? =some [bV (ae.getD k false)]:=ua k hk;have IC:(aA cM be)[k]? =some [bV (be.getD k false)]:=ub k (by omega)
  clear ua ub;obtain⟨x,hx⟩:∃x,ae.getD k false=x:=⟨_,rfl⟩;obtain⟨y,hy⟩:∃y,be.getD k false=y:=⟨_,rfl⟩;rw[hx]at IB;rw[hy]at IC;have LY:k<be.length:=by omega
  by_cases g:x=y
  ·have bK:aU (∀i,i<k+1->ae.getD i false=be.getD i false):=⟨fun i hi=>by
    rcases lU i k with h1|h1
    ·exact hR i h1
    ·rw[show i=k by omega,hx,hy];exact g⟩
   have hd:(x==y)=true:=by simpa using g
   clear hR hx hy g QU;refine aE ?_;exact⟨m+20,(),⟨by omega,bK.out⟩,aN⟩
  ·rw[decide_eq_false (fun h=>g (by rw[<-hx,<-hy,h]))]at QU
   subst QU;have hd:(x==y)=false:=by simpa using g
   clear hR hx hy g;refine aE ?_;exact aB
 obtain⟨hm,hR⟩:=hR;rw[decide_eq_true (VZ false g5 hR)]at QU;subst QU;clear hR ua ub;refine aE ?_;exact aB
end Go.Proofs.YtioafciifiggaaaGreatDoor
