/- Staging. No condition. -/
import Derived.Test.YtioafciifiggaaaGreatDoorL0
import Derived.Test.YtioafciifiggaaaGreatDoorAo
import Derived.Test.YtioafciifiggaaaGreatDoorAp
set_option linter.all false
namespace Go.Proofs.YtioafciifiggaaaGreatDoor
open Go.Proofs Go.AL
set_option maxRecDepth 100000
set_option maxHeartbeats 1000000
attribute [local irreducible] cB AW aX cZ dK hold
attribute [local irreducible] eV
structure I0(a:mO):Prop where
 cI:a.cI.length<=100000
 seen:a.seen.length<=100000
 one:∀x∈a.cI,x.length<=100000/\∀y∈x,aV y
 all:jJ a.cI<=100000
theorem QD{a:mO}(h:¬qZ a=0):qZ a=3:=by
 unfold qZ at h⊢;split
 ·rfl
 ·split
  ·rename_i h1 h2
   rw[if_neg h1,if_pos h2]at h;exact absurd rfl h
  ·rfl
theorem Ay{a:mO}(h:qZ a=0):1<=a.number/\a.number<=1073741824/\1<=a.parts/\a.parts<=65536/\0<=a.sum/\a.sum<=4294967295/\(a.cI.length:Int)=a.parts/\(a.seen.length:Int)=a.parts/\∀i,i<a.cI.length->FB a i=true:=by
 unfold qZ at h;split at h
 ·exact absurd h (by decide)
 rename_i h1;split at h
 ·rename_i h2
  have a7:(a.cI.length:Int)=a.parts:=HF.1 fun e=>h1 (.inr (.inr (.inr (.inr (.inr (.inr (.inl e)))))))
  have a8:(a.seen.length:Int)=a.parts:=HF.1 fun e=>h1 (.inr (.inr (.inr (.inr (.inr (.inr (.inr e)))))))
  exact⟨by omega,by omega,by omega,by omega,by omega,by omega,a7,a8,fun i hi=>gK.1 h2 i (by simpa using hi)⟩
 ·exact absurd h (by decide)
theorem Mj{h:List (List Int)}(hb:∀x∈h,∀y∈x,aV y):∀y∈h.flatten,aV y:=fun y hy=>by
 obtain⟨x,hx,hy⟩:=List.mem_flatten.1 hy;exact hb x hx y hy
theorem VE(a:mO)(hA:I0 a):PC 79 [.agg (eL a)] (.aR [.agg (gT (oA a).1),zV (oA a).2]):=by
 refine aT Tryz.func79 Tryz.ntmps79 (by simp only[go_sem,gT]) ?_
 have c1:=Aq a (by have:=hA.cI;omega) (by have:=hA.seen;omega) (fun x hx=>by have:=(hA.one x hx).1;omega)
 have c2:=ao0 a.seen (by have:=hA.seen;omega)
 have c3:=ao1 a.cI hA.cI (by have:=hA.all;omega)
 have CA:=Mj fun x hx=>(hA.one x hx).2
 have lY:=HX a.cI;have h0:=hA.all;have c4:=Q9 a.cI.flatten CA (by omega)
 have c5:=am3 a.cI.flatten CA (by omega)
 have qG:=HR a.cI.flatten;have h3:=QD (a:=a);have Ak:gT p9=[zV 0,zV 0,zV 0,.snap (aA bA []),.snap (aA bC [])]:=rfl;obtain⟨M,hM⟩:∃M,oA a=M:=⟨_,rfl⟩;rw[hM];unfold oA at hM;clear hA CA;obtain⟨n,p,s,h,e⟩:=a;unfold eL at*;simp only[]at*;generalize qZ ⟨n,p,s,h,e⟩=ae at*;by_cases g1:ae=0
 ·rw[if_pos g1]at hM
  subst g1;by_cases g2:e.all id=true
  ·rw[if_pos g2]at hM
   rw[g2]at c2;generalize h.flatten=F at*;by_cases g3:65536<F.length
   ·rw[if_pos g3]at hM
    subst hM;have uO:(65536:Int)<F.length:=by omega
    clear c4 c5 qG;refine aD ?_;exact aB
   ·rw[if_neg g3]at hM
    have uO:¬(65536:Int)<F.length:=by omega
    have w1:IntKind.i64.wrap (eO F)=eO F:=IntWalk.i64_in _ (by omega)
    by_cases g4:eO F=s
    ·rw[if_pos g4]at hM
     subst g4;generalize uM F=D at*;obtain⟨⟨cb,cn,ct,cp,cw⟩,de⟩:=D;unfold gT at c5;simp only[]at*;by_cases g5:de=0
     ·rw[if_pos g5]at hM
      subst g5;by_cases g6:cn=n
      ·rw[if_pos g6]at hM
       subst hM g6;unfold gT;refine aE ?_;exact aB
      ·rw[if_neg g6]at hM
       subst hM;refine aE ?_;exact aB
     ·rw[if_neg g5]at hM
      subst hM;refine aE ?_;exact aB
    ·rw[if_neg g4]at hM
     subst hM;clear c5;refine aE ?_;exact aB
  ·rw[if_neg g2]at hM
   subst hM;have CB:e.all id=false:=by simpa using g2
   rw[CB]at c2;clear c3 c4 c5;refine aD ?_;exact aB
 ·rw[if_neg g1]at hM
  subst hM;have h3:=h3 g1;subst h3;clear c2 c3 c4 c5;refine aD ?_;exact aB
end Go.Proofs.YtioafciifiggaaaGreatDoor
namespace Go.Proofs.YtioafciifiggaaaGreatDoor
open Go.Proofs Go.AL
set_option maxRecDepth 100000
set_option maxHeartbeats 1000000
attribute [local irreducible] cB AW aX cZ dK hold
structure bI where
 number:Int
 parts:Int
 sum:Int
 cI:List (List Int)
 seen:List Bool
 records:List Int
 closed:Bool
def bF(x:bI):mO:=⟨x.number,x.parts,x.sum,x.cI,x.seen⟩
def cG(x:bI):List AV:=[zV x.number,zV x.parts,zV x.sum,.snap (aA bW x.cI),.snap (aA cM x.seen),.snap (aA bA x.records),bV x.closed]
theorem iP(x:bI):cG x=[zV x.number,zV x.parts,zV x.sum,.snap (aA bW x.cI),.snap (aA cM x.seen),.snap (aA bA x.records),bV x.closed]:=rfl
def b8:bI:=⟨0,0,0,[],[],[],false⟩
instance :uF cG 7:=⟨fun _=>rfl,fun _=>rfl,fun x a ha=>by
 simp only[cG,fB,mR,or_false]at ha;rcases ha with rfl|rfl|rfl|rfl|rfl|rfl|rfl
 ·exact .c _
 ·exact .c _
 ·exact .c _
 ·exact iJ _
 ·exact iJ _
 ·exact iJ _
 ·exact .c _⟩
theorem uP(l:List bI)(k:Nat)(h:k<l.length):(aA cG l)[k]? =some (cG (l.getD k b8)):=pQ b8 h
structure l8 where
 j:Jr
 cN:List bI
def fO(s:l8):List AV:=[zV s.j.start,zV s.j.count,zV s.j.head,zV s.j.tail,zV s.j.first,.snap (aA bA s.j.cD),.snap (aA cG s.cN)]
def nI:l8:=⟨l7,[]⟩
def jN(j:Jr):Int:=if jE j=0 then j.first+j.cD.length else 0
def uQ(last next:Int):List Int->Bool
 |[]=>true
 |n::l=>if n<=last\/next<=n then false else uQ n next l
theorem VF(last next n:Int)(l:List Int):uQ last next (n::l)=if n<=last\/next<=n then false else uQ n next l:=rfl
def VG(x:bI):Nat:=(x.seen.filter id).length
def VH(x:bI):Nat:=if x.closed=true then VG x+1 else VG x
def uR(j:Jr)(x:bI):Bool:=
 if qZ (bF x)=0 then
  if VG x=0 then false
  else if x.closed=true/\(oA (bF x)).2≠0 then false
  else if uQ (j.first-1) (jN j) x.records=true then decide (x.records.length=VH x)else false
 else false
def uT(j:Jr):Option Int->List Int->List bI->Bool
 |_,_,[]=>true
 |p,own,x::l=>
  if uR j x=true then
   if(match p with|none=>false|some n=>decide (x.number<=n))=true then false
   else if x.records.any (fun n=>own.contains n)=true then false
   else uT j (some x.number) (own++x.records) l
  else false
theorem Mk(j:Jr)(p:Option Int)(own:List Int)(x:bI)(l:List bI):uT j p own (x::l)=if uR j x=true then
   if(match p with|none=>false|some n=>decide (x.number<=n))=true then false
   else if x.records.any (fun n=>own.contains n)=true then false
   else uT j (some x.number) (own++x.records) l
  else false:=rfl
def s7(s:l8):Int:=
 if jE s.j=0 then
  if 1024<s.cN.length then 6
  else if uT s.j none [] s.cN=true then 0 else 3
 else jE s.j
structure FI(x:bI):Prop where
 bF:I0 (bF x)
 records:x.records.length<=100000
structure xI(s:l8):Prop where
 cD:s.j.cD.length<=100000
 cN:s.cN.length<=100000
 one:∀x∈s.cN,FI x
theorem Ml:∀(l:List Int) (last next:Int),uQ last next l=true->∀n∈l,last<n/\n<next
 |[],_,_,_,n,hn=>by simp at hn
 |x::l,last,next,h,n,hn=>by
  rw[VF]at h;split at h
  ·exact absurd h (by decide)
  ·rename_i g
   rcases fB.1 hn with rfl|hn
   ·omega
   ·have:=Ml l x next h n hn
    omega
theorem Mm:∀(l:List Int) (last next:Int),uQ last next l=true->l.Nodup
 |[],_,_,_=>List.nodup_nil
 |x::l,last,next,h=>by
  rw[VF]at h;split at h
  ·exact absurd h (by decide)
  ·rename_i g
   refine Iy.2 ⟨fun hx=> ?_,Mm l x next h⟩
   have:=Ml l x next h x hx
   omega
theorem Mn(a:Int):PC 197 [zV a] (bV false):=by
 refine aT Tryz.func197 Tryz.ntmps197 (.c _) ?_;have h:(a !=a)=false:=by simp
 refine aD ?_;exact aB
def QE(a b:Int):Int:=if a<b then-1 else if b<a then 1 else 0
theorem ao7(a b:Int):PC 147 [zV a,zV b] (zV (QE a b)):=by
 refine aT Tryz.func147 Tryz.ntmps147 (.c _) ?_;have c1:=Mn a;have c2:=Mn b;unfold QE;by_cases g1:a<b
 ·rw[if_pos g1]
  refine aD ?_;exact aB
 ·rw[if_neg g1]
  by_cases g2:b<a
  ·rw[if_pos g2]
   refine aD ?_;exact aB
  ·rw[if_neg g2]
   refine aD ?_;exact aB
theorem Mo(x:bI)(n:Int):PC 146 [.agg (cG x),zV n] (zV (QE x.number n)):=by
 refine aT Tryz.func146 Tryz.ntmps146 (.c _) ?_;have c1:=ao7 x.number n;unfold cG;refine aD ?_;exact aB
def DG(l:List bI):Prop:=∀i k,i<k->k<l.length->(l.getD i b8).number<(l.getD k b8).number
def bE(l:List bI)(n:Int):Nat:=l.findIdx (fun x=>decide (n<=x.number))
theorem LO(l:List bI)(n:Int):bE l n<=l.length:=List.findIdx_le_length
theorem QF{l:List bI}{n:Int}{i:Nat}(h:i<bE l n):(l.getD i b8).number<n:=by
 have h2:=List.not_of_lt_findIdx h;have hi:i<l.length:=vQ h (LO l n);simp only[decide_eq_false_iff_not,Int.not_le]at h2;simpa[hi]using h2
theorem QG{l:List bI}(hs:DG l){n:Int}{i:Nat}(h:bE l n<=i)(hi:i<l.length):n<=(l.getD i b8).number:=by
 have h1:bE l n<l.length:=by omega
 have h2:decide (n<=(l[bE l n]).number)=true:=List.findIdx_getElem (w:=h1);have h3:n<=(l.getD (bE l n) b8).number:=by simpa[h1]using h2
 rcases lU (bE l n) i with h4|h4
 ·have:=hs _ _ h4 hi
  omega
 ·rw[show i=bE l n by omega]
  exact h3
def iW(l:List bI)(n:Int):Bool:=decide (bE l n<l.length)&&decide ((l.getD (bE l n) b8).number=n)
theorem ao8(l:List bI)(n:Int)(hs:DG l)(hl:l.length<=100000):PC 145 [.snap (aA cG l),zV n,.fn (.func 146) [] []] (.aR [zV (bE l n),bV (iW l n)]):=by
 refine aT Tryz.func145 Tryz.ntmps145 (by simp only[go_sem]) ?_
 have hg:=uP l;have lY:=LO l n;refine aD ?_;refine D7 (α:=Nat×Nat) (fun a=> [(9,true,zV a.1),(10,true,zV a.2),(8,true,zV l.length),(2,true,.fn (.func 146) [] []),(1,true,zV n),(0,true,.snap (aA cG l))]) (fun _=> []) (fun m a=>a.1<=bE l n/\bE l n<=a.2/\a.2<=l.length) (fun a=>a.2-a.1) (0,l.length) ⟨0,⟨by omega,lY,cA _⟩,aN⟩ ?_
 rintro m ⟨i,j⟩ ⟨h1,h2,h3⟩;simp only[]at h1 h2 h3⊢;by_cases jY:i<j
 ·obtain⟨q,hq⟩:∃q,q=(i+j)/2:=⟨_,rfl⟩
  have HY:i<=q:=by omega
  have oC:q<j:=by omega
  have ao9:(i:Int)<j:=by omega
  have w1:IntKind.i64.wrap ((i:Int)+j)=(i:Int)+j:=IntWalk.i64_in _ (by omega)
  have w2:IntKind.u64.wrap ((i:Int)+j)=(i:Int)+j:=by
   have:IntKind.u64.wrap ((i:Int)+j)=((i:Int)+j) % 18446744073709551616:=by simp[IntKind.wrap,IntKind.bits,IntKind.signed]
   rw[this];omega
  have w3:((i:Int)+j).fdiv (2 ^ min 1 64)=(q:Int):=by
   rw[show min 1 64=1 from rfl,Int.pow_one,Yd _ (by decide)]
   omega
  have w4:IntKind.i64.wrap (q:Int)=q:=IntWalk.i64_in _ (by omega)
  have c1:=Mo (l.getD q b8) n;have QH:=hg q (by omega)
  rw[iP]at QH c1
  have k1:(l.getD q b8).number<n->q<bE l n:=fun h=>by
   rcases lU q (bE l n)with h4|h4
   ·exact h4
   ·have:=QG hs h4 (by omega);omega
  have k2:¬(l.getD q b8).number<n->bE l n<=q:=fun h=>by
   rcases lU q (bE l n)with h4|h4
   ·exact absurd (QF h4) h
   ·exact h4
  generalize bE l n=F at*;clear hg hq;unfold QE at c1;by_cases g:(l.getD q b8).number<n
  ·have k3:=k1 g
   rw[if_pos g]at c1;clear k1 k2 g;refine aD ?_;exact⟨m+20,(q+1,j),by simp only[];omega,⟨by simp only[];omega,h2,h3⟩,aN⟩
  ·have k3:=k2 g
   rw[if_neg g]at c1;clear k1 k2;by_cases g2:n<(l.getD q b8).number
   ·rw[if_pos g2]at c1
    clear g g2;refine aD ?_;exact⟨m+20,(i,q),by simp only[];omega,⟨h1,by simp only[];omega,by simp only[];omega⟩,aN⟩
   ·rw[if_neg g2]at c1
    clear g g2;refine aD ?_;exact⟨m+20,(i,q),by simp only[];omega,⟨h1,by simp only[];omega,by simp only[];omega⟩,aN⟩
 ·have ao9:¬(i:Int)<j:=by omega
  have he:i=bE l n:=by omega
  unfold iW;by_cases g:i<l.length
  ·have g':(i:Int)<l.length:=by omega
   have c1:=Mo (l.getD i b8) n;have iE:=hg i g;rw[iP]at iE c1;rw[<-he];clear hg lY he;unfold QE at c1;by_cases g1:(l.getD i b8).number<n
   ·have g2:¬(l.getD i b8).number=n:=by omega
    rw[if_pos g1]at c1;refine aD ?_;exact aB
   ·rw[if_neg g1]at c1
    by_cases g3:n<(l.getD i b8).number
    ·have g2:¬(l.getD i b8).number=n:=by omega
     rw[if_pos g3]at c1;refine aD ?_;exact aB
    ·have g2:(l.getD i b8).number=n:=by omega
     rw[if_neg g3]at c1;have hd:decide ((l.getD i b8).number=n)=true:=by simp only[g2,decide_true]
     have uU:decide (i<l.length)=true:=by simp only[g,decide_true]
     rw[hd,uU];clear g2 g1 g3 hd uU;refine aD ?_;exact aB
  ·have g':¬(i:Int)<l.length:=by omega
   rw[<-he];have uU:decide (i<l.length)=false:=by simp only[g,decide_false]
   rw[uU];clear hg lY he uU;refine aD ?_;exact aB
theorem LP(l:List bI)(n:Int)(hs:DG l)(hl:l.length<=100000):PC 70 [.snap (aA cG l),zV n] (.aR [zV (bE l n),bV (iW l n)]):=by
 refine aT Tryz.func70 Tryz.ntmps70 (by simp only[go_sem]) ?_
 have c1:=ao8 l n hs hl;clear hs;refine aD ?_;exact aB
end Go.Proofs.YtioafciifiggaaaGreatDoor
namespace Go.Proofs.YtioafciifiggaaaGreatDoor
open Go.Proofs Go.AL
set_option maxRecDepth 100000
set_option maxHeartbeats 1000000
attribute [local irreducible] cB AW aX cZ dK hold
attribute [local irreducible] eV
theorem I1(x:bI):PC 75 [.agg (cG x)] (.agg (eL (bF x))):=by
 refine aT Tryz.func75 Tryz.ntmps75 (by simp only[go_sem,eL]) ?_
 unfold cG eL bF;refine aE ?_;exact aB
theorem Az(x:bI):PC 95 [.agg (cG x)] (.agg (eL (bF x))):=by
 refine aT Tryz.func95 Tryz.ntmps95 (by simp only[go_sem,eL]) ?_
 unfold cG eL bF;refine aE ?_;exact aB
def xJ(l:List Bool):Nat:=(l.filter id).length
theorem Mp(l:List Bool):xJ l<=l.length:=List.length_filter_le _ _
theorem ap0{l:List Bool}{k:Nat}(h:k<l.length):xJ (l.take (k+1))=xJ (l.take k)+(if l.getD k false=true then 1 else 0):=by
 rw[vZ false h];unfold xJ;rw[Yo,cP];congr 1;cases l.getD k false<;>rfl
theorem ap1(j:Jr)(x:bI)(hj:jE j=0)(hl:j.cD.length<=100000)(hx:FI x):PC 55 [.agg (eG j),.agg (cG x)] (bV (uR j x)):=by
 refine aT Tryz.func55 Tryz.ntmps55 (.c _) ?_;have c1:=I1 x;have c2:=Aq (bF x) (by have:=hx.bF.cI;omega) (by have:=hx.bF.seen;omega) (fun y hy=>by have:=(hx.bF.one y hy).1;omega)
 have c3:=VE (bF x) hx.bF;have c4:=Ax j hl;rw[if_pos hj]at c4;obtain⟨-,-,-,f1,f2,-⟩:=VD hj;have hN:jN j=j.first+j.cD.length:=if_pos hj
 have fW:VG x=xJ x.seen:=rfl;have I2:VH x=if x.closed=true then xJ x.seen+1 else xJ x.seen:=rfl
 have VI:=hx.records;have bG3:x.seen.length<=100000:=hx.bF.seen;obtain⟨M,hM⟩:∃M,uR j x=M:=⟨_,rfl⟩;rw[hM];unfold uR at hM;rw[hN,fW,I2]at hM;have h3:=QD (a:=bF x);generalize qZ (bF x)=ae at*;generalize oA (bF x)=cy at*;obtain⟨⟨cb,cn,ct,cp,cw⟩,ce⟩:=cy;clear hN fW I2 hx;obtain⟨n,p,s,h,e,r,cl⟩:=x;obtain⟨js,jc,jh,jt,jf,jz⟩:=j;unfold eG cG gT eL bF at*;simp only[]at*;generalize hNN:jf+(jz.length:Int)=N at*
 by_cases g1:ae=0
 case neg=>
  rw[if_neg g1]at hM;subst hM;have h3:=h3 g1;subst h3;clear c3 c4;refine aD ?_;exact aB
 rw[if_pos g1]at hM;subst g1;clear h3;have mP:=AB e;have sR:=gI r;have w0:IntKind.i64.wrap (jf-1)=jf-1:=IntWalk.i64_in _ (by omega)
 refine aD ?_;refine tM e.length 100 [(0,some (.cells 30 6 [[zV js,zV jc,zV jh,zV jt,zV jf,.snap (aA bA jz)]] true false)),(1,some (.cells 64 7 [[zV n,zV p,zV s,.snap (aA bW h),.snap (aA cM e),.snap (aA bA r),bV cl]] true false))] (fun k=> [(20,true,zV k),(19,true,zV e.length),(18,true,.snap (aA cM e)),(5,true,zV (xJ (e.take k))),(3,true,.ptr 1 0 0),(2,true,.ptr 0 0 0)]) aN (fun k m hk hm=> ?_) (fun m hm=> ?_)
 ·have cV:(aA cM e)[k]? =some [bV (e.getD k false)]:=mP k hk
  have hs:=ap0 hk;have hle:=Mp (e.take k);have Ba:(e.take k).length<=100000:=by rw[eD];omega
  generalize e.getD k false=b at*;clear mP sR c1 c2 c3 c4 hM;cases b with
  |true=>
   rw[if_pos rfl]at hs;generalize xJ (e.take k)=q at*;generalize xJ (e.take (k+1))=q' at*;subst hs;refine aD ?_;exact⟨m+20,by omega,aN⟩
  |false=>
   rw[if_neg (by decide),BU]at hs
   generalize xJ (e.take k)=q at*;generalize xJ (e.take (k+1))=q' at*;subst hs;refine aD ?_;exact⟨m+20,by omega,aN⟩
 rw[l4];have hle:=Mp e;generalize xJ e=q at*;clear mP;by_cases g2:q=0
 ·rw[if_pos g2]at hM
  subst hM;have CB:(q:Int)=0:=by omega
  clear g2 sR c1 c2 c3 c4;refine aD ?_;exact aB
 rw[if_neg g2]at hM;have CB:¬(q:Int)=0:=by omega
 cases cl with
 |false=>
  rw[if_neg (by simp),if_neg (by decide:¬(false=true))]at hM
  clear c1 c2 c3;refine aD ?_;refine dP (α:=Int) r.length (fun k last=> [(48,true,zV k),(47,true,zV r.length),(46,true,.snap (aA bA r)),(10,true,zV last),(5,true,zV q),(3,true,.ptr 1 0 0),(2,true,.ptr 0 0 0)]) (fun _ _=> [(0,some (.cells 30 6 [[zV js,zV jc,zV jh,zV jt,zV jf,.snap (aA bA jz)]] true false)),(1,some (.cells 64 7 [[zV n,zV p,zV s,.snap (aA bW h),.snap (aA cM e),.snap (aA bA r),bV false]] true false))]) (fun k m last=>1<=m/\uQ last N (r.drop k)=uQ (jf-1) N r) ⟨m+200,jf-1,⟨by omega,rfl⟩,aN⟩ (fun k m' last hk hR=> ?_) (fun m' last hR=> ?_)
  ·obtain⟨r4,hR⟩:=hR
   have cV:=sR k hk;rw[tL 0 hk,VF]at hR;have hF:uQ (jf-1) N r=false->M=false:=fun h=>by rw[if_neg (by rw[h];decide)]at hM;exact hM.symm
   generalize r.getD k 0=v at*;clear sR hM;by_cases g5:v<=last
   ·rw[if_pos (.inl g5)]at hR
    obtain rfl:=hF hR.symm;clear hR hF;refine aD ?_;exact aB
   ·by_cases g6:N<=v
    ·rw[if_pos (.inr g6)]at hR
     obtain rfl:=hF hR.symm;clear hR hF;refine aD ?_;exact aB
    ·rw[if_neg (by omega)]at hR
     have lM:=aU.mk hR;clear hR hF;refine aD ?_;exact⟨m'+60,v,⟨by omega,lM.out⟩,aN⟩
  ·obtain⟨r4,hR⟩:=hR
   rw[wZ]at hR;have tJ:uQ (jf-1) N r=true:=by rw[<-hR];rfl
   rw[if_pos tJ]at hM;clear hR tJ sR c4;by_cases g5:r.length=q
   ·have hd:decide (r.length=q)=true:=by simp[g5]
    rw[hd]at hM;subst hM;have uN:((r.length:Int)==(q:Int))=true:=by simpa using(by omega:(r.length:Int)=(q:Int))
    clear g5 hd;refine aD ?_;exact aB
   ·have hd:decide (r.length=q)=false:=by simp[g5]
    rw[hd]at hM;subst hM;have uN:((r.length:Int)==(q:Int))=false:=beq_eq_false_iff_ne.2 (by omega)
    clear g5 hd;refine aD ?_;exact aB
 |true=>
  rw[if_pos rfl]at hM;by_cases g3:ce=0
  ·subst g3
   rw[if_neg (by simp)]at hM
   obtain⟨nd,sS⟩:∃nd,nd=q+1:=⟨_,rfl⟩;have ap2:(nd:Int)=(q:Int)+1:=by omega
   rw[<-sS]at hM;clear sS;clear c2;refine aD ?_;refine dP (α:=Int) r.length (fun k last=> [(48,true,zV k),(47,true,zV r.length),(46,true,.snap (aA bA r)),(10,true,zV last),(5,true,zV nd),(3,true,.ptr 1 0 0),(2,true,.ptr 0 0 0)]) (fun _ _=> [(0,some (.cells 30 6 [[zV js,zV jc,zV jh,zV jt,zV jf,.snap (aA bA jz)]] true false)),(1,some (.cells 64 7 [[zV n,zV p,zV s,.snap (aA bW h),.snap (aA cM e),.snap (aA bA r),bV true]] true false))]) (fun k m last=>1<=m/\uQ last N (r.drop k)=uQ (jf-1) N r) ⟨m+200,jf-1,⟨by omega,rfl⟩,aN⟩ (fun k m' last hk hR=> ?_) (fun m' last hR=> ?_)
   ·obtain⟨r4,hR⟩:=hR
    have cV:=sR k hk;rw[tL 0 hk,VF]at hR;have hF:uQ (jf-1) N r=false->M=false:=fun h=>by rw[if_neg (by rw[h];decide)]at hM;exact hM.symm
    generalize r.getD k 0=v at*;clear sR hM;by_cases g5:v<=last
    ·rw[if_pos (.inl g5)]at hR
     obtain rfl:=hF hR.symm;clear hR hF;refine aD ?_;exact aB
    ·by_cases g6:N<=v
     ·rw[if_pos (.inr g6)]at hR
      obtain rfl:=hF hR.symm;clear hR hF;refine aD ?_;exact aB
     ·rw[if_neg (by omega)]at hR
      have lM:=aU.mk hR;clear hR hF;refine aD ?_;exact⟨m'+60,v,⟨by omega,lM.out⟩,aN⟩
   ·obtain⟨r4,hR⟩:=hR
    rw[wZ]at hR;have tJ:uQ (jf-1) N r=true:=by rw[<-hR];rfl
    rw[if_pos tJ]at hM;clear hR tJ sR c4 ap2;by_cases g5:r.length=nd
    ·have hd:decide (r.length=nd)=true:=by simp[g5]
     rw[hd]at hM;subst hM;have uN:((r.length:Int)==(nd:Int))=true:=by simpa using(by omega:(r.length:Int)=(nd:Int))
     clear g5 hd;refine aD ?_;exact aB
    ·have hd:decide (r.length=nd)=false:=by simp[g5]
     rw[hd]at hM;subst hM;have uN:((r.length:Int)==(nd:Int))=false:=beq_eq_false_iff_ne.2 (by omega)
     clear g5 hd;refine aD ?_;exact aB
  ·rw[if_pos ⟨rfl,g3⟩]at hM
   subst hM;clear c2 c4 sR;refine aD ?_;exact aB
end Go.Proofs.YtioafciifiggaaaGreatDoor
