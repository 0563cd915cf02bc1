/- Target: contracts of its functions (Ap). No condition but those named. -/
import Derived.Test.YtpaomccedbjknaaGreatDoorAo
set_option linter.all false
namespace Go.Proofs.YtpaomccedbjknaaGreatDoor
open Go.Proofs Go.AL Tryz
set_option maxRecDepth 100000
set_option maxHeartbeats 8000000
attribute [local irreducible] bT AW b8 cF dB hold
attribute [local irreducible] iX
structure Q4(a:oX):Prop where
 dF:a.dF.length<=100000
 seen:a.seen.length<=100000
 one:∀x∈a.dF,x.length<=100000/\∀y∈x,bZ y
 all:nZ a.dF<=100000
theorem ZY{a:oX}(h:¬uB a=0):uB a=3:=by
 unfold uB at h⊢;split
 ·rfl
 ·split
  ·rename_i h1 h2
   rw[if_neg h1,if_pos h2]at h;exact absurd rfl h
  ·rfl
theorem Nb{a:oX}(h:uB a=0):1<=a.number/\a.number<=1073741824/\1<=a.parts/\a.parts<=65536/\0<=a.sum/\a.sum<=4294967295/\(a.dF.length:Int)=a.parts/\(a.seen.length:Int)=a.parts/\∀i,i<a.dF.length->PX a i=true:=by
 unfold uB at h;split at h
 ·exact absurd h dE
 rename_i h1;split at h
 ·rename_i h2
  have a7:(a.dF.length:Int)=a.parts:=Y5.1 fun e=>h1 (.inr (.inr (.inr (.inr (.inr (.inr (.inl e)))))))
  have a8:(a.seen.length:Int)=a.parts:=Y5.1 fun e=>h1 (.inr (.inr (.inr (.inr (.inr (.inr (.inr e)))))))
  exact⟨oM,oM,oM,oM,oM,oM,a7,a8,fun i hi=>iM.1 h2 i (by simpa using hi)⟩
 ·exact absurd h dE
theorem aw7{h:List (List Int)}(hb:∀x∈h,∀y∈x,bZ y):∀y∈h.flatten,bZ y:=fun y hy=>by
 obtain⟨x,hx,hy⟩:=List.mem_flatten.1 hy;exact hb x hx y hy
theorem ZZ(a:oX)(hA:Q4 a):PC 125 [.agg (jX a)] (.aK [.agg (iO (uE a).1),zV (uE a).2]):=by
 refine aZ func125 ntmps125 (by simp only[go_sem,iO]) ?_
 have c1:=ZS a (by have:=hA.dF;omega) (by have:=hA.seen;omega) (fun x hx=>by have:=(hA.one x hx).1;omega)
 have c2:=aw0 a.seen (by have:=hA.seen;omega)
 have c3:=aw2 a.dF hA.dF (by have:=hA.all;omega)
 have Q5:=aw7 fun x hx=>(hA.one x hx).2
 have lK:=UN a.dF;have h0:=hA.all;have c4:=ZP a.dF.flatten Q5 oM
 have c5:=au6 a.dF.flatten Q5 oM
 have wM:=ZI a.dF.flatten;have h3:=ZY (a:=a);have Mt:iO mV=[zV 0,zV 0,zV 0,.snap (aB aW []),.snap (aB aH [])]:=rfl;obtain⟨M,hM⟩:∃M,uE a=M:=⟨_,rfl⟩;rw[hM];unfold uE at hM;clear hA Q5;obtain⟨n,p,s,h,e⟩:=a;unfold jX at*;simp only[]at*;generalize uB ⟨n,p,s,h,e⟩=ae at*;by_cases g1:ae=0
 ·rw[if_pos g1]at hM
  subst g1;by_cases g2:e.all id=true
  ·rw[if_pos g2]at hM
   rw[g2]at c2;generalize h.flatten=F at*;by_cases g3:65536<F.length
   ·rw[if_pos g3]at hM
    subst hM;have qI:(65536:Int)<F.length:=oM
    clear c4 c5 wM;exact zEa
   ·rw[if_neg g3]at hM
    have qI:¬(65536:Int)<F.length:=oM
    have w1:IntKind.i64.wrap (jO F)=jO F:=IntWalk.i64_in _ oM
    by_cases g4:jO F=s
    ·rw[if_pos g4]at hM
     subst g4;generalize A5 F=D at*;obtain⟨⟨cb,cn,ct,cp,cw⟩,de⟩:=D;unfold iO at c5;simp only[]at*;by_cases g5:de=0
     ·rw[if_pos g5]at hM
      subst g5;by_cases g6:cn=n
      ·rw[if_pos g6]at hM
       subst hM g6;unfold iO;exact zE
      ·rw[if_neg g6]at hM
       subst hM;exact zE
     ·rw[if_neg g5]at hM
      subst hM;exact zE
    ·rw[if_neg g4]at hM
     subst hM;clear c5;exact zE
  ·rw[if_neg g2]at hM
   subst hM;have rC:e.all id=false:=by simpa using g2
   rw[rC]at c2;clear c3 c4 c5;exact zEa
 ·rw[if_neg g1]at hM
  subst hM;have h3:=h3 g1;subst h3;clear c2 c3 c4 c5;exact zEa
end Go.Proofs.YtpaomccedbjknaaGreatDoor
namespace Go.Proofs.YtpaomccedbjknaaGreatDoor
open Go.Proofs Go.AL Tryz
set_option maxRecDepth 100000
set_option maxHeartbeats 8000000
attribute [local irreducible] bT AW b8 cF dB hold
structure bK where
 number:Int
 parts:Int
 sum:Int
 dF:List (List Int)
 seen:List Bool
 records:List Int
 closed:Bool
def cD(x:bK):oX:=⟨x.number,x.parts,x.sum,x.dF,x.seen⟩
def bX(x:bK):List AV:=[zV x.number,zV x.parts,zV x.sum,.snap (aB bY x.dF),.snap (aB eH x.seen),.snap (aB aW x.records),bV x.closed]
theorem lY(x:bK):bX x=[zV x.number,zV x.parts,zV x.sum,.snap (aB bY x.dF),.snap (aB eH x.seen),.snap (aB aW x.records),bV x.closed]:=rfl
def bU:bK:=⟨0,0,0,[],[],[],false⟩
instance :rN bX 7:=⟨fun _=>rfl,fun _=>rfl,fun x a ha=>by
 simp only[bX,dJ,iI,or_false]at ha;rcases ha with rfl|rfl|rfl|rfl|rfl|rfl|rfl
 ·exact .c _
 ·exact .c _
 ·exact .c _
 ·exact gJ _
 ·exact gJ _
 ·exact gJ _
 ·exact .c _⟩
theorem yU(l:List bK)(k:Nat)(h:k<l.length):(aB bX l)[k]? =some (bX (l.getD k bU)):=tB bU h
structure jB where
 j:Jr
 bI:List bK
def dH(s:jB):List AV:=[zV s.j.start,zV s.j.count,zV s.j.head,zV s.j.tail,zV s.j.first,.snap (aB aW s.j.aR),.snap (aB bX s.bI)]
def o0:jB:=⟨lB,[]⟩
def jN(j:Jr):Int:=if jE j=0 then j.first+j.aR.length else 0
def pV(last next:Int):List Int->Bool
 |[]=>true
 |n::l=>if n<=last\/next<=n then false else pV n next l
theorem F9(last next n:Int)(l:List Int):pV last next (n::l)=if n<=last\/next<=n then false else pV n next l:=rfl
def DN(x:bK):Nat:=(x.seen.filter id).length
def BS(x:bK):Nat:=if x.closed=true then DN x+1 else DN x
def mW(j:Jr)(x:bK):Bool:=
 if uB (cD x)=0 then
  if DN x=0 then false
  else if x.closed=true/\(uE (cD x)).2≠0 then false
  else if pV (j.first-1) (jN j) x.records=true then decide (x.records.length=BS x)else false
 else false
def sL(j:Jr):Option Int->List Int->List bK->Bool
 |_,_,[]=>true
 |p,own,x::l=>
  if mW j x=true then
   if(match p with|none=>false|some n=>decide (x.number<=n))=true then false
   else if x.records.any (fun n=>own.contains n)=true then false
   else sL j (some x.number) (own++x.records) l
  else false
theorem UR(j:Jr)(p:Option Int)(own:List Int)(x:bK)(l:List bK):sL j p own (x::l)=if mW j x=true then
   if(match p with|none=>false|some n=>decide (x.number<=n))=true then false
   else if x.records.any (fun n=>own.contains n)=true then false
   else sL j (some x.number) (own++x.records) l
  else false:=rfl
def l5(s:jB):Int:=
 if jE s.j=0 then
  if 1024<s.bI.length then 6
  else if sL s.j none [] s.bI=true then 0 else 3
 else jE s.j
structure HV(x:bK):Prop where
 cD:Q4 (cD x)
 records:x.records.length<=100000
structure yV(s:jB):Prop where
 aR:s.j.aR.length<=100000
 bI:s.bI.length<=100000
 one:∀x∈s.bI,HV x
theorem US:∀(l:List Int) (last next:Int),pV last next l=true->∀n∈l,last<n/\n<next
 |[],_,_,_,n,hn=>by simp at hn
 |x::l,last,next,h,n,hn=>by
  rw[F9]at h;split at h
  ·grind
  ·rename_i g
   rcases dJ.1 hn with rfl|hn
   ·omega
   ·have:=US l x next h n hn
    omega
theorem Nc:∀(l:List Int) (last next:Int),pV last next l=true->l.Nodup
 |[],_,_,_=>Zc
 |x::l,last,next,h=>by
  rw[F9]at h;split at h
  ·grind
  ·rename_i g
   refine Il.2 ⟨fun hx=> ?_,Nc l x next h⟩
   have:=US l x next h x hx
   omega
theorem Nd(a:Int):PC 239 [zV a] (bV false):=by
 refine aZ func239 ntmps239 (.c _) ?_;have h:(a !=a)=false:=by simp
 exact zEa
def Q6(a b:Int):Int:=if a<b then-1 else if b<a then 1 else 0
theorem aw8(a b:Int):PC 193 [zV a,zV b] (zV (Q6 a b)):=by
 refine aZ func193 ntmps193 (.c _) ?_;have c1:=Nd a;have c2:=Nd b;unfold Q6;by_cases g1:a<b
 ·rw[if_pos g1]
  exact zEa
 ·rw[if_neg g1]
  by_cases g2:b<a
  ·rw[if_pos g2]
   exact zEa
  ·rw[if_neg g2]
   exact zEa
theorem Nf(x:bK)(n:Int):PC 192 [.agg (bX x),zV n] (zV (Q6 x.number n)):=by
 refine aZ func192 ntmps192 (.c _) ?_;have c1:=aw8 x.number n;unfold bX;exact zEa
def HX(l:List bK):Prop:=∀i k,i<k->k<l.length->(l.getD i bU).number<(l.getD k bU).number
def fE(l:List bK)(n:Int):Nat:=l.findIdx (fun x=>decide (n<=x.number))
theorem UT(l:List bK)(n:Int):fE l n<=l.length:=List.findIdx_le_length
theorem Aa{l:List bK}{n:Int}{i:Nat}(h:i<fE l n):(l.getD i bU).number<n:=by
 have h2:=List.not_of_lt_findIdx h;have hi:i<l.length:=tX h (UT l n);simp only[decide_eq_false_iff_not,Int.not_le]at h2;simpa[hi]using h2
theorem Ab{l:List bK}(hs:HX l){n:Int}{i:Nat}(h:fE l n<=i)(hi:i<l.length):n<=(l.getD i bU).number:=by
 have h1:fE l n<l.length:=oM
 have h2:decide (n<=(l[fE l n]).number)=true:=List.findIdx_getElem (w:=h1);have h3:n<=(l.getD (fE l n) bU).number:=by simpa[h1]using h2
 rcases qY (fE l n) i with h4|h4
 ·have:=hs _ _ h4 hi
  omega
 ·rw[show i=fE l n by omega]
  exact h3
def pE(l:List bK)(n:Int):Bool:=decide (fE l n<l.length)&&decide ((l.getD (fE l n) bU).number=n)
theorem aw9(l:List bK)(n:Int)(hs:HX l)(hl:l.length<=100000):PC 191 [.snap (aB bX l),zV n,.fn (.func 192) [] []] (.aK [zV (fE l n),bV (pE l n)]):=by
 refine aZ func191 ntmps191 (by simp only[go_sem]) ?_
 have hg:=yU l;have lK:=UT l n;refine aM ?_;refine P0 (α:=Nat×Nat) (fun a=> [(9,true,zV a.1),(10,true,zV a.2),(8,true,zV l.length),(2,true,.fn (.func 192) [] []),(1,true,zV n),(0,true,.snap (aB bX l))]) (fun _=> []) (fun m a=>a.1<=fE l n/\fE l n<=a.2/\a.2<=l.length) (fun a=>a.2-a.1) (0,l.length) ⟨0,⟨oM,lK,cA _⟩,aG⟩ ?_
 rintro m ⟨i,j⟩ ⟨h1,h2,h3⟩;simp only[]at h1 h2 h3⊢;by_cases kZ:i<j
 ·obtain⟨q,hq⟩:∃q,q=(i+j)/2:=⟨_,rfl⟩
  have DH:i<=q:=oM
  have pT:q<j:=oM
  have ax0:(i:Int)<j:=oM
  have w1:IntKind.i64.wrap ((i:Int)+j)=(i:Int)+j:=IntWalk.i64_in _ oM
  have w2:IntKind.u64.wrap ((i:Int)+j)=(i:Int)+j:=by
   have:IntKind.u64.wrap ((i:Int)+j)=((i:Int)+j) % 18446744073709551616:=by simp[IntKind.wrap,IntKind.bits,IntKind.signed]
   rw[this];omega
  have w3:((i:Int)+j).fdiv (2 ^ min 1 64)=(q:Int):=by
   rw[show min 1 64=1 from rfl,Int.pow_one,bH9 _ dE]
   omega
  have w4:IntKind.i64.wrap (q:Int)=q:=IntWalk.i64_in _ oM
  have c1:=Nf (l.getD q bU) n;have HM:=hg q oM
  rw[lY]at HM c1
  have k1:(l.getD q bU).number<n->q<fE l n:=fun h=>by
   rcases qY q (fE l n)with h4|h4
   ·exact h4
   ·have:=Ab hs h4 oM;omega
  have k2:¬(l.getD q bU).number<n->fE l n<=q:=fun h=>by
   rcases qY q (fE l n)with h4|h4
   ·exact absurd (Aa h4) h
   ·exact h4
  generalize fE l n=F at*;clear hg hq;unfold Q6 at c1;by_cases g:(l.getD q bU).number<n
  ·have k3:=k1 g
   rw[if_pos g]at c1;clear k1 k2 g;refine aM ?_;exact⟨m+20,(q+1,j),by simp only[];omega,⟨by simp only[];omega,h2,h3⟩,aG⟩
  ·have k3:=k2 g
   rw[if_neg g]at c1;clear k1 k2;by_cases g2:n<(l.getD q bU).number
   ·rw[if_pos g2]at c1
    clear g g2;refine aM ?_;exact⟨m+20,(i,q),by simp only[];omega,⟨h1,by simp only[];omega,by simp only[];omega⟩,aG⟩
   ·rw[if_neg g2]at c1
    clear g g2;refine aM ?_;exact⟨m+20,(i,q),by simp only[];omega,⟨h1,by simp only[];omega,by simp only[];omega⟩,aG⟩
 ·have ax0:¬(i:Int)<j:=oM
  have he:i=fE l n:=oM
  unfold pE;by_cases g:i<l.length
  ·have g':(i:Int)<l.length:=oM
   have c1:=Nf (l.getD i bU) n;have oB:=hg i g;rw[lY]at oB c1;rw[<-he];clear hg lK he;unfold Q6 at c1;by_cases g1:(l.getD i bU).number<n
   ·have g2:¬(l.getD i bU).number=n:=oM
    rw[if_pos g1]at c1;exact zEa
   ·rw[if_neg g1]at c1
    by_cases g3:n<(l.getD i bU).number
    ·have g2:¬(l.getD i bU).number=n:=oM
     rw[if_pos g3]at c1;exact zEa
    ·have g2:(l.getD i bU).number=n:=oM
     rw[if_neg g3]at c1;have hd:decide ((l.getD i bU).number=n)=true:=by simp only[g2,decide_true]
     have yW:decide (i<l.length)=true:=by simp only[g,decide_true]
     rw[hd,yW];clear g2 g1 g3 hd yW;exact zEa
  ·have g':¬(i:Int)<l.length:=oM
   rw[<-he];have yW:decide (i<l.length)=false:=by simp only[g,decide_false]
   rw[yW];clear hg lK he yW;exact zEa
theorem UU(l:List bK)(n:Int)(hs:HX l)(hl:l.length<=100000):PC 115 [.snap (aB bX l),zV n] (.aK [zV (fE l n),bV (pE l n)]):=by
 refine aZ func115 ntmps115 (by simp only[go_sem]) ?_
 have c1:=aw9 l n hs hl;clear hs;exact zEa
end Go.Proofs.YtpaomccedbjknaaGreatDoor
namespace Go.Proofs.YtpaomccedbjknaaGreatDoor
open Go.Proofs Go.AL Tryz
set_option maxRecDepth 100000
set_option maxHeartbeats 8000000
attribute [local irreducible] bT AW b8 cF dB hold
attribute [local irreducible] iX
theorem Q7(x:bK):PC 120 [.agg (bX x)] (.agg (jX (cD x))):=by
 refine aZ func120 ntmps120 (by simp only[go_sem,jX]) ?_
 unfold bX jX cD;exact zE
theorem ax1(x:bK):PC 171 [.agg (bX x)] (.agg (jX (cD x))):=by
 refine aZ func171 ntmps171 (by simp only[go_sem,jX]) ?_
 unfold bX jX cD;exact zE
def xP(l:List Bool):Nat:=(l.filter id).length
theorem Ng(l:List Bool):xP l<=l.length:=Zn _ _
theorem ax2{l:List Bool}{k:Nat}(h:k<l.length):xP (l.take (k+1))=xP (l.take k)+(if l.getD k false=true then 1 else 0):=by
 rw[kF false h];unfold xP;rw[Im,cU];congr 1;cases l.getD k false<;>rfl
theorem ax3(j:Jr)(x:bK)(hj:jE j=0)(hl:j.aR.length<=100000)(hx:HV x):PC 188 [.agg (gF j),.agg (bX x)] (bV (mW j x)):=by
 refine aZ func188 ntmps188 (.c _) ?_;have c1:=Q7 x;have c2:=ZS (cD x) (by have:=hx.cD.dF;omega) (by have:=hx.cD.seen;omega) (fun y hy=>by have:=(hx.cD.one y hy).1;omega)
 have c3:=ZZ (cD x) hx.cD;have c4:=UQ j hl;rw[if_pos hj]at c4;obtain⟨-,-,-,f1,f2,-⟩:=DM hj;have hN:jN j=j.first+j.aR.length:=if_pos hj
 have eR:DN x=xP x.seen:=rfl;have Ad:BS x=if x.closed=true then xP x.seen+1 else xP x.seen:=rfl
 have vO:=hx.records;have bW0:x.seen.length<=100000:=hx.cD.seen;obtain⟨M,hM⟩:∃M,mW j x=M:=⟨_,rfl⟩;rw[hM];unfold mW at hM;rw[hN,eR,Ad]at hM;have h3:=ZY (a:=cD x);generalize uB (cD x)=ae at*;generalize uE (cD x)=cy at*;obtain⟨⟨cb,cn,ct,cp,cw⟩,ce⟩:=cy;clear hN eR Ad hx;obtain⟨n,p,s,h,e,r,cl⟩:=x;obtain⟨js,jc,jh,jt,jf,jz⟩:=j;unfold gF bX iO jX cD at*;simp only[]at*;generalize hNN:jf+(jz.length:Int)=N at*
 by_cases g1:ae=0
 case neg=>
  rw[if_neg g1]at hM;subst hM;have h3:=h3 g1;subst h3;clear c3 c4;exact zEa
 rw[if_pos g1]at hM;subst g1;clear h3;have rW:=F7 e;have tJ:=gI r;have w0:IntKind.i64.wrap (jf-1)=jf-1:=IntWalk.i64_in _ oM
 refine aM ?_;refine nS e.length 100 [(0,some (.cells 39 6 [[zV js,zV jc,zV jh,zV jt,zV jf,.snap (aB aW jz)]] true false)),(1,some (.cells 192 7 [[zV n,zV p,zV s,.snap (aB bY h),.snap (aB eH e),.snap (aB aW r),bV cl]] true false))] (fun k=> [(20,true,zV k),(19,true,zV e.length),(18,true,.snap (aB eH e)),(5,true,zV (xP (e.take k))),(3,true,.ptr 1 0 0),(2,true,.ptr 0 0 0)]) aG (fun k m hk hm=> ?_) (fun m hm=> ?_)
 ·have bO:(aB eH e)[k]? =some [bV (e.getD k false)]:=rW k hk
  have hs:=ax2 hk;have hle:=Ng (e.take k);have Ae:(e.take k).length<=100000:=by rw[dX];omega
  generalize e.getD k false=b at*;clear rW tJ c1 c2 c3 c4 hM;cases b with
  |true=>
   rw[if_pos rfl]at hs;generalize xP (e.take k)=q at*;generalize xP (e.take (k+1))=q' at*;subst hs;refine aM ?_;exact⟨m+20,oM,aG⟩
  |false=>
   rw[if_neg dE,KJ]at hs
   generalize xP (e.take k)=q at*;generalize xP (e.take (k+1))=q' at*;subst hs;refine aM ?_;exact⟨m+20,oM,aG⟩
 rw[gP];have hle:=Ng e;generalize xP e=q at*;clear rW;by_cases g2:q=0
 ·rw[if_pos g2]at hM
  subst hM;have rC:(q:Int)=0:=oM
  clear g2 tJ c1 c2 c3 c4;exact zEa
 rw[if_neg g2]at hM;have rC:¬(q:Int)=0:=oM
 cases cl with
 |false=>
  rw[if_neg (by simp),if_neg (by decide:¬(false=true))]at hM
  clear c1 c2 c3;refine aM ?_;refine dC (α:=Int) r.length (fun k last=> [(48,true,zV k),(47,true,zV r.length),(46,true,.snap (aB aW r)),(10,true,zV last),(5,true,zV q),(3,true,.ptr 1 0 0),(2,true,.ptr 0 0 0)]) (fun _ _=> [(0,some (.cells 39 6 [[zV js,zV jc,zV jh,zV jt,zV jf,.snap (aB aW jz)]] true false)),(1,some (.cells 192 7 [[zV n,zV p,zV s,.snap (aB bY h),.snap (aB eH e),.snap (aB aW r),bV false]] true false))]) (fun k m last=>1<=m/\pV last N (r.drop k)=pV (jf-1) N r) ⟨m+200,jf-1,⟨oM,rfl⟩,aG⟩ (fun k m' last hk hR=> ?_) (fun m' last hR=> ?_)
  ·obtain⟨tI,hR⟩:=hR
   have bO:=tJ k hk;rw[wH 0 hk,F9]at hR;have hF:pV (jf-1) N r=false->M=false:=fun h=>by rw[if_neg (by rw[h];decide)]at hM;exact hM.symm
   generalize r.getD k 0=v at*;clear tJ hM;by_cases g5:v<=last
   ·rw[if_pos (.inl g5)]at hR
    obtain rfl:=hF hR.symm;clear hR hF;exact zEa
   ·by_cases g6:N<=v
    ·rw[if_pos (.inr g6)]at hR
     obtain rfl:=hF hR.symm;clear hR hF;exact zEa
    ·rw[if_neg oM]at hR
     have pD:=bC.mk hR;clear hR hF;refine aM ?_;exact⟨m'+60,v,⟨oM,pD.out⟩,aG⟩
  ·obtain⟨tI,hR⟩:=hR
   rw[v8]at hR;have pP:pV (jf-1) N r=true:=by rw[<-hR];rfl
   rw[if_pos pP]at hM;clear hR pP tJ c4;by_cases g5:r.length=q
   ·have hd:decide (r.length=q)=true:=by simp[g5]
    rw[hd]at hM;subst hM;have xM:((r.length:Int)==(q:Int))=true:=by simpa using(by omega:(r.length:Int)=(q:Int))
    clear g5 hd;exact zEa
   ·have hd:decide (r.length=q)=false:=by simp[g5]
    rw[hd]at hM;subst hM;have xM:((r.length:Int)==(q:Int))=false:=beq_eq_false_iff_ne.2 oM
    clear g5 hd;exact zEa
 |true=>
  rw[if_pos rfl]at hM;by_cases g3:ce=0
  ·subst g3
   rw[if_neg (by simp)]at hM
   obtain⟨nd,uG⟩:∃nd,nd=q+1:=⟨_,rfl⟩;have ax4:(nd:Int)=(q:Int)+1:=oM
   rw[<-uG]at hM;clear uG;clear c2;refine aM ?_;refine dC (α:=Int) r.length (fun k last=> [(48,true,zV k),(47,true,zV r.length),(46,true,.snap (aB aW r)),(10,true,zV last),(5,true,zV nd),(3,true,.ptr 1 0 0),(2,true,.ptr 0 0 0)]) (fun _ _=> [(0,some (.cells 39 6 [[zV js,zV jc,zV jh,zV jt,zV jf,.snap (aB aW jz)]] true false)),(1,some (.cells 192 7 [[zV n,zV p,zV s,.snap (aB bY h),.snap (aB eH e),.snap (aB aW r),bV true]] true false))]) (fun k m last=>1<=m/\pV last N (r.drop k)=pV (jf-1) N r) ⟨m+200,jf-1,⟨oM,rfl⟩,aG⟩ (fun k m' last hk hR=> ?_) (fun m' last hR=> ?_)
   ·obtain⟨tI,hR⟩:=hR
    have bO:=tJ k hk;rw[wH 0 hk,F9]at hR;have hF:pV (jf-1) N r=false->M=false:=fun h=>by rw[if_neg (by rw[h];decide)]at hM;exact hM.symm
    generalize r.getD k 0=v at*;clear tJ hM;by_cases g5:v<=last
    ·rw[if_pos (.inl g5)]at hR
     obtain rfl:=hF hR.symm;clear hR hF;exact zEa
    ·by_cases g6:N<=v
     ·rw[if_pos (.inr g6)]at hR
      obtain rfl:=hF hR.symm;clear hR hF;exact zEa
     ·rw[if_neg oM]at hR
      have pD:=bC.mk hR;clear hR hF;refine aM ?_;exact⟨m'+60,v,⟨oM,pD.out⟩,aG⟩
   ·obtain⟨tI,hR⟩:=hR
    rw[v8]at hR;have pP:pV (jf-1) N r=true:=by rw[<-hR];rfl
    rw[if_pos pP]at hM;clear hR pP tJ c4 ax4;by_cases g5:r.length=nd
    ·have hd:decide (r.length=nd)=true:=by simp[g5]
     rw[hd]at hM;subst hM;have xM:((r.length:Int)==(nd:Int))=true:=by simpa using(by omega:(r.length:Int)=(nd:Int))
     clear g5 hd;exact zEa
    ·have hd:decide (r.length=nd)=false:=by simp[g5]
     rw[hd]at hM;subst hM;have xM:((r.length:Int)==(nd:Int))=false:=beq_eq_false_iff_ne.2 oM
     clear g5 hd;exact zEa
  ·rw[if_pos ⟨rfl,g3⟩]at hM
   subst hM;clear c2 c4 tJ;exact zEa
end Go.Proofs.YtpaomccedbjknaaGreatDoor
