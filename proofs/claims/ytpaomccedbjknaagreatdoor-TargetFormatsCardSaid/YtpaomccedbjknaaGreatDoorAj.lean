/- Target: contracts of its functions (Aj). No condition but those named. -/
import Derived.Test.YtpaomccedbjknaaGreatDoorAi
import Derived.Shelf.SlIterI.Nil
import Derived.Shelf.SortM.Plain
import Derived.Shelf.SortM.SortNone
import Derived.Ground.GgzProg
import Derived.Ground.SlgmProg
set_option linter.all false
namespace Go.Proofs.YtpaomccedbjknaaGreatDoor
open Go.Proofs Go.AL Tryz
set_option maxRecDepth 100000
set_option maxHeartbeats 8000000
attribute [local irreducible] bT AW b8 cF dB hold
theorem am6(d:bQ)(r:eD)(n:Int)(hl:r.aR.length<=1000000)
  (g1:mQ r=0) (g2:¬n<=r.dK) (g3:¬1073741824<n) (g4:n=r.jM):
  PC 142 [.agg (bD d),.agg (cC r),zV n] (.aK [.agg (cC r),.c (.slice none 0 0),zV 0]):=by
 refine aZ func142 ntmps142 (by simp only[go_sem,cC]) ?_
 have c1:=H4 r hl;have c4:=yK r.aR hl;rw[g1]at c1;clear g1;obtain⟨sz,sp,dt,ep,ap,ag⟩:=r;simp only[]at*;unfold cC bD at*;subst g4;refine aE ?_;refine eO func80 ntmps80 ?_;refine aE ?_;refine eO func153 ntmps153 ?_;refine aE ?_;refine eO func215 ntmps215 ?_;exact zE
theorem am7(d:bQ)(r:eD)(n:Int)(h:(dZ d r n).2.2=0):mQ r=0/\¬n<=r.dK/\¬1073741824<n/\((n=r.jM/\dZ d r n=(r,[],0))\/(n≠r.jM/\r.jM=0/\(iN d r.gQ (gR ⟨r.aR,r.gQ,r.data,r.dY,r.dK,n⟩)).2=0/\dZ d r n=(⟨r.aR,r.gQ,r.data,r.dY,r.dK,n⟩,(iN d r.gQ (gR ⟨r.aR,r.gQ,r.data,r.dY,r.dK,n⟩)).1,0))):=by
 unfold dZ at h⊢;by_cases g1:mQ r=0
 ·rw[if_pos g1]at h⊢
  by_cases g2:n<=r.dK
  ·rw[if_pos g2]at h;exact absurd h dE
  rw[if_neg g2]at h⊢;by_cases g3:1073741824<n
  ·rw[if_pos g3]at h;exact absurd h dE
  rw[if_neg g3]at h⊢;by_cases g4:n=r.jM
  ·rw[if_pos g4]at h⊢
   exact⟨g1,g2,g3,.inl ⟨g4,rfl⟩⟩
  rw[if_neg g4]at h⊢;by_cases g5:r.jM≠0
  ·rw[if_pos g5]at h;exact absurd h dE
  rw[if_neg g5]at h⊢;unfold xF at h⊢;split at h
  ·rename_i g6
   rw[if_pos g6];exact⟨g1,g2,g3,.inr ⟨g4,oM,g6,rfl⟩⟩
  ·rename_i g6
   exact absurd h g6
 ·rw[if_neg g1]at h;exact absurd h g1
theorem am8(d:bQ)(a:Int)(p:List Int):∀o∈(iN d a p).1,o.2.2.length<=1000000:=by
 unfold iN;split
 ·split
  ·intro o ho;simp at ho
  ·split
   ·intro o ho;simp at ho
   ·intro o ho
    simp only[dJ,iI,or_false]at ho;rcases ho with rfl|rfl<;>simp[tD]
 ·intro o ho;simp at ho
theorem am9(d:bQ)(r:eD)(n:Int):∀o∈(dZ d r n).2.1,o.2.2.length<=1000000:=by
 unfold dZ xF
 repeat' split
 all_goals first|exact am8 _ _ _|(intro o ho;simp at ho)
theorem an0(r:eD)(c:kM)(h:∀w∈c.writes,w.2.2.length<=1000000):∀o∈(kX r c).1,o.2.2.length<=1000000:=by
 unfold kX
 repeat' split
 all_goals first|(intro o ho;simp at ho;done)|skip
 intro o ho;simp only[qW,mF,dJ,iI,or_false]at ho;rcases ho with⟨w,hw,rfl⟩|rfl
 ·exact h w hw
 ·simp
theorem an1(r:eD)(c:kM):(kX r c).2=0->(kX r c).1.isEmpty=false:=by
 unfold kX;intro h;by_cases g1:mQ r=0
 ·rw[if_pos g1]at h⊢
  by_cases g2:rT c r.aR=0
  ·rw[if_pos g2]at h⊢
   split
   ·rename_i g3
    rw[if_pos g3]at h;exact absurd h dE
   ·rename_i g3
    rw[if_neg g3]at h;split
    ·rename_i g4
     rw[if_pos g4]at h;exact absurd h dE
    ·simp
  ·rw[if_neg g2]at h;exact absurd h g2
 ·rw[if_neg g1]at h;exact absurd h g1
theorem an2(d:bQ)(r:eD):(zY d r).2.1.length<=2:=by
 unfold zY;split
 ·split
  ·simp
  ·exact Lb _ _
 ·simp
theorem an3(d:bQ)(r:eD)(c:kM)(hl:r.aR.length<=1000000)(hc:yP c)(hs:d.st.length<=1000000)(h2:d.ca.length+(c.writes.length+3)*4096<=900000)(hd:DA d)(hw:∀w∈c.writes,∀s∈w.2.2,kL s):PC 66 [.agg (bD d),.agg (cC r),.agg (iO c)] (D9 (wK d r c)):=by
 refine iZ func66 ntmps66 (by simp only[go_sem,cC]) ?_
 have c1:=ai6 d r c.number hl hs oM hd.new
 have PM:(dZ d r c.number).1.aR.length<=1000000:=by
  rcases am5 d r c.number with h|h<;>rw[h]
  ·exact hl
  ·exact qV _
 have c2:=al0 (dZ d r c.number).1 c PM hc;have U5:=am4 d r c.number;have tG:=am2 (dZ d r c.number).1 c;have Lc:=an1 (dZ d r c.number).1 c
 have Ld:DB ((dZ d r c.number).2.1++(kX (dZ d r c.number).1 c).1):=fun o ho=>by
  rcases qW.1 ho with ho|ho
  ·exact am0 d r c.number o ho
  ·exact am1 _ c hw o ho
 have rA:∀o∈(dZ d r c.number).2.1++(kX (dZ d r c.number).1 c).1,o.2.2.length<=1000000:=fun o ho=>by
  rcases qW.1 ho with ho|ho
  ·exact am9 d r c.number o ho
  ·exact an0 _ c hc.2.2 o ho
 have c3:=Kr d ((dZ d r c.number).2.1++(kX (dZ d r c.number).1 c).1) hs (by rw[cU];omega)
 have hx:=al2 hd Ld;have c4:=ai7 (fQ d ((dZ d r c.number).2.1++(kX (dZ d r c.number).1 c).1)).1 (dZ d r c.number).1 PM oM (by have:=hx.2.2;rw[cU]at this;omega) hx.1.new
 have hel:=an2 (fQ d ((dZ d r c.number).2.1++(kX (dZ d r c.number).1 c).1)).1 (dZ d r c.number).1;have c7:=KX;unfold iK cC at c7;obtain⟨M,hM⟩:∃M,wK d r c=M:=⟨_,rfl⟩;rw[hM];rw[am3]at hM;generalize zY (fQ d ((dZ d r c.number).2.1++(kX (dZ d r c.number).1 c).1)).1 (dZ d r c.number).1=E at*;generalize fQ d ((dZ d r c.number).2.1++(kX (dZ d r c.number).1 c).1)=X at*
 generalize kX (dZ d r c.number).1 c=K at*;have HG:c.writes.length<=220:=oM
 clear hx Ld rA hw;by_cases g1:(dZ d r c.number).2.2=0
 ·obtain⟨b1,b2,b3,hb⟩:=am7 d r c.number g1
  rcases hb with⟨b4,hB⟩|⟨b4,b5,b6,hB⟩
  all_goals
   rw[hB]at c2 c3 c4 hM U5
  case' inl=>
   have t1:=am6 d r c.number hl b1 b2 b3 b4
  case' inr=>
   have t1:=ai9 d r c.number hl hs oM hd.new b1 b2 b3 b4 b5 b6
   have PN:(iN d r.gQ (gR ⟨r.aR,r.gQ,r.data,r.dY,r.dK,c.number⟩)).1.length=2:=YX b6;generalize (iN d r.gQ (gR ⟨r.aR,r.gQ,r.data,r.dY,r.dK,c.number⟩)).1=B2 at*;clear b5 b6;have hT1:List.take (2+K.1.length) (aB aH (B2++K.1))=aB aH (B2++K.1):=cN (by rw[fK,cU];omega)
   have hT3:List.take (2+K.1.length+E.2.1.length) (B2++K.1++E.2.1)=B2++K.1++E.2.1:=cN (by rw[cU,cU];omega)
   have hT2:List.take (2+K.1.length) (B2++K.1)=B2++K.1:=cN (by rw[cU];omega)
  all_goals
   unfold Z4 iK at hM;clear c1 hd g1 hB b1 b2 b3 b4 hc;obtain⟨cb,cn,ct,Ky,cw⟩:=c;obtain⟨sz,sp,dt,ep,ap,ag⟩:=r;obtain⟨K1,K2⟩:=K;obtain⟨⟨xs,xc⟩,X2,X3⟩:=X;obtain⟨⟨f1,f2,f3,f4,f5,f6⟩,E2,E3⟩:=E;obtain⟨st,ca⟩:=d;unfold D9 at*;unfold cC iO bD at*;simp only[]at*;simp only[if_true]at hM;by_cases g2:K2=0
   ·rw[if_pos g2]at hM
    subst g2;have hk3:=Lc rfl;clear Lc;by_cases g3:X3=0
    ·rw[if_pos g3]at hM
     subst g3;by_cases g4:E3=0
     ·rw[if_pos g4]at hM
      subst g4 hM
      (refine aE ?_;exact dS)
     ·rw[if_neg g4]at hM
      subst hM
      (refine aE ?_;exact dS)
    ·rw[if_neg g3]at hM
     subst hM
     (refine aE ?_;exact dS)
   ·rw[if_neg g2]at hM
    subst hM;refine aE ?_;exact dS
 ·unfold Z4 iK at hM
  rw[if_neg g1]at hM;subst hM;clear c2 c3 c4 hc hd;generalize dZ d r c.number=B at*;obtain⟨⟨f1,f2,f3,f4,f5,f6⟩,E2,E3⟩:=B;obtain⟨cb,cn,ct,Ky,cw⟩:=c;unfold cC iO bD at*;unfold D9 cC at*;simp only[]at*;refine aE ?_;exact dS
theorem Le(a b:List Int):sum (a++b)=sum a+sum b:=by
 induction a with
 |nil=>simp[sum]
 |cons x a ih=>rw[BB,sum_cons,sum_cons,ih];omega
end Go.Proofs.YtpaomccedbjknaaGreatDoor
namespace Go.Proofs.YtpaomccedbjknaaGreatDoor
open Go.Proofs Go.AL Go.RowKit Go.Maps
open Go.WideElems (Fit rd rg pl)
section
variable {G : Nat -> Option aI} {N : Nat} {ca : List (Int × aQ)} {es : List (Value × AV)} {ks : List Int} {idf : Int -> Nat}
end
theorem an6(l:List (Nat×Option aI)):bN l=fU (fun _=>none) l:=by
 funext k
 show pN k l=lG (fun _=>none) k l
 induction l with
 |nil=>rfl
 |cons p r ih=>
  obtain⟨i,x⟩:=p;simp only[pN,lG];rw[ih]
end Go.Proofs.YtpaomccedbjknaaGreatDoor
namespace Go.Proofs.YtpaomccedbjknaaGreatDoor
open Go.Proofs Go.AL Tryz
set_option maxRecDepth 100000
set_option maxHeartbeats 8000000
attribute [local irreducible] bT AW b8 cF dB hold
theorem vG{σ:AS}{env:List (Nat×Bool×AV)}{N:Nat}{G:Nat->Option aI}{T:List (Nat×Option aI)}(w:Holds σ env ⟨N,fU G T⟩:=by
  ((repeat (refine tE (by first|rfl|(simp(disch:=omega) only[go_sem, *];done)|(simp(disch:=omega) only[go_sem, *];rfl)) ?_));(refine holds_nil (by simp only[];omega) ?_);(refine Z5 (by assumption) ?_ ?_);(next=>((repeat (first|refine Z6 (by first|rfl|(simp(disch:=omega) only[go_sem, *];done)|(simp(disch:=omega) only[go_sem, *];rfl)) ?_|refine Z7 ?_));exact U6));(next=>(simp only[F4,HH,or_false,false_or,or_true,true_or,and_true,true_and,cA]<;>omega)))):Holds σ env ⟨N,fU G T⟩:=w
abbrev U7:AV:= .c (.slice none 0 0)
def U8(n:Int):bQ×Int:=if n<0\/4096<n then(oP,2)else(⟨jG n,[]⟩,0)
theorem an7(n:Int):PC 11 [zV n] (.aK [.agg (bD (U8 n).1),zV (U8 n).2]):=by
 refine aZ func11 ntmps11 (by simp only[go_sem,bD]) ?_
 obtain⟨M,hM⟩:∃M,U8 n=M:=⟨_,rfl⟩;rw[hM];unfold U8 at hM;by_cases g2:n<0
 ·rw[if_pos oM]at hM
  subst hM;unfold oP bD at*;simp only[]at*;exact zE
 by_cases g3:4096<n
 ·rw[if_pos oM]at hM
  subst hM;unfold oP bD at*;simp only[]at*;exact zE
 rw[if_neg oM]at hM
 subst hM;obtain⟨A,rfl⟩:=xD (by omega:0<=n)
 have hA:A<=4096:=oM
 have hAl:(List.replicate A bS).length=A:=yG ..;have hAt:(List.replicate A bS).take A=List.replicate A bS:=cN (by simp)
 have e2:aB kD []=[]:=rfl;unfold jG bD at*;rw[sY];simp only[e2]at*;exact zE
end Go.Proofs.YtpaomccedbjknaaGreatDoor
namespace Go.Proofs.YtpaomccedbjknaaGreatDoor
open Go.Proofs Go.AL Tryz
def DC(v:List aQ)(o:Nat)(d:List aQ):List aQ:=v.take o++d++v.drop (o+d.length)
theorem Lf{v:List aQ}{o:Nat}{d:List aQ}(h:o+d.length<=v.length):(DC v o d).length=v.length:=by
 unfold DC;simp only[cU,dX,kR];omega
def HI(im:List (List aQ))(w:bR):List (List aQ):=im.set w.1.toNat (DC (im.getD w.1.toNat []) w.2.1.toNat w.2.2)
def DD:List bR->List (List aQ)->Nat->List (List aQ)×Int×Int
 |[],im,_=>(im,0,0)
 |w::l,im,i=>if lA (bH im) w=0 then DD l (HI im w) (i+1)else([],(i:Int),lA (bH im) w)
def kY(im:List (List aQ))(ws:List bR):List (List aQ)×Int×Int:=
 if cZ (bH im)=0 then DD ws im 0 else([],0,cZ (bH im))
theorem Lg{im:List (List aQ)}{w:bR}(h:lA (bH im) w=0):0<=w.1/\w.1.toNat<im.length/\0<w.2.2.length/\0<=w.2.1/\w.2.1.toNat+w.2.2.length<=(im.getD w.1.toNat []).length:=by
 unfold lA at h;have e:(bH im).length=im.length:=by simp[bH]
 by_cases g1:w.1<0\/((bH im).length:Int)<=w.1
 ·rw[if_pos g1]at h;exact absurd h dE
 rw[if_neg g1]at h;by_cases g2:w.2.2.length=0
 ·rw[if_pos g2]at h;exact absurd h dE
 rw[if_neg g2]at h;by_cases g3:w.2.1<0\/(bH im).getD w.1.toNat 0-w.2.2.length<w.2.1
 ·rw[if_pos g3]at h;exact absurd h dE
 have hi:w.1.toNat<im.length:=oM
 have hv:(bH im).getD w.1.toNat 0=((im.getD w.1.toNat []).length:Int):=by
  simp[bH,hi]
 rw[hv]at g3;exact⟨oM,hi,oM,oM,oM⟩
theorem Z8{im:List (List aQ)}{w:bR}(h:lA (bH im) w=0):bH (HI im w)=bH im:=by
 obtain⟨h1,h2,h3,h4,h5⟩:=Lg h;refine List.ext_getElem (by simp[bH,HI]) fun i hi hj=> ?_
 simp only[bH,HI,List.getElem_map,List.getElem_set];split
 ·rename_i e
  subst e;rw[Lf h5];simp[h2]
 ·rfl
theorem Lh:∀(ws:List bR) (im:List (List aQ)) (i:Nat),(DD ws im i).2.2=0->bH (DD ws im i).1=bH im
 |[],im,i,_=>rfl
 |w::l,im,i,h=>by
  unfold DD at h⊢;by_cases g:lA (bH im) w=0
  ·rw[if_pos g]at h⊢
   rw[Lh l _ _ h,Z8 g]
  ·rw[if_neg g]at h
   exact absurd h g
end Go.Proofs.YtpaomccedbjknaaGreatDoor
namespace Go.Proofs.YtpaomccedbjknaaGreatDoor
open Go.Proofs Go.AL Tryz
set_option maxRecDepth 100000
set_option maxHeartbeats 8000000
attribute [local irreducible] bT AW b8 cF dB hold
def DE(v:List aQ):aI:= .cells 67 8 (aB aP v) true true
def lH(ids:List Nat)(im:List (List aQ)):List (List AV):=List.zipWith (fun id v=> [AV.own id 0 v.length]) ids im
structure vH(G:Nat->Option aI)(N:Nat)(im:List (List aQ))(ids:List Nat):Prop where
 len:ids.length=im.length
 nd:ids.Nodup
 HJ:∀q∈ids,q<N
 get:∀i,i<im.length->G (ids.getD i 0)=some (DE (im.getD i []))
theorem PO{ids:List Nat}{i:Nat}(h:i<ids.length):ids.getD i 0∈ids:=eB 0 h
theorem an8{ids:List Nat}(hn:ids.Nodup){i j:Nat}(hi:i<ids.length)(hj:j<ids.length)(h:ids.getD i 0=ids.getD j 0):i=j:=by
 have h1:ids[i]=ids[j]:=by simpa[hi,hj]using h
 exact(List.getElem_inj hn).1 h1
theorem vH.nil{G:Nat->Option aI}{N:Nat}:vH G N [] []:=⟨rfl,Zc,fun q h=>by simp at h,fun i h=>by simp at h⟩
theorem vH.snoc{G G':Nat->Option aI}{N N' m:Nat}{im:List (List aQ)}{ids:List Nat}(h:vH G N im ids)(v:List aQ)(hm:N<=m)(hN:m<N')(nU:G' m=some (DE v))(hold:∀q∈ids,G' q=G q):vH G' N' (im++[v]) (ids++[m]):=by
 refine⟨by simp[h.len],List.nodup_append.2 ⟨h.nd,by simp,fun a ha b hb=> ?_⟩,fun q hq=> ?_,fun i hi=> ?_⟩
 ·simp at hb;subst hb
  have:=h.HJ a ha;omega
 ·rcases qW.1 hq with h1|h1
  ·have:=h.HJ q h1;omega
  ·simp at h1;omega
 ·by_cases bG:i<im.length
  ·have h1:i<ids.length:=by rw[h.len];exact bG
   rw[rL,rM h1,<-rL,rL (l:=im++[v]),rM bG,<-rL,hold _ (PO h1)];exact h.get i bG
  ·have:i=im.length:=by simp at hi;omega
   subst this;have e1:(ids++[m]).getD im.length 0=m:=by rw[<-h.len];simp
   have e2:(im++[v]).getD im.length []=v:=by simp
   rw[e1,e2];exact nU
theorem vH.put{G G':Nat->Option aI}{N N':Nat}{im:List (List aQ)}{ids:List Nat}(h:vH G N im ids){i:Nat}(hi:i<im.length)(v:List aQ)(hN:N<=N')(nU:G' (ids.getD i 0)=some (DE v))(hold:∀q∈ids,q≠ids.getD i 0->G' q=G q):vH G' N' (im.set i v) ids:=by
 have wI:i<ids.length:=by rw[h.len];exact hi
 refine⟨by simp[h.len],h.nd,fun q hq=>by have:=h.HJ q hq;omega,fun j hj=> ?_⟩
 have Li:j<im.length:=by simpa using hj
 have DF:j<ids.length:=by rw[h.len];exact Li
 by_cases kZ:i=j
 ·subst kZ
  rw[nU];simp[hi]
 ·have aT:ids.getD j 0≠ids.getD i 0:=fun e=>kZ (an8 h.nd DF wI e).symm
  rw[hold _ (PO DF) aT,h.get j Li];congr 2;simp[Ii kZ]
theorem U9{ids:List Nat}{im:List (List aQ)}(h:ids.length=im.length):(lH ids im).length=im.length:=by simp[lH,h]
theorem Lj{ids:List Nat}{im:List (List aQ)}(h:ids.length=im.length){i:Nat}(hi:i<im.length):(lH ids im)[i]? =some [.own (ids.getD i 0) 0 (im.getD i []).length]:=by
 have h2:i<ids.length:=oM
 unfold lH;rw[List.getElem?_zipWith,gY h2,gY hi];simp[h2,hi]
theorem an9{ids:List Nat}{im:List (List aQ)}(h:ids.length=im.length)(m:Nat)(v:List aQ):lH ids im++[[.own m 0 v.length]]=lH (ids++[m]) (im++[v]):=by
 simp[lH,List.zipWith_append h]
theorem ao0{ids:List Nat}{im:List (List aQ)}{i:Nat}{v:List aQ}(hl:v.length=(im.getD i []).length):lH ids (im.set i v)=lH ids im:=by
 refine ET fun j=> ?_
 simp only[lH,List.getElem?_zipWith];by_cases kZ:i=j
 ·subst kZ
  by_cases hi:i<im.length
  ·simp[hi]at hl⊢
   cases ids[i]? <;>simp[hl]
  ·rw[ES (l:=im.set i v) (by rw[GR];omega),ES (l:=im) oM]
 ·rw[Ii kZ]
theorem vH.exp{G:Nat->Option aI}{N:Nat}{im:List (List aQ)}{ids:List Nat}(h:vH G N im ids){F:Nat->Option aI}{o:Nat}(k:Nat){t:TypeId}{w a:Bool}(ho:F o=some (.cells t 1 (lH ids im) w a))(hF:∀q∈ids,F q=G q):bJ F (k+3) (.own o 0 im.length)= .snap (aB bA im):=by
 have hl:=U9 h.len
 have e0:rowsOf F (.own o 0 im.length)=some (lH ids im,[o]):=by
  simp only[rowsOf,ho,hl];rw[if_pos oM,sZ,cN oM]
 have e1:∀i,i<im.length->bJ F (k+2) (.own (ids.getD i 0) 0 (im.getD i []).length)= .snap (aB aP (im.getD i [])):=fun i hi=>by
  have h2:i<ids.length:=by rw[h.len];exact hi
  have e2:rowsOf F (.own (ids.getD i 0) 0 (im.getD i []).length)=some (aB aP (im.getD i []),[ids.getD i 0]):=by
   simp only[rowsOf,hF _ (PO h2),h.get i hi,DE,fK];rw[if_pos oM,sZ,cN (by rw[fK];omega)]
  rw[bJ,e2];simp only[]
  rw[KQ (f:=aP) (fun s x hx=>by
   simp only[aP,dJ,iI,or_false]at hx
   rcases hx with rfl|rfl|rfl|rfl|rfl|rfl|rfl|rfl<;>exact⟨_,rfl⟩)]
 rw[bJ,e0];simp only[];congr 1;refine ET fun i=> ?_
 rw[kJ];by_cases hi:i<im.length
 ·rw[Lj h.len hi]
  simp only[zQ,qE,GU,e1 i hi];rw[gV im i hi];rfl
 ·rw[ES (by rw[hl];omega),ES (by rw[fK];omega)]
  rfl
end Go.Proofs.YtpaomccedbjknaaGreatDoor
