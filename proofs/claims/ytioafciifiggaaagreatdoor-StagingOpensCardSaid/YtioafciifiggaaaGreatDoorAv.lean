/- Staging. No condition. -/
import Derived.Test.YtioafciifiggaaaGreatDoorL0
import Derived.Test.YtioafciifiggaaaGreatDoorAu
import Derived.Test.YtioafciifiggaaaGreatDoorLg
import Derived.Test.YtioafciifiggaaaGreatDoorAt
import Derived.Test.YtioafciifiggaaaGreatDoorAs
set_option linter.all false
namespace Go.Proofs.YtioafciifiggaaaGreatDoor
open Go.Proofs Go.RowKit Go.AL
set_option maxRecDepth 100000
def as5(W:World)(b n i:Nat)(cur:Array Value)(xl:List Value)(e:Ending)(w':World):Prop:=
 ∃(B c':Nat) (C:Array Value),e= .returned (.slice (some ⟨B,0,none⟩) (n+1) c')/\n+1<=c'/\c'*7<=C.size/\C.toList.take ((n+1)*7)=cur.toList.take (i*7)++xl++(cur.toList.take (n*7)).drop (i*7)/\
  w'.os=W.os/\w'.tape=W.tape/\w'.output=W.output/\w'.heap[B]? =some (.cells C 64 (0,0))/\(B=b\/W.heap.size<=B)/\W.heap.size<=w'.heap.size/\(∀k,k<W.heap.size->k≠b->w'.heap[k]? =W.heap[k]?)/\∃dQ,w'.heap[b]? =some (.cells dQ 64 (0,0))/\dQ.size=cur.size
theorem as6(b n c i vb vc:Nat)(cur x:Array Value)(xl:List Value)(tx:TypeId)(W:World)(hi:i<n)(wD:n<=c)(hc:c*7<=cur.size)(pC:xl.length=7)(FJ:∀(j:Nat) (v:Value),xl[j]? =some v->x[j]? =some v)(LR:vb≠b)(LS:n<=1000000)
  (hb:W.heap[b]? =some (.cells cur 64 (0,0))) (hv:W.heap[vb]? =some (.cells x tx (0,0))) (LU:∀v∈cur.toList.take (n*7),v.oneCell'=true) (LV:∀v∈xl,v.oneCell'=true):
  Calls Tryz.prog 200 #[.slice (some ⟨b,0,none⟩) n c,.int .i64 i,.slice (some ⟨vb,0,none⟩) 1 vc] W (as5 W b n i cur xl):=by
 have I7:b<W.heap.size:=(jB.1 hb).1;by_cases AI:n+1<=c
 ·refine(ar2 b n c i vb vc cur x xl tx W hi AI hc pC FJ LR LS hb hv LU LV).mono fun e w' ⟨h1,h2⟩=> ?_
  have j7:cur.toList.length=cur.size:=by simp
  have e1:(cur.toList.take (i*7)).length=i*7:=by rw[eD,j7];omega
  have e2:((cur.toList.take (n*7)).drop (i*7)).length=(n-i)*7:=by
   rw[fX,eD,j7];omega
  have e3:(cur.toList.take (i*7)++xl++(cur.toList.take (n*7)).drop (i*7)).length=(n+1)*7:=by rw[cP,cP,e1,pC,e2];omega
  have DD:W.drew.heap[b]? =some (.cells cur 64 (0,0)):=hb
  have hs:((cur.toList.take (i*7)++xl++(cur.toList.take (n*7)).drop (i*7))++cur.toList.drop ((n+1)*7)).toArray.size=cur.size:=by
   rw[PE,cP,e3,fX,j7];omega
  subst h2;refine⟨b,c,_,h1,AI,by rw[hs];exact hc,?_,rfl,rfl,rfl,setRow_heap W.drew b cur _ _ _ DD,.inl rfl,by rw[setRow_size];exact cA _,fun k hk aM=>setRow_other W.drew b k _ aM,_,setRow_heap W.drew b cur _ _ _ DD,hs⟩
  simp only[Z1];rw[Z2 (by rw[e3];exact cA _),cR (by rw[e3];exact cA _)]
 ·refine(ar7 b n c i vb vc cur x xl 64 tx W hi wD (by omega) (by omega) pC FJ LS hb hv LU LV).mono fun e w' ⟨c',C,h1,h2,h3,h4,h5,h6,h7,h8,h9,cO⟩=> ?_
  exact⟨W.heap.size,c',C,h1,h2,h3,h4,h5,h6,h7,cO,.inr (cA _),by omega,fun k hk _=>h8 k hk,cur,by rw[h8 b I7];exact hb,rfl⟩
def FK(rows:List (List AV))(i:Nat)(row:List AV):List (List AV):=rows.take i++[row]++rows.drop i
theorem as7{H:Heap}{id id2 i:Nat}{rows:List (List AV)}{row:List AV}{w2 a2:Bool}(aM:id2≠id)(hg:H.get id=some (.cells 64 7 rows true true))(DJ:H.get id2=some (.cells 64 7 [row] w2 a2))(hi:i<rows.length)(LS:rows.length<=1000000)
  (eM:rows.all (fun r=>r.length==7&&r.all AV.one)=true) (Bs:[row].all (fun r=>r.length==7&&r.all AV.one)=true):
  gX Tryz.prog 200 [.own id 0 rows.length,zV i,.own id2 0 1] H fun r H'=>r= .own H.next 0 (rows.length+1)/\H'=⟨H.next+1,aS H.get [(id,none),(H.next,some (.cells 64 7 (FK rows i row) true true))]⟩:=by
 refine⟨by kernel_rfl,fun E W vs hH hr=> ?_⟩
 obtain⟨AJ,Bt⟩:=hH.core.ok id _ hg;obtain⟨Nt,as8⟩:=hH.core.ok id2 _ DJ;have gU:¬E.U H.next:=fun h=>KX _ (hH.next _ h)
 obtain⟨b1,b2,⟨cur,b3,b4,b5⟩,b6,b7⟩:=Bt;obtain⟨d1,d2,⟨x,d3,d4,d5⟩,-,-⟩:=as8;have kX:=(b6 rfl).1;have LR:E.ι id2≠E.ι id:=(b6 rfl).2 id2 _ aM DJ
 obtain⟨v0,v1,v2,rfl⟩:∃v0 v1 v2,vs=[v0,v1,v2]:=by
  have hl:=hr.1
  match vs,hl with
  |[a,b,c],_=>exact⟨a,b,c,rfl⟩
 have r0:=hr.2 0 _ v0 rfl rfl;have r1:=hr.2 1 _ v1 rfl rfl;have r2:=hr.2 2 _ v2 rfl rfl;have nF:v1= .int .i64 i:=by cases r1;rfl
 subst nF
 have eH:rowsOf H.get (.own id 0 rows.length)=some (rows,[id]):=by
  simp only[rowsOf,hg,sN,cA,if_true,tH,l4]
 have as9:rowsOf H.get (.own id2 0 1)=some ([row],[id2]):=by
  simp[rowsOf,DJ]
 have at0:rows≠[]:=fun h=>by rw[h]at hi;simp at hi
 obtain⟨q0,p0,FL,DK,news,n1,n2,n3,n4⟩:=LX hH.core r0 eH at0 (k:=7) eM;obtain⟨q2,p2,xP,oC,xl,m1,m2,m3,m4⟩:=LX hH.core r2 as9 (by simp) (k:=7) Bs
 rcases(tO r0).2 with⟨cap,AE,eA,dQ,e,f,h4,h5⟩|⟨mZ,a,rfl⟩
 case inr=>omega
 rcases(tO r2).2 with⟨at1,eZ,bH0,x',e2,f2,h6,h7⟩|⟨mZ,a,rfl⟩
 case inr=>omega
 rw[b3]at h4;injection h4 with h4
 injection h4 with h4 h4e h4f
 subst h4;rw[b1,sN]at h5;rw[AE]at DK;rw[eZ]at oC;injection DK with DK _ bH3
 injection DK with DK
 injection DK with at2 Nu
 injection oC with oC _ bH4
 injection oC with oC
 injection oC with at3 Nv
 rw[BQ]at Nu Nv AE eZ;subst at2 Nu at3 Nv AE eZ;have j7:cur.toList.length=cur.size:=by simp
 have AK:cur.toList.take (rows.length*7)=news:=by
  refine BS fun j=> ?_
  by_cases hj:j<rows.length*7
  ·have h8:j<news.length:=by rw[n1];exact hj
   have h9:=n2 j _ (fU h8);rw[sN]at h9;rw[gF,if_pos hj,fU h8,<-h9];simp[World.cell?,b3]
  ·rw[ET (by rw[eD];omega),ET (by omega)]
 have FJ:∀(j:Nat) (v:Value),xl[j]? =some v->x[j]? =some v:=fun j v hj=>by
  have h9:=m2 j v hj;rw[sN]at h9;simpa[World.cell?,d3]using h9
 have pC:xl.length=7:=by rw[m1];rfl
 refine(as6 (E.ι id) rows.length cap i (E.ι id2) at1 cur x xl 64 W hi eA h5 pC FJ LR LS b3 d3 (fun v hv=>n3 v (by rw[AK]at hv;exact hv)) m3).mono fun e' W' ⟨B,c',C,he,sB,DL,hC,ho,ht,hou,hB,VW,dX,hold,at5,at6,at7⟩=> ?_
 rw[AK]at hC
 let E':Env:=⟨fun q=>if q=H.next then B else E.ι q,fun q=>if q=H.next then 7 else E.sz q,fun q=>E.U q\/q=H.next,E.L⟩
 have dY:∀q,E.U q->E'.ι q=E.ι q:=fun q aC=>by
  show(if q=H.next then _ else _)=_
  rw[if_neg];rintro rfl;exact gU aC
 have hs:∀q,E.U q->E'.sz q=E.sz q:=fun q aC=>by
  show(if q=H.next then _ else _)=_
  rw[if_neg];rintro rfl;exact gU aC
 have iX:E'.ι H.next=B:=by show(if H.next=H.next then _ else _)=_;rw[if_pos rfl]
 have fW:E'.sz H.next=7:=by show(if H.next=H.next then _ else _)=_;rw[if_pos rfl]
 have hbW:E.ι id<W.heap.size:=hH.core.eX id AJ
 have Nw:E.L B=0:=by
  rcases VW with h|h
  ·rw[h];exact kX
  ·exact hH.core.lim B h
 have z8:bD E W E' W':=by
  refine⟨ho,ht,hou,dX,fun q h=> .inl h,fun q aC=>⟨dY q aC,hs q aC⟩,fun _=>cA _,fun k j hj=> ?_,fun k hk hf=>hold k hk fun h=>hf id AJ h.symm,fun k cu el fr hk=> ?_,fun _ _ _=>rfl,fun q h1 h2=> ?_,fun k r hk=> ?_⟩
  ·have h8:k<W.heap.size:=by
    rcases lU k W.heap.size with h|h
    ·exact h
    ·have:=hH.core.lim k h;omega
   have h9:k≠E.ι id:=fun h=>by rw[h,kX]at hj;omega
   unfold World.cell?;simp only[hold k h8 h9]
  ·by_cases h9:k=E.ι id
   ·subst h9
    rw[b3]at hk;injection hk with hk
    injection hk with xQ kP hk3
    subst xQ kP;exact⟨at5,_,at6,at7⟩
   ·exact⟨cu,fr,by rw[hold k (jB.1 hk).1 h9];exact hk,rfl⟩
  ·rcases h2 with h2|h2
   ·exact absurd h2 h1
   ·subst h2
    rw[iX];rcases VW with h|h
    ·exact .inr ⟨id,AJ,h.symm⟩
    ·exact .inl h
  ·have h9:k≠E.ι id:=fun h=>by rw[h,b3]at hk;cases hk
   exact⟨r,by rw[hold k (jB.1 hk).1 h9];exact hk,rfl⟩
 have QS:∀q bk,q≠id->H.get q=some bk->E.ι q≠E.ι id:=fun q bk hq sU=>(b6 rfl).2 q bk hq sU
 have AM:∀q bk,q≠id->H.get q=some bk->E'.ι q≠B:=fun q bk hq sU heq=>by
  have hU:=(hH.core.ok q bk sU).1;rw[dY q hU]at heq;rcases VW with h|h
  ·rw[h]at heq
   exact QS q bk hq sU heq
  ·have:=hH.core.eX q hU
   omega
 have bX:∀q bk,q≠H.next->aS H.get [(id,none),(H.next,some (.cells 64 7 (FK rows i row) true true))] q=some bk->q≠id/\H.get q=some bk:=fun q bk hq sU=>by
  simp only[aS,if_neg hq]at sU;by_cases AN:q=id
  ·rw[if_pos AN]at sU;cases sU
  ·rw[if_neg AN]at sU;exact⟨AN,sU⟩
 have hlen:(FK rows i row).length=rows.length+1:=by
  unfold FK;simp;omega
 have Nf:cur.toList.take (i*7)=news.take (i*7):=by
  rw[<-AK,Yp];congr 1;omega
 rw[Nf]at hC
 have Bu:∀q,q<(rows.length+1)*7->C[q]? =(news.take (i*7)++xl++news.drop (i*7))[q]? :=fun q hq=>by
  rw[<-hC,gF,if_pos hq];simp
 have e1:(news.take (i*7)).length=i*7:=by rw[eD,n1];omega
 have bH:∀(j:Nat) r,(FK rows i row)[j]? =some r->r.length=7/\∀(z:Nat) a,r[z]? =some a->∃u,C[j*7+z]? =some u/\RV E W a u:=fun j r hj=>by
  have oS:j<rows.length+1:=by rw[<-hlen];exact(dS.1 hj).1
  have f1:(rows.take i).length=i:=by rw[eD];omega
  unfold FK at hj;rcases TZ j i with h|h|h
  ·rw[kA,lT (by omega),gF,if_pos h]at hj
   refine⟨b2 j r hj,fun z a hz=> ?_⟩
   have Nx:z<7:=by rw[<-b2 j r hj];exact(dS.1 hz).1
   obtain⟨u,h1,h2⟩:=n4 j z r a hj hz;refine⟨u,?_,h2⟩;rw[Bu _ (by omega),kA,lT (by omega),gF,if_pos (by omega)]
   exact h1
  ·subst h
   rw[kA,lD (by omega),f1,tG]at hj
   simp only[P8,mK,bB]at hj;subst hj;have Ny:row.length=7:=by simp at Bs;exact Bs.1
   refine⟨Ny,fun z a hz=> ?_⟩
   have Nx:z<7:=by rw[<-Ny];exact(dS.1 hz).1
   obtain⟨u,h1,h2⟩:=m4 0 z row a rfl hz;refine⟨u,?_,h2⟩;rw[Bu _ (by omega),kA,lD (by omega),e1,lT (by omega)]
   rw[show j*7+z-j*7=0*7+z by omega]
   exact h1
  ·rw[lD (by rw[cP,f1];simp;omega),cP,f1,m9]at hj
   simp only[eI,gL]at hj;rw[show i+(j-(i+(0+1)))=j-1 by omega]at hj
   refine⟨b2 _ r hj,fun z a hz=> ?_⟩
   have Nx:z<7:=by rw[<-b2 _ r hj];exact(dS.1 hz).1
   obtain⟨u,h1,h2⟩:=n4 (j-1) z r a hj hz;refine⟨u,?_,h2⟩;rw[Bu _ (by omega),lD (by rw[cP,e1,pC];omega),cP,e1,pC,m9]
   rw[show i*7+(j*7+z-(i*7+7))=(j-1)*7+z by omega]
   exact h1
 refine⟨_,he,E',_,⟨H.next+1,_⟩,z8,⟨fun q hq=> ?_,⟨fun k hk=>hH.core.lim k (by omega),fun q hq=> ?_,fun q bk sU=> ?_⟩⟩,?_,rfl,rfl⟩
 ·rcases hq with hq|hq
  ·exact PF (hH.next q hq)
  ·subst hq;exact D4 _
 ·rcases hq with hq|hq
  ·rw[dY q hq];exact vQ (hH.core.eX q hq) dX
  ·subst hq;rw[iX];exact(jB.1 hB).1
 ·by_cases aC:q=H.next
  ·subst aC
   simp only[aS]at sU;rw[if_pos trivial]at sU;injection sU with sU
   subst sU;refine⟨.inr rfl,fW,fun j r hj=>(bH j r hj).1,⟨C,by rw[iX];exact hB,by rw[hlen];exact uA (mU 7 sB) DL,fun j z r a h1 h2=> ?_⟩,fun _=>⟨by rw[iX];exact Nw,fun aK b' lZ dA heq=> ?_⟩,fun _=>⟨by rw[iX];show E.L _<=_;rw[Nw];exact mT _,fun aK b' lZ dA heq=> ?_⟩⟩
   ·obtain⟨u,h3,h4⟩:=(bH j r h1).2 z a h2
    exact⟨u,h3,h4.mono z8⟩
   ·rw[iX]at heq
    obtain⟨h1,h2⟩:=bX aK b' lZ dA;exact AM aK b' h1 h2 heq
   ·rw[iX]at heq
    obtain⟨h1,h2⟩:=bX aK b' lZ dA;exact absurd heq (AM aK b' h1 h2)
  ·obtain⟨AN,hb⟩:=bX q bk aC sU
   obtain⟨hU,cK⟩:=hH.core.ok q bk hb;have FM:=QS q bk AN hb;refine⟨.inl hU,cK.mono z8 hU (hold _ (hH.core.eX q hU) FM) rfl fun aK b' lZ dA heq=> ?_⟩
   by_cases uZ:aK=H.next
   ·subst uZ
    rw[iX]at heq;rcases VW with h|h
    ·rw[h]at heq;exact absurd heq.symm FM
    ·have:=hH.core.eX q hU
     omega
   ·obtain⟨h1,h2⟩:=bX aK b' uZ dA
    exact⟨b',h2,by rw[<-heq,dY aK (hH.core.ok aK b' h2).1],rfl,fun h=>h⟩
 ·have h6:=RV.own (E:=E') (W:=W') H.next 0 (rows.length+1) c' (.inr rfl) sB (by rw[iX,fW];exact⟨C,_,_,hB,by rw[sN];exact DL⟩)
  rw[iX,fW,BQ]at h6;exact h6
end Go.Proofs.YtioafciifiggaaaGreatDoor
namespace Go.Proofs.YtioafciifiggaaaGreatDoor
open Go.Proofs Go.AL
set_option maxRecDepth 100000
set_option maxHeartbeats 1000000
attribute [local irreducible] cB AW aX cZ dK hold deriving instance DecidableEq for mO
def qH(n:Int):Nat->List Int
 |0=> []
 |k+1=>(n % 256)::qH (n/256) k
theorem I9:∀(k:Nat) (n:Int),(qH n k).length=k
 |0,_=>rfl
 |k+1,n=>by rw[qH,eI,I9 k]
theorem Nz:∀(k:Nat) (n:Int),∀x∈qH n k,aV x
 |0,_,x,h=>by simp[qH]at h
 |k+1,n,x,h=>by
  rw[qH]at h;rcases fB.1 h with rfl|h
  ·unfold aV;omega
  ·exact Nz k _ x h
def qI(k:Int)(p:List Int):List Int:=k::qH p.length 2++p
def FN(k:Int)(p:List Int):List Int:=qI k p++qH (eO (qI k p)) 4
def VX(s:Int)(l:List Int):aY:=((s % 256,s/256 % 256,s/256/256 % 256,s/256/256/256 % 256),(l.getD 0 0,l.getD 1 0,l.getD 2 0,l.getD 3 0))
def wE(k s:Int)(p:List Int):List aY×Int:=
 if k<1\/255<k\/s<1\/4294967295<s then([],2)
 else if 4096<p.length then([],5)
 else((List.range (xG (FN k p).length 4)).map fun i=>VX s (kH (FN k p) 4 i),0)
def FP(start n p:Int)(l:List aY):List iC:=
 if n-p<l.length then [(0,start+16+p,l.take (n-p).toNat),(0,start+16,l.drop (n-p).toNat)]else [(0,start+16+p,l)]
def CD(j:Jr)(k:Int)(p:List Int):Jr×List iC×Int:=
 if jE j=0 then
  if(wE k (jN j) p).2=0 then
   if 1073741824<=jN j then(l7,[],6)
   else if j.count-16-j.cD.sum<(wE k (jN j) p).1.length then(l7,[],11)
   else(⟨j.start,j.count,j.head,(j.tail+(wE k (jN j) p).1.length) % (j.count-16),j.first,j.cD++[((wE k (jN j) p).1.length:Int)]⟩,FP j.start (j.count-16) j.tail (wE k (jN j) p).1++[(1,0,[])],0)
  else(l7,[],(wE k (jN j) p).2)
 else(l7,[],3)
def pD(l:List bI)(x:bI):List bI:=
 if iW l x.number=true then l.set (bE l x.number) x else l.take (bE l x.number)++x::l.drop (bE l x.number)
def jT(a:mO)(r:List Int)(c:Bool):bI:=⟨a.number,a.parts,a.sum,a.cI,a.seen,r,c⟩
def FQ(s:l8)(k:Int)(p:List Int)(x:bI):l8×List iC×Int:=
 if(CD s.j k p).2.2=0 then(⟨(CD s.j k p).1,pD s.cN x⟩,(CD s.j k p).2.1,0)else(nI,[],(CD s.j k p).2.2)
def wF(s:l8)(p:List Int):l8×List iC×Int:=
 if s7 s=0 then
  if(bM p).2=0 then
   if iW s.cN (bM p).1.number=true then
    if(kG (bF (s.cN.getD (bE s.cN (bM p).1.number) b8)) p).2=0 then
     if(kG (bF (s.cN.getD (bE s.cN (bM p).1.number) b8)) p).1=bF (s.cN.getD (bE s.cN (bM p).1.number) b8)then(s,[],0)
     else FQ s 1 p (jT (kG (bF (s.cN.getD (bE s.cN (bM p).1.number) b8)) p).1 ((s.cN.getD (bE s.cN (bM p).1.number) b8).records++[jN s.j]) (s.cN.getD (bE s.cN (bM p).1.number) b8).closed)
    else(nI,[],(kG (bF (s.cN.getD (bE s.cN (bM p).1.number) b8)) p).2)
   else if 1024<=s.cN.length then(nI,[],6)
   else FQ s 1 p (jT (qF p).1 [jN s.j] false)
  else(nI,[],(bM p).2)
 else(nI,[],s7 s)
def xR(s:l8)(n:Int):l8×List iC×Int:=
 if s7 s=0 then
  if iW s.cN n=true then
   if(s.cN.getD (bE s.cN n) b8).closed=true then(s,[],0)
   else if(oA (bF (s.cN.getD (bE s.cN n) b8))).2=0 then
    FQ s 2 (b9 n) (jT (bF (s.cN.getD (bE s.cN n) b8)) ((s.cN.getD (bE s.cN n) b8).records++[jN s.j]) true)
   else(nI,[],(oA (bF (s.cN.getD (bE s.cN n) b8))).2)
  else(nI,[],7)
 else(nI,[],s7 s)
def sV(a c:Int):Jr×List iC×Int:=
 if lV a c=true then
  if(rY a (b9 0++b9 1)).2=0 then(⟨a,c,0,0,1,[]⟩,[(0,a+16,rQ (c-16)),(1,0,[])]++(rY a (b9 0++b9 1)).1,0)
  else(l7,[],(rY a (b9 0++b9 1)).2)
 else(l7,[],2)
def r7(a c:Int):l8×List iC×Int:=
 if(sV a c).2.2=0 then(⟨(sV a c).1,[]⟩,(sV a c).2.1,0)else(nI,[],(sV a c).2.2)
end Go.Proofs.YtioafciifiggaaaGreatDoor
