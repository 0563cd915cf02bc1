/- Target: contracts of its functions (At). No condition but those named. -/
import Derived.Test.YtpaomccedbjknaaGreatDoorAs
import Derived.Test.YtpaomccedbjknaaGreatDoorAr
set_option linter.all false
namespace Go.Proofs.YtpaomccedbjknaaGreatDoor
open Go.Proofs Go.RowKit Go.AL Tryz
set_option maxRecDepth 100000
def aA0(W:World)(b n i:Nat)(cur:Array Value)(xl:List Value)(e:Ending)(w':World):Prop:=
 ∃(B c':Nat) (C:Array Value),e= .returned (.slice (some ⟨B,0,none⟩) (n+1) c')/\n+1<=c'/\c'*7<=C.size/\C.toList.take ((n+1)*7)=cur.toList.take (i*7)++xl++(cur.toList.take (n*7)).drop (i*7)/\
  w'.os=W.os/\w'.tape=W.tape/\w'.output=W.output/\w'.heap[B]? =some (.cells C 192 (0,0))/\(B=b\/W.heap.size<=B)/\W.heap.size<=w'.heap.size/\(∀k,k<W.heap.size->k≠b->w'.heap[k]? =W.heap[k]?)/\∃eS,w'.heap[b]? =some (.cells eS 192 (0,0))/\eS.size=cur.size
theorem aA1(b n c i vb vc:Nat)(cur x:Array Value)(xl:List Value)(tx:TypeId)(W:World)(hi:i<n)(BW:n<=c)(hc:c*7<=cur.size)(pY:xl.length=7)(BU:∀(j:Nat) (v:Value),xl[j]? =some v->x[j]? =some v)(LC:vb≠b)(LD:n<=1000000)
  (hb:W.heap[b]? =some (.cells cur 192 (0,0))) (hv:W.heap[vb]? =some (.cells x tx (0,0))) (LF:∀v∈cur.toList.take (n*7),v.oneCell'=true) (LG:∀v∈xl,v.oneCell'=true):
  Calls prog 243 #[.slice (some ⟨b,0,none⟩) n c,.int .i64 i,.slice (some ⟨vb,0,none⟩) 1 vc] W (aA0 W b n i cur xl):=by
 have I0:b<W.heap.size:=(k7.1 hb).1;by_cases AE:n+1<=c
 ·refine(az1 b n c i vb vc cur x xl tx W hi AE hc pY BU LC LD hb hv LF LG).mono fun e w' ⟨h1,h2⟩=> ?_
  have gZ:cur.toList.length=cur.size:=by simp
  have e1:(cur.toList.take (i*7)).length=i*7:=by rw[dX,gZ];omega
  have e2:((cur.toList.take (n*7)).drop (i*7)).length=(n-i)*7:=by
   rw[kR,dX,gZ];omega
  have e3:(cur.toList.take (i*7)++xl++(cur.toList.take (n*7)).drop (i*7)).length=(n+1)*7:=by rw[cU,cU,e1,pY,e2];omega
  have HS:W.drew.heap[b]? =some (.cells cur 192 (0,0)):=hb
  have hs:((cur.toList.take (i*7)++xl++(cur.toList.take (n*7)).drop (i*7))++cur.toList.drop ((n+1)*7)).toArray.size=cur.size:=by
   rw[OS,cU,e3,kR,gZ];omega
  subst h2;refine⟨b,c,_,h1,AE,by rw[hs];exact hc,?_,rfl,rfl,rfl,setRow_heap W.drew b cur _ _ _ HS,.inl rfl,by rw[setRow_size];exact cA _,fun k hk aT=>setRow_other W.drew b k _ aT,_,setRow_heap W.drew b cur _ _ _ HS,hs⟩
  simp only[Y9];rw[YA (by rw[e3];exact cA _),cN (by rw[e3];exact cA _)]
 ·refine(az5 b n c i vb vc cur x xl 192 tx W hi BW oM oM pY BU LD hb hv LF LG).mono fun e w' ⟨c',C,h1,h2,h3,h4,h5,h6,h7,h8,h9,fG⟩=> ?_
  exact⟨W.heap.size,c',C,h1,h2,h3,h4,h5,h6,h7,fG,.inr (cA _),oM,fun k hk _=>h8 k hk,cur,by rw[h8 b I0];exact hb,rfl⟩
def FD(rows:List (List AV))(i:Nat)(row:List AV):List (List AV):=rows.take i++[row]++rows.drop i
theorem aA2{H:Heap}{id id2 i:Nat}{rows:List (List AV)}{row:List AV}{w2 a2:Bool}(aT:id2≠id)(hg:H.get id=some (.cells 192 7 rows true true))(oY:H.get id2=some (.cells 192 7 [row] w2 a2))(hi:i<rows.length)(LD:rows.length<=1000000)
  (dM:rows.all (fun r=>r.length==7&&r.all AV.one)=true) (Az:[row].all (fun r=>r.length==7&&r.all AV.one)=true):
  fW prog 243 [.own id 0 rows.length,zV i,.own id2 0 1] H fun r H'=>r= .own H.next 0 (rows.length+1)/\H'=⟨H.next+1,aY H.get [(id,none),(H.next,some (.cells 192 7 (FD rows i row) true true))]⟩:=by
 refine⟨by kernel_rfl,fun E W vs hH hr=> ?_⟩
 obtain⟨BX,Ba⟩:=hH.core.ok id _ hg;obtain⟨Oj,aA3⟩:=hH.core.ok id2 _ oY;have gT:¬E.U H.next:=fun h=>KK _ (hH.next _ h)
 obtain⟨b1,b2,⟨cur,b3,b4,b5⟩,b6,b7⟩:=Ba;obtain⟨d1,d2,⟨x,d3,d4,d5⟩,-,-⟩:=aA3;have pF:=(b6 rfl).1;have LC:E.ι id2≠E.ι id:=(b6 rfl).2 id2 _ aT oY
 obtain⟨v0,v1,v2,rfl⟩:∃v0 v1 v2,vs=[v0,v1,v2]:=by
  have hl:=hr.1
  match vs,hl with
  |[a,b,c],_=>exact⟨a,b,c,rfl⟩
 have r0:=hr.2 0 _ v0 rfl rfl;have r1:=hr.2 1 _ v1 rfl rfl;have r2:=hr.2 2 _ v2 rfl rfl;have oD:v1= .int .i64 i:=by cases r1;rfl
 subst oD
 have dP:rowsOf H.get (.own id 0 rows.length)=some (rows,[id]):=by
  simp only[rowsOf,hg,vB,cA,if_true,sZ,gP]
 have aA4:rowsOf H.get (.own id2 0 1)=some ([row],[id2]):=by
  simp[rowsOf,oY]
 have aA5:rows≠[]:=fun h=>by rw[h]at hi;simp at hi
 obtain⟨q0,p0,FE,DO,news,n1,n2,n3,n4⟩:=LH hH.core r0 dP aA5 (k:=7) dM;obtain⟨q2,p2,z6,pT,xl,m1,m2,m3,m4⟩:=LH hH.core r2 aA4 (by simp) (k:=7) Az
 rcases(uJ r0).2 with⟨cap,BR,eI,eS,e,f,h4,h5⟩|⟨mX,a,rfl⟩
 case inr=>omega
 rcases(uJ r2).2 with⟨aA6,fI,bW6,x',e2,f2,h6,h7⟩|⟨mX,a,rfl⟩
 case inr=>omega
 rw[b3]at h4;injection h4 with h4
 injection h4 with h4 h4e h4f
 subst h4;rw[b1,vB]at h5;rw[BR]at DO;rw[fI]at pT;injection DO with DO _ bW9
 injection DO with DO
 injection DO with aA7 Ol
 injection pT with pT _ bX0
 injection pT with pT
 injection pT with aA8 Om
 rw[zR]at Ol Om BR fI;subst aA7 Ol aA8 Om BR fI;have gZ:cur.toList.length=cur.size:=by simp
 have BY:cur.toList.take (rows.length*7)=news:=by
  refine ET fun j=> ?_
  by_cases hj:j<rows.length*7
  ·have h8:j<news.length:=by rw[n1];exact hj
   have h9:=n2 j _ (gY h8);rw[vB]at h9;rw[pK,if_pos hj,gY h8,<-h9];simp[World.cell?,b3]
  ·rw[ES (by rw[dX];omega),ES oM]
 have BU:∀(j:Nat) (v:Value),xl[j]? =some v->x[j]? =some v:=fun j v hj=>by
  have h9:=m2 j v hj;rw[vB]at h9;simpa[World.cell?,d3]using h9
 have pY:xl.length=7:=by rw[m1];rfl
 refine(aA1 (E.ι id) rows.length cap i (E.ι id2) aA6 cur x xl 192 W hi eI h5 pY BU LC LD b3 d3 (fun v hv=>n3 v (by rw[BY]at hv;exact hv)) m3).mono fun e' W' ⟨B,c',C,he,BZ,pR,hC,ho,ht,hou,hB,V9,dO,hold,aB0,aB1,aB2⟩=> ?_
 rw[BY]at hC
 let E':Env:=⟨fun q=>if q=H.next then B else E.ι q,fun q=>if q=H.next then 7 else E.sz q,fun q=>E.U q\/q=H.next,E.L⟩
 have eV:∀q,E.U q->E'.ι q=E.ι q:=fun q aC=>by
  show(if q=H.next then _ else _)=_
  rw[if_neg];rintro rfl;exact gT aC
 have hs:∀q,E.U q->E'.sz q=E.sz q:=fun q aC=>by
  show(if q=H.next then _ else _)=_
  rw[if_neg];rintro rfl;exact gT aC
 have iD:E'.ι H.next=B:=by show(if H.next=H.next then _ else _)=_;rw[if_pos rfl]
 have eR:E'.sz H.next=7:=by show(if H.next=H.next then _ else _)=_;rw[if_pos rfl]
 have hbW:E.ι id<W.heap.size:=hH.core.eJ id BX
 have On:E.L B=0:=by
  rcases V9 with h|h
  ·rw[h];exact pF
  ·exact hH.core.lim B h
 have vP:bE E W E' W':=by
  refine⟨ho,ht,hou,dO,fun q h=> .inl h,fun q aC=>⟨eV q aC,hs q aC⟩,fun _=>cA _,fun k j hj=> ?_,fun k hk hf=>hold k hk fun h=>hf id BX h.symm,fun k cu el fr hk=> ?_,fun _ _ _=>rfl,fun q h1 h2=> ?_,fun k r hk=> ?_⟩
  ·have h8:k<W.heap.size:=by
    rcases qY k W.heap.size with h|h
    ·exact h
    ·have:=hH.core.lim k h;omega
   have h9:k≠E.ι id:=fun h=>by rw[h,pF]at hj;omega
   unfold World.cell?;simp only[hold k h8 h9]
  ·by_cases h9:k=E.ι id
   ·subst h9
    rw[b3]at hk;injection hk with hk
    injection hk with hk1 nT hk3
    subst hk1 nT;exact⟨aB0,_,aB1,aB2⟩
   ·exact⟨cu,fr,by rw[hold k (k7.1 hk).1 h9];exact hk,rfl⟩
  ·rcases h2 with h2|h2
   ·exact absurd h2 h1
   ·subst h2
    rw[iD];rcases V9 with h|h
    ·exact .inr ⟨id,BX,h.symm⟩
    ·exact .inl h
  ·have h9:k≠E.ι id:=fun h=>by rw[h,b3]at hk;cases hk
   exact⟨r,by rw[hold k (k7.1 hk).1 h9];exact hk,rfl⟩
 have QH:∀q bk,q≠id->H.get q=some bk->E.ι q≠E.ι id:=fun q bk hq tK=>(b6 rfl).2 q bk hq tK
 have wP:∀q bk,q≠id->H.get q=some bk->E'.ι q≠B:=fun q bk hq tK heq=>by
  have hU:=(hH.core.ok q bk tK).1;rw[eV q hU]at heq;rcases V9 with h|h
  ·rw[h]at heq
   exact QH q bk hq tK heq
  ·have:=hH.core.eJ q hU
   omega
 have dQ:∀q bk,q≠H.next->aY H.get [(id,none),(H.next,some (.cells 192 7 (FD rows i row) true true))] q=some bk->q≠id/\H.get q=some bk:=fun q bk hq tK=>by
  simp only[aY,if_neg hq]at tK;by_cases xH:q=id
  ·rw[if_pos xH]at tK;cases tK
  ·rw[if_neg xH]at tK;exact⟨xH,tK⟩
 have hlen:(FD rows i row).length=rows.length+1:=by
  unfold FD;simp;omega
 have Nu:cur.toList.take (i*7)=news.take (i*7):=by
  rw[<-BY,Zo];congr 1;omega
 rw[Nu]at hC
 have Bb:∀q,q<(rows.length+1)*7->C[q]? =(news.take (i*7)++xl++news.drop (i*7))[q]? :=fun q hq=>by
  rw[<-hC,pK,if_pos hq];simp
 have e1:(news.take (i*7)).length=i*7:=by rw[dX,n1];omega
 have cS:∀(j:Nat) r,(FD rows i row)[j]? =some r->r.length=7/\∀(z:Nat) a,r[z]? =some a->∃u,C[j*7+z]? =some u/\RV E W a u:=fun j r hj=>by
  have xQ:j<rows.length+1:=by rw[<-hlen];exact(fT.1 hj).1
  have f1:(rows.take i).length=i:=by rw[dX];omega
  unfold FD at hj;rcases Iq j i with h|h|h
  ·rw[nH,rM oM,pK,if_pos h]at hj
   refine⟨b2 j r hj,fun z a hz=> ?_⟩
   have Oo:z<7:=by rw[<-b2 j r hj];exact(fT.1 hz).1
   obtain⟨u,h1,h2⟩:=n4 j z r a hj hz;refine⟨u,?_,h2⟩;rw[Bb _ oM,nH,rM oM,pK,if_pos oM]
   exact h1
  ·subst h
   rw[nH,nI oM,f1,B7]at hj
   simp only[Y1,qX,bM]at hj;subst hj;have Oq:row.length=7:=by simp at Az;exact Az.1
   refine⟨Oq,fun z a hz=> ?_⟩
   have Oo:z<7:=by rw[<-Oq];exact(fT.1 hz).1
   obtain⟨u,h1,h2⟩:=m4 0 z row a rfl hz;refine⟨u,?_,h2⟩;rw[Bb _ oM,nH,nI oM,e1,rM oM]
   rw[show j*7+z-j*7=0*7+z by omega]
   exact h1
  ·rw[nI (by rw[cU,f1];simp;omega),cU,f1,vA]at hj
   simp only[iQ,kT]at hj;rw[show i+(j-(i+(0+1)))=j-1 by omega]at hj
   refine⟨b2 _ r hj,fun z a hz=> ?_⟩
   have Oo:z<7:=by rw[<-b2 _ r hj];exact(fT.1 hz).1
   obtain⟨u,h1,h2⟩:=n4 (j-1) z r a hj hz;refine⟨u,?_,h2⟩;rw[Bb _ oM,nI (by rw[cU,e1,pY];omega),cU,e1,pY,vA]
   rw[show i*7+(j*7+z-(i*7+7))=(j-1)*7+z by omega]
   exact h1
 refine⟨_,he,E',_,⟨H.next+1,_⟩,vP,⟨fun q hq=> ?_,⟨fun k hk=>hH.core.lim k oM,fun q hq=> ?_,fun q bk tK=> ?_⟩⟩,?_,rfl,rfl⟩
 ·rcases hq with hq|hq
  ·exact OT (hH.next q hq)
  ·subst hq;exact KL _
 ·rcases hq with hq|hq
  ·rw[eV q hq];exact tX (hH.core.eJ q hq) dO
  ·subst hq;rw[iD];exact(k7.1 hB).1
 ·by_cases aC:q=H.next
  ·subst aC
   simp only[aY]at tK;rw[if_pos trivial]at tK;injection tK with tK
   subst tK;refine⟨.inr rfl,eR,fun j r hj=>(cS j r hj).1,⟨C,by rw[iD];exact hB,by rw[hlen];exact tA (mO 7 BZ) pR,fun j z r a h1 h2=> ?_⟩,fun _=>⟨by rw[iD];exact On,fun aL b' mY dR heq=> ?_⟩,fun _=>⟨by rw[iD];show E.L _<=_;rw[On];exact qV _,fun aL b' mY dR heq=> ?_⟩⟩
   ·obtain⟨u,h3,h4⟩:=(cS j r h1).2 z a h2
    exact⟨u,h3,h4.mono vP⟩
   ·rw[iD]at heq
    obtain⟨h1,h2⟩:=dQ aL b' mY dR;exact wP aL b' h1 h2 heq
   ·rw[iD]at heq
    obtain⟨h1,h2⟩:=dQ aL b' mY dR;exact absurd heq (wP aL b' h1 h2)
  ·obtain⟨xH,hb⟩:=dQ q bk aC tK
   obtain⟨hU,eC⟩:=hH.core.ok q bk hb;have FF:=QH q bk xH hb;refine⟨.inl hU,eC.mono vP hU (hold _ (hH.core.eJ q hU) FF) rfl fun aL b' mY dR heq=> ?_⟩
   by_cases vQ:aL=H.next
   ·subst vQ
    rw[iD]at heq;rcases V9 with h|h
    ·rw[h]at heq;exact absurd heq.symm FF
    ·have:=hH.core.eJ q hU
     omega
   ·obtain⟨h1,h2⟩:=dQ aL b' vQ dR
    exact⟨b',h2,by rw[<-heq,eV aL (hH.core.ok aL b' h2).1],rfl,fun h=>h⟩
 ·have h6:=RV.own (E:=E') (W:=W') H.next 0 (rows.length+1) c' (.inr rfl) BZ (by rw[iD,eR];exact⟨C,_,_,hB,by rw[vB];exact pR⟩)
  rw[iD,eR,zR]at h6;exact h6
end Go.Proofs.YtpaomccedbjknaaGreatDoor
namespace Go.Proofs.YtpaomccedbjknaaGreatDoor
open Go.Proofs Go.AL Tryz
set_option maxRecDepth 100000
set_option maxHeartbeats 8000000
attribute [local irreducible] bT AW b8 cF dB hold deriving instance DecidableEq for oX
def rD(n:Int):Nat->List Int
 |0=> []
 |k+1=>(n % 256)::rD (n/256) k
theorem FG:∀(k:Nat) (n:Int),(rD n k).length=k
 |0,_=>rfl
 |k+1,n=>by rw[rD,iQ,FG k]
theorem Ot:∀(k:Nat) (n:Int),∀x∈rD n k,bZ x
 |0,_,x,h=>by simp[rD]at h
 |k+1,n,x,h=>by
  rw[rD]at h;rcases dJ.1 h with rfl|h
  ·grind [bZ]
  ·exact Ot k _ x h
def qO(k:Int)(p:List Int):List Int:=k::rD p.length 2++p
def C0(k:Int)(p:List Int):List Int:=qO k p++rD (jO (qO k p)) 4
def VA(s:Int)(l:List Int):aQ:=((s % 256,s/256 % 256,s/256/256 % 256,s/256/256/256 % 256),(l.getD 0 0,l.getD 1 0,l.getD 2 0,l.getD 3 0))
def rE(k s:Int)(p:List Int):List aQ×Int:=
 if k<1\/255<k\/s<1\/4294967295<s then([],2)
 else if 4096<p.length then([],5)
 else((List.range (xI (C0 k p).length 4)).map fun i=>VA s (kE (C0 k p) 4 i),0)
def FH(start n p:Int)(l:List aQ):List bR:=
 if n-p<l.length then [(0,start+16+p,l.take (n-p).toNat),(0,start+16,l.drop (n-p).toNat)]else [(0,start+16+p,l)]
def rF(j:Jr)(k:Int)(p:List Int):Jr×List bR×Int:=
 if jE j=0 then
  if(rE k (jN j) p).2=0 then
   if 1073741824<=jN j then(lB,[],6)
   else if j.count-16-j.aR.sum<(rE k (jN j) p).1.length then(lB,[],11)
   else(⟨j.start,j.count,j.head,(j.tail+(rE k (jN j) p).1.length) % (j.count-16),j.first,j.aR++[((rE k (jN j) p).1.length:Int)]⟩,FH j.start (j.count-16) j.tail (rE k (jN j) p).1++[(1,0,[])],0)
  else(lB,[],(rE k (jN j) p).2)
 else(lB,[],3)
def rZ(l:List bK)(x:bK):List bK:=
 if pE l x.number=true then l.set (fE l x.number) x else l.take (fE l x.number)++x::l.drop (fE l x.number)
def z7(a:oX)(r:List Int)(c:Bool):bK:=⟨a.number,a.parts,a.sum,a.dF,a.seen,r,c⟩
def DP(s:jB)(k:Int)(p:List Int)(x:bK):jB×List bR×Int:=
 if(rF s.j k p).2.2=0 then(⟨(rF s.j k p).1,rZ s.bI x⟩,(rF s.j k p).2.1,0)else(o0,[],(rF s.j k p).2.2)
def C3(s:jB)(p:List Int):jB×List bR×Int:=
 if l5 s=0 then
  if(dA p).2=0 then
   if pE s.bI (dA p).1.number=true then
    if(vL (cD (s.bI.getD (fE s.bI (dA p).1.number) bU)) p).2=0 then
     if(vL (cD (s.bI.getD (fE s.bI (dA p).1.number) bU)) p).1=cD (s.bI.getD (fE s.bI (dA p).1.number) bU)then(s,[],0)
     else DP s 1 p (z7 (vL (cD (s.bI.getD (fE s.bI (dA p).1.number) bU)) p).1 ((s.bI.getD (fE s.bI (dA p).1.number) bU).records++[jN s.j]) (s.bI.getD (fE s.bI (dA p).1.number) bU).closed)
    else(o0,[],(vL (cD (s.bI.getD (fE s.bI (dA p).1.number) bU)) p).2)
   else if 1024<=s.bI.length then(o0,[],6)
   else DP s 1 p (z7 (BN p).1 [jN s.j] false)
  else(o0,[],(dA p).2)
 else(o0,[],l5 s)
def rG(s:jB)(n:Int):jB×List bR×Int:=
 if l5 s=0 then
  if pE s.bI n=true then
   if(s.bI.getD (fE s.bI n) bU).closed=true then(s,[],0)
   else if(uE (cD (s.bI.getD (fE s.bI n) bU))).2=0 then
    DP s 2 (aV n) (z7 (cD (s.bI.getD (fE s.bI n) bU)) ((s.bI.getD (fE s.bI n) bU).records++[jN s.j]) true)
   else(o0,[],(uE (cD (s.bI.getD (fE s.bI n) bU))).2)
  else(o0,[],7)
 else(o0,[],l5 s)
def nM(a c:Int):Jr×List bR×Int:=
 if mH a c=true then
  if(nK a (aV 0++aV 1)).2=0 then(⟨a,c,0,0,1,[]⟩,[(0,a+16,jG (c-16)),(1,0,[])]++(nK a (aV 0++aV 1)).1,0)
  else(lB,[],(nK a (aV 0++aV 1)).2)
 else(lB,[],2)
def lZ(a c:Int):jB×List bR×Int:=
 if(nM a c).2.2=0 then(⟨(nM a c).1,[]⟩,(nM a c).2.1,0)else(o0,[],(nM a c).2.2)
end Go.Proofs.YtpaomccedbjknaaGreatDoor
namespace Go.Proofs.YtpaomccedbjknaaGreatDoor
open Go.Proofs Go.AL Tryz
set_option maxRecDepth 100000
set_option maxHeartbeats 8000000
attribute [local irreducible] bT AW b8 cF dB hold
attribute [local irreducible] iX
@[go_sem] theorem aB4:∀(l:List Int),FI (aB aO l)=some l
  |[]=>rfl
  |x::l=>by
   have h:=aB4 l;simp only[aB,qE,aO,FI,Bc]at h⊢;rw[h]
theorem Ou(bs:ByteArray):∀(n i:Nat) (r:List UInt8),bs.size-i=n->ByteArray.toList.loop bs i r=r.reverse++bs.data.toList.drop i
 |0,i,r,h=>by
  rw[ByteArray.toList.loop,if_neg oM,TA (by rw[Ip];exact(by omega:bs.size<=i)),v7]
 |n+1,i,r,h=>by
  have hi:i<bs.size:=oM
  have wI:i<bs.data.toList.length:=by rw[Ip];exact hi
  rw[ByteArray.toList.loop,if_pos hi,Ou bs n (i+1) _ oM,List.reverse_cons,nH,Y1,OP wI]
  congr 2;have:bs.get! i=bs.data[i]! :=rfl;rw[this,getElem!_pos bs.data i hi,Array.getElem_toList]
theorem Ov(l:List Int):(I2 l).toList=l.map (fun n=>UInt8.ofNat n.toNat):=by
 have h1:∀bs:ByteArray,bs.toList=bs.data.toList:=fun bs=>by
  rw[ByteArray.toList,Ou bs _ 0 [] rfl];rfl
 have h2:∀(l:List Int) (r:ByteArray),(l.foldl (fun r n=>r.push (UInt8.ofNat n.toNat)) r).data.toList=r.data.toList++l.map (fun n=>UInt8.ofNat n.toNat):=by
  intro l
  induction l with
  |nil=>intro r;simp
  |cons x l ih=>intro r;rw[EP,ih];simp[ByteArray.push]
 rw[h1,I2,h2];rfl
theorem str_inj:∀{a b:List Int},(∀x∈a,bZ x)->(∀x∈b,bZ x)->a.map (fun n=>UInt8.ofNat n.toNat)=b.map (fun n=>UInt8.ofNat n.toNat)->a=b
 |[],[],_,_,_=>rfl
 |[],_::_,_,_,h=>by simp at h
 |_::_,[],_,_,h=>by simp at h
 |x::a,y::b,ha,hb,h=>by
  simp only[qE,TB]at h;have h1:bZ x:=ha x (by simp)
  have h2:bZ y:=hb y (by simp)
  unfold bZ at h1 h2;have h3:=congrArg UInt8.toNat h.1;rw[UInt8.toNat_ofNat',UInt8.toNat_ofNat',GX oM,GX oM]at h3
  rw[show x=y by omega,str_inj (fun z hz=>ha z (by simp[hz])) (fun z hz=>hb z (by simp[hz])) h.2]
theorem Bd{a b:List Int}(ha:∀x∈a,bZ x)(hb:∀x∈b,bZ x):((I2 a).toList==(I2 b).toList)=decide (a=b):=by
 rw[Ov,Ov];by_cases h:a=b
 ·subst h;simp
 ·rw[decide_eq_false h,beq_eq_false_iff_ne]
  exact fun h2=>h (str_inj ha hb h2)
theorem aB5(a b:List Int)(ha:∀x∈a,bZ x)(hb:∀x∈b,bZ x):PC 198 [.snap (aB aO a),.snap (aB aO b)] (bV (decide (a=b))):=by
 refine aZ func198 ntmps198 (.c _) ?_;have h:=Bd ha hb;clear ha hb;generalize decide (a=b)=d at*;exact zEa
theorem aB6(a b:List Int)(ha:∀x∈a,bZ x)(hb:∀x∈b,bZ x):PC 201 [.snap (aB aO a),.snap (aB aO b)] (bV (decide (a=b))):=by
 refine aZ func201 ntmps201 (.c _) ?_;have h:=Bd ha hb;clear ha hb;generalize decide (a=b)=d at*;exact zEa
theorem QI{α:Type}(d:α){a b:List α}(hl:a.length=b.length)(h:∀i,i<a.length->a.getD i d=b.getD i d):a=b:=by
 refine List.ext_getElem hl fun i h1 h2=> ?_
 have:=h i h1;simpa[h1,h2]using this
theorem aB7(a b:List Bool)(ha:a.length<=100000)(hb:b.length<=100000):PC 199 [.snap (aB eH a),.snap (aB eH b)] (bV (decide (a=b))):=by
 refine aZ func199 ntmps199 (.c _) ?_;have ga:=F7 a;have gb:=F7 b;obtain⟨M,hM⟩:∃M,decide (a=b)=M:=⟨_,rfl⟩;rw[hM];by_cases g1:a.length=b.length
 case neg=>
  have:¬a=b:=fun h=>g1 (by rw[h])
  rw[decide_eq_false this]at hM;subst hM;have rX:((a.length:Int) !=(b.length:Int))=true:=bne_iff_ne.2 oM
  clear this g1 ga gb;exact zEa
 have rX:((a.length:Int) !=(b.length:Int))=false:=by simp[g1]
 refine aM ?_;refine dC (α:=Unit) a.length (fun k _=> [(13,true,zV k),(12,true,zV a.length),(1,true,.snap (aB eH b)),(0,true,.snap (aB eH a))]) (fun _ _=> []) (fun k m _=>∀i,i<k->a.getD i false=b.getD i false) ⟨100,(),(fun i hi=>absurd hi oM),aG⟩ (fun k m _ hk hR=> ?_) (fun m _ hR=> ?_)
 ·have FJ:(aB eH a)[k]? =some [bV (a.getD k false)]:=ga k hk
  have FK:(aB eH b)[k]? =some [bV (b.getD k false)]:=gb k oM
  clear ga gb;obtain⟨x,hx⟩:∃x,a.getD k false=x:=⟨_,rfl⟩;obtain⟨y,hy⟩:∃y,b.getD k false=y:=⟨_,rfl⟩;rw[hx]at FJ;rw[hy]at FK;have VB:k<b.length:=oM
  by_cases g:x=y
  ·have cW:bC (∀i,i<k+1->a.getD i false=b.getD i false):=⟨fun i hi=>by
    rcases qY i k with h1|h1
    ·exact hR i h1
    ·rw[show i=k by omega,hx,hy];exact g⟩
   have hd:(x==y)=true:=by simpa using g
   clear hR hx hy g hM;refine aM ?_;exact⟨m+20,(),cW.out,aG⟩
  ·have:¬a=b:=fun h=>g (by rw[<-hx,<-hy,h])
   rw[decide_eq_false this]at hM;subst hM;have hd:(x==y)=false:=by simpa using g
   clear hR hx hy g this;exact zEa
 ·have h1:a=b:=QI false g1 hR
  rw[decide_eq_true h1]at hM;subst hM;clear hR h1;exact zEa
theorem aB8(a b:List (List Int))(ha:a.length<=100000)(hb:b.length<=100000)(h1:∀x∈a,∀y∈x,bZ y)(h2:∀x∈b,∀y∈x,bZ y):PC 200 [.snap (aB bY a),.snap (aB bY b),.fn (.func 201) [] []] (bV (decide (a=b))):=by
 refine aZ func200 ntmps200 (.c _) ?_;have ga:=F8 a;have gb:=F8 b;obtain⟨M,hM⟩:∃M,decide (a=b)=M:=⟨_,rfl⟩;rw[hM];by_cases g1:a.length=b.length
 case neg=>
  have:¬a=b:=fun h=>g1 (by rw[h])
  rw[decide_eq_false this]at hM;subst hM;have rX:((a.length:Int) !=(b.length:Int))=true:=bne_iff_ne.2 oM
  clear this g1 ga gb h1 h2;exact zEa
 replace h1:=bC.mk h1
 replace h2:=bC.mk h2
 have rX:((a.length:Int) !=(b.length:Int))=false:=by simp[g1]
 refine aM ?_;refine dC (α:=Unit) a.length (fun k _=> [(17,true,zV k),(16,true,zV a.length),(15,true,.snap (aB bY a)),(2,true,.fn (.func 201) [] []),(1,true,.snap (aB bY b)),(0,true,.snap (aB bY a))]) (fun _ _=> []) (fun k m _=>∀i,i<k->a.getD i []=b.getD i []) ⟨100,(),(fun i hi=>absurd hi oM),aG⟩ (fun k m _ hk hR=> ?_) (fun m _ hR=> ?_)
 ·have FJ:=ga k hk
  have FK:=gb k oM
  have c1:=aB6 (a.getD k []) (b.getD k []) (h1.out _ (eB [] hk)) (h2.out _ (eB [] oM))
  clear ga gb;obtain⟨x,hx⟩:∃x,a.getD k []=x:=⟨_,rfl⟩;obtain⟨y,hy⟩:∃y,b.getD k []=y:=⟨_,rfl⟩;rw[hx]at FJ c1;rw[hy]at FK c1;have VB:k<b.length:=oM
  by_cases g:x=y
  ·have cW:bC (∀i,i<k+1->a.getD i []=b.getD i []):=⟨fun i hi=>by
    rcases qY i k with h1|h1
    ·exact hR i h1
    ·rw[show i=k by omega,hx,hy];exact g⟩
   rw[decide_eq_true g]at c1;clear hR hx hy g hM;refine aM ?_;exact⟨m+20,(),cW.out,aG⟩
  ·have:¬a=b:=fun h=>g (by rw[<-hx,<-hy,h])
   rw[decide_eq_false this]at hM;subst hM;rw[decide_eq_false g]at c1;clear hR hx hy g this;exact zEa
 ·have h1:a=b:=QI [] g1 hR
  rw[decide_eq_true h1]at hM;subst hM;clear hR h1;exact zEa
end Go.Proofs.YtpaomccedbjknaaGreatDoor
