/- Staging. No condition. -/
import Derived.Test.YtioafciifiggaaaGreatDoorL0
import Derived.Test.YtioafciifiggaaaGreatDoorAs
import Derived.Test.YtioafciifiggaaaGreatDoorLg
import Derived.Test.YtioafciifiggaaaGreatDoorAr
import Derived.Test.YtioafciifiggaaaGreatDoorAq
set_option linter.all false
namespace Go.Proofs.YtioafciifiggaaaGreatDoor
open Go.Proofs Go.RowKit Go.AL
set_option maxRecDepth 100000
def bi1(W:World)(b n i:Nat)(cur:Array Value)(xl:List Value)(e:Ending)(w':World):Prop:=
 ∃(B c':Nat) (C:Array Value),e= .returned (.slice (some ⟨B,0,none⟩) (n+1) c')/\n+1<=c'/\c'*7<=C.size/\C.toList.take ((n+1)*7)=cur.toList.take (i*7)++xl++(cur.toList.take (n*7)).drop (i*7)/\
  w'.os=W.os/\w'.tape=W.tape/\w'.output=W.output/\w'.heap[B]? =some (.cells C 64 (0,0))/\(B=b\/W.heap.size<=B)/\W.heap.size<=w'.heap.size/\(∀k,k<W.heap.size->k≠b->w'.heap[k]? =W.heap[k]?)/\∃dN,w'.heap[b]? =some (.cells dN 64 (0,0))/\dN.size=cur.size
theorem bi2(b n c i vb vc:Nat)(cur x:Array Value)(xl:List Value)(tx:TypeId)(W:World)(hi:i<n)(xN:n<=c)(hc:c*7<=cur.size)(pK:xl.length=7)(EU:∀(j:Nat) (v:Value),xl[j]? =some v->x[j]? =some v)(IG:vb≠b)(PD:n<=1000000)
  (hb:W.heap[b]? =some (.cells cur 64 (0,0))) (hv:W.heap[vb]? =some (.cells x tx (0,0))) (PE:∀v∈cur.toList.take (n*7),v.oneCell'=true) (PF:∀v∈xl,v.oneCell'=true):
  Calls Tryz.prog 200 #[.slice (some ⟨b,0,none⟩) n c,.int .i64 i,.slice (some ⟨vb,0,none⟩) 1 vc] W (bi1 W b n i cur xl):=by
 have L7:b<W.heap.size:=(jG.1 hb).1;by_cases DH:n+1<=c
 ·refine(bh1 b n c i vb vc cur x xl tx W hi DH hc pK EU IG PD hb hv PE PF).mono fun e w' ⟨h1,h2⟩=> ?_
  have iE:cur.toList.length=cur.size:=by simp
  have e1:(cur.toList.take (i*7)).length=i*7:=by rw[cU,iE];omega
  have e2:((cur.toList.take (n*7)).drop (i*7)).length=(n-i)*7:=by
   rw[eF,cU,iE];omega
  have e3:(cur.toList.take (i*7)++xl++(cur.toList.take (n*7)).drop (i*7)).length=(n+1)*7:=by rw[bP,bP,e1,pK,e2];omega
  have GL:W.drew.heap[b]? =some (.cells cur 64 (0,0)):=hb
  have hs:((cur.toList.take (i*7)++xl++(cur.toList.take (n*7)).drop (i*7))++cur.toList.drop ((n+1)*7)).toArray.size=cur.size:=by
   rw[TL,bP,e3,eF,iE];omega
  subst h2;refine⟨b,c,_,h1,DH,by rw[hs];exact hc,?_,rfl,rfl,rfl,setRow_heap W.drew b cur _ _ _ GL,.inl rfl,by rw[setRow_size];exact cE _,fun k hk aJ=>setRow_other W.drew b k _ aJ,_,setRow_heap W.drew b cur _ _ _ GL,hs⟩
  simp only[Ga];rw[O9 (by rw[e3];exact cE _),eD (by rw[e3];exact cE _)]
 ·refine(bh5 b n c i vb vc cur x xl 64 tx W hi xN (by omega) (by omega) pK EU PD hb hv PE PF).mono fun e w' ⟨c',C,h1,h2,h3,h4,h5,h6,h7,h8,h9,dY⟩=> ?_
  exact⟨W.heap.size,c',C,h1,h2,h3,h4,h5,h6,h7,dY,.inr (cE _),by omega,fun k hk _=>h8 k hk,cur,by rw[h8 b L7];exact hb,rfl⟩
def IT(rows:List (List AV))(i:Nat)(row:List AV):List (List AV):=rows.take i++[row]++rows.drop i
theorem bi3{H:Heap}{id id2 i:Nat}{rows:List (List AV)}{row:List AV}{w2 a2:Bool}(aJ:id2≠id)(hg:H.get id=some (.cells 64 7 rows true true))(GU:H.get id2=some (.cells 64 7 [row] w2 a2))(hi:i<rows.length)(PD:rows.length<=1000000)
  (gG:rows.all (fun r=>r.length==7&&r.all AV.one)=true) (Jy:[row].all (fun r=>r.length==7&&r.all AV.one)=true):
  fU Tryz.prog 200 [.own id 0 rows.length,zV i,.own id2 0 1] H fun r H'=>r= .own H.next 0 (rows.length+1)/\H'=⟨H.next+1,aX H.get [(id,none),(H.next,some (.cells 64 7 (IT rows i row) true true))]⟩:=by
 refine⟨by kernel_rfl,fun E W vs hH hr=> ?_⟩
 obtain⟨DI,Jz⟩:=hH.core.ok id _ hg;obtain⟨Zy,bi4⟩:=hH.core.ok id2 _ GU;have gR:¬E.U H.next:=fun h=>KE _ (hH.next _ h)
 obtain⟨b1,b2,⟨cur,b3,b4,b5⟩,b6,b7⟩:=Jz;obtain⟨d1,d2,⟨x,d3,d4,d5⟩,-,-⟩:=bi4;have mS:=(b6 rfl).1;have IG:E.ι id2≠E.ι id:=(b6 rfl).2 id2 _ aJ GU
 obtain⟨v0,v1,v2,rfl⟩:∃v0 v1 v2,vs=[v0,v1,v2]:=by
  have hl:=hr.1
  match vs,hl with
  |[a,b,c],_=>exact⟨a,b,c,rfl⟩
 have r0:=hr.2 0 _ v0 rfl rfl;have r1:=hr.2 1 _ v1 rfl rfl;have r2:=hr.2 2 _ v2 rfl rfl;have pN:v1= .int .i64 i:=by cases r1;rfl
 subst pN
 have eN:rowsOf H.get (.own id 0 rows.length)=some (rows,[id]):=by
  simp only[rowsOf,hg,pJ,cE,if_true,CO,lI]
 have bi5:rowsOf H.get (.own id2 0 1)=some ([row],[id2]):=by
  simp[rowsOf,GU]
 have bi6:rows≠[]:=fun h=>by rw[h]at hi;simp at hi
 obtain⟨q0,p0,IU,BY,news,n1,n2,n3,n4⟩:=PH hH.core r0 eN bi6 (k:=7) gG;obtain⟨q2,p2,AG,oH,xl,m1,m2,m3,m4⟩:=PH hH.core r2 bi5 (by simp) (k:=7) Jy
 rcases(wO r0).2 with⟨cap,yP,eC,dN,e,f,h4,h5⟩|⟨oZ,a,rfl⟩
 case inr=>omega
 rcases(wO r2).2 with⟨bi7,fB,cD7,x',e2,f2,h6,h7⟩|⟨oZ,a,rfl⟩
 case inr=>omega
 rw[b3]at h4;injection h4 with h4
 injection h4 with h4 h4e h4f
 subst h4;rw[b1,pJ]at h5;rw[yP]at BY;rw[fB]at oH;injection BY with BY _ cE0
 injection BY with BY
 injection BY with bi8 Zz
 injection oH with oH _ cE1
 injection oH with oH
 injection oH with bi9 aa0
 rw[CN]at Zz aa0 yP fB;subst bi8 Zz bi9 aa0 yP fB;have iE:cur.toList.length=cur.size:=by simp
 have DK:cur.toList.take (rows.length*7)=news:=by
  refine BE fun j=> ?_
  by_cases hj:j<rows.length*7
  ·have h8:j<news.length:=by rw[n1];exact hj
   have h9:=n2 j _ (eQ h8);rw[pJ]at h9;rw[gU,if_pos hj,eQ h8,<-h9];simp[World.cell?,b3]
  ·rw[zL (by rw[cU];omega),zL (by omega)]
 have EU:∀(j:Nat) (v:Value),xl[j]? =some v->x[j]? =some v:=fun j v hj=>by
  have h9:=m2 j v hj;rw[pJ]at h9;simpa[World.cell?,d3]using h9
 have pK:xl.length=7:=by rw[m1];rfl
 refine(bi2 (E.ι id) rows.length cap i (E.ι id2) bi7 cur x xl 64 W hi eC h5 pK EU IG PD b3 d3 (fun v hv=>n3 v (by rw[DK]at hv;exact hv)) m3).mono fun e' W' ⟨B,c',C,he,L9,sS,hC,ho,ht,hou,hB,Be,dP,hold,bj1,bj2,bj3⟩=> ?_
 rw[DK]at hC
 let E':Env:=⟨fun q=>if q=H.next then B else E.ι q,fun q=>if q=H.next then 7 else E.sz q,fun q=>E.U q\/q=H.next,E.L⟩
 have cY:∀q,E.U q->E'.ι q=E.ι q:=fun q aB=>by
  show(if q=H.next then _ else _)=_
  rw[if_neg];rintro rfl;exact gR aB
 have hs:∀q,E.U q->E'.sz q=E.sz q:=fun q aB=>by
  show(if q=H.next then _ else _)=_
  rw[if_neg];rintro rfl;exact gR aB
 have gL:E'.ι H.next=B:=by show(if H.next=H.next then _ else _)=_;rw[if_pos rfl]
 have jS:E'.sz H.next=7:=by show(if H.next=H.next then _ else _)=_;rw[if_pos rfl]
 have hbW:E.ι id<W.heap.size:=hH.core.eL id DI
 have hLB:E.L B=0:=by
  rcases Be with h|h
  ·rw[h];exact mS
  ·exact hH.core.lim B h
 have xY:bE E W E' W':=by
  refine⟨ho,ht,hou,dP,fun q h=> .inl h,fun q aB=>⟨cY q aB,hs q aB⟩,fun _=>cE _,fun k j hj=> ?_,fun k hk hf=>hold k hk fun h=>hf id DI h.symm,fun k cu el fr hk=> ?_,fun _ _ _=>rfl,fun q h1 h2=> ?_,fun k r hk=> ?_⟩
  ·have h8:k<W.heap.size:=by
    rcases oA k W.heap.size with h|h
    ·exact h
    ·have:=hH.core.lim k h;omega
   have h9:k≠E.ι id:=fun h=>by rw[h,mS]at hj;omega
   unfold World.cell?;simp only[hold k h8 h9]
  ·by_cases h9:k=E.ι id
   ·subst h9
    rw[b3]at hk;injection hk with hk
    injection hk with BZ iX hk3
    subst BZ iX;exact⟨bj1,_,bj2,bj3⟩
   ·exact⟨cu,fr,by rw[hold k (jG.1 hk).1 h9];exact hk,rfl⟩
  ·rcases h2 with h2|h2
   ·exact absurd h2 h1
   ·subst h2
    rw[gL];rcases Be with h|h
    ·exact .inr ⟨id,DI,h.symm⟩
    ·exact .inl h
  ·have h9:k≠E.ι id:=fun h=>by rw[h,b3]at hk;cases hk
   exact⟨r,by rw[hold k (jG.1 hk).1 h9];exact hk,rfl⟩
 have VK:∀q bk,q≠id->H.get q=some bk->E.ι q≠E.ι id:=fun q bk hq rJ=>(b6 rfl).2 q bk hq rJ
 have yT:∀q bk,q≠id->H.get q=some bk->E'.ι q≠B:=fun q bk hq rJ heq=>by
  have hU:=(hH.core.ok q bk rJ).1;rw[cY q hU]at heq;rcases Be with h|h
  ·rw[h]at heq
   exact VK q bk hq rJ heq
  ·have:=hH.core.eL q hU
   omega
 have bU:∀q bk,q≠H.next->aX H.get [(id,none),(H.next,some (.cells 64 7 (IT rows i row) true true))] q=some bk->q≠id/\H.get q=some bk:=fun q bk hq rJ=>by
  simp only[aX,if_neg hq]at rJ;by_cases DL:q=id
  ·rw[if_pos DL]at rJ;cases rJ
  ·rw[if_neg DL]at rJ;exact⟨DL,rJ⟩
 have hlen:(IT rows i row).length=rows.length+1:=by
  unfold IT;simp;omega
 have Zj:cur.toList.take (i*7)=news.take (i*7):=by
  rw[<-DK,Tu];congr 1;omega
 rw[Zj]at hC
 have Ka:∀q,q<(rows.length+1)*7->C[q]? =(news.take (i*7)++xl++news.drop (i*7))[q]? :=fun q hq=>by
  rw[<-hC,gU,if_pos hq];simp
 have e1:(news.take (i*7)).length=i*7:=by rw[cU,n1];omega
 have bH:∀(j:Nat) r,(IT rows i row)[j]? =some r->r.length=7/\∀(z:Nat) a,r[z]? =some a->∃u,C[j*7+z]? =some u/\RV E W a u:=fun j r hj=>by
  have tA:j<rows.length+1:=by rw[<-hlen];exact(dV.1 hj).1
  have f1:(rows.take i).length=i:=by rw[cU];omega
  unfold IT at hj;rcases Tw j i with h|h|h
  ·rw[fF,kG (by omega),gU,if_pos h]at hj
   refine⟨b2 j r hj,fun z a hz=> ?_⟩
   have hz7:z<7:=by rw[<-b2 j r hj];exact(dV.1 hz).1
   obtain⟨u,h1,h2⟩:=n4 j z r a hj hz;refine⟨u,?_,h2⟩;rw[Ka _ (by omega),fF,kG (by omega),gU,if_pos (by omega)]
   exact h1
  ·subst h
   rw[fF,k7 (by omega),f1,CM]at hj
   simp only[Gb,nE,bC]at hj;subst hj;have hr7:row.length=7:=by simp at Jy;exact Jy.1
   refine⟨hr7,fun z a hz=> ?_⟩
   have hz7:z<7:=by rw[<-hr7];exact(dV.1 hz).1
   obtain⟨u,h1,h2⟩:=m4 0 z row a rfl hz;refine⟨u,?_,h2⟩;rw[Ka _ (by omega),fF,k7 (by omega),e1,kG (by omega)]
   rw[show j*7+z-j*7=0*7+z by omega]
   exact h1
  ·rw[k7 (by rw[bP,f1];simp;omega),bP,f1,mF]at hj
   simp only[dK,fJ]at hj;rw[show i+(j-(i+(0+1)))=j-1 by omega]at hj
   refine⟨b2 _ r hj,fun z a hz=> ?_⟩
   have hz7:z<7:=by rw[<-b2 _ r hj];exact(dV.1 hz).1
   obtain⟨u,h1,h2⟩:=n4 (j-1) z r a hj hz;refine⟨u,?_,h2⟩;rw[Ka _ (by omega),k7 (by rw[bP,e1,pK];omega),bP,e1,pK,mF]
   rw[show i*7+(j*7+z-(i*7+7))=(j-1)*7+z by omega]
   exact h1
 refine⟨_,he,E',_,⟨H.next+1,_⟩,xY,⟨fun q hq=> ?_,⟨fun k hk=>hH.core.lim k (by omega),fun q hq=> ?_,fun q bk rJ=> ?_⟩⟩,?_,rfl,rfl⟩
 ·rcases hq with hq|hq
  ·exact TM (hH.next q hq)
  ·subst hq;exact G3 _
 ·rcases hq with hq|hq
  ·rw[cY q hq];exact vF (hH.core.eL q hq) dP
  ·subst hq;rw[gL];exact(jG.1 hB).1
 ·by_cases aB:q=H.next
  ·subst aB
   simp only[aX]at rJ;rw[if_pos trivial]at rJ;injection rJ with rJ
   subst rJ;refine⟨.inr rfl,jS,fun j r hj=>(bH j r hj).1,⟨C,by rw[gL];exact hB,by rw[hlen];exact s8 (nN 7 L9) sS,fun j z r a h1 h2=> ?_⟩,fun _=>⟨by rw[gL];exact hLB,fun aM b' nX cL heq=> ?_⟩,fun _=>⟨by rw[gL];show E.L _<=_;rw[hLB];exact iG _,fun aM b' nX cL heq=> ?_⟩⟩
   ·obtain⟨u,h3,h4⟩:=(bH j r h1).2 z a h2
    exact⟨u,h3,h4.mono xY⟩
   ·rw[gL]at heq
    obtain⟨h1,h2⟩:=bU aM b' nX cL;exact yT aM b' h1 h2 heq
   ·rw[gL]at heq
    obtain⟨h1,h2⟩:=bU aM b' nX cL;exact absurd heq (yT aM b' h1 h2)
  ·obtain⟨DL,hb⟩:=bU q bk aB rJ
   obtain⟨hU,dO⟩:=hH.core.ok q bk hb;have IV:=VK q bk DL hb;refine⟨.inl hU,dO.mono xY hU (hold _ (hH.core.eL q hU) IV) rfl fun aM b' nX cL heq=> ?_⟩
   by_cases uR:aM=H.next
   ·subst uR
    rw[gL]at heq;rcases Be with h|h
    ·rw[h]at heq;exact absurd heq.symm IV
    ·have:=hH.core.eL q hU
     omega
   ·obtain⟨h1,h2⟩:=bU aM b' uR cL
    exact⟨b',h2,by rw[<-heq,cY aM (hH.core.ok aM b' h2).1],rfl,fun h=>h⟩
 ·have h6:=RV.own (E:=E') (W:=W') H.next 0 (rows.length+1) c' (.inr rfl) L9 (by rw[gL,jS];exact⟨C,_,_,hB,by rw[pJ];exact sS⟩)
  rw[gL,jS,CN]at h6;exact h6
end Go.Proofs.YtioafciifiggaaaGreatDoor
namespace Go.Proofs.YtioafciifiggaaaGreatDoor
open Go.Proofs Go.AL
set_option maxRecDepth 100000
set_option maxHeartbeats 1000000
attribute [local irreducible] cH AW b9 dR eH hold deriving instance DecidableEq for nT
def qH(n:Int):Nat->List Int
 |0=> []
 |k+1=>(n % 256)::qH (n/256) k
theorem GV:∀(k:Nat) (n:Int),(qH n k).length=k
 |0,_=>rfl
 |k+1,n=>by rw[qH,dK,GV k]
theorem Bf:∀(k:Nat) (n:Int),∀x∈qH n k,aV x
 |0,_,x,h=>by simp[qH]at h
 |k+1,n,x,h=>by
  rw[qH]at h;rcases cG.1 h with rfl|h
  ·unfold aV;omega
  ·exact Bf k _ x h
def mN(k:Int)(p:List Int):List Int:=k::qH p.length 2++p
def fS(k:Int)(p:List Int):List Int:=mN k p++qH (fV (mN k p)) 4
def sK(s:Int)(l:List Int):aH:=((s % 256,s/256 % 256,s/256/256 % 256,s/256/256/256 % 256),(l.getD 0 0,l.getD 1 0,l.getD 2 0,l.getD 3 0))
def tB(k s:Int)(p:List Int):List aH×Int:=
 if k<1\/255<k\/s<1\/4294967295<s then([],2)
 else if 4096<p.length then([],5)
 else((List.range (sY (fS k p).length 4)).map fun i=>sK s (iJ (fS k p) 4 i),0)
def tC(start n p:Int)(l:List aH):List eW:=
 if n-p<l.length then [(0,start+16+p,l.take (n-p).toNat),(0,start+16,l.drop (n-p).toNat)]else [(0,start+16+p,l)]
def kD(j:Jr)(k:Int)(p:List Int):Jr×List eW×Int:=
 if jE j=0 then
  if(tB k (jN j) p).2=0 then
   if 1073741824<=jN j then(j9,[],6)
   else if j.count-16-j.b8.sum<(tB k (jN j) p).1.length then(j9,[],11)
   else(⟨j.start,j.count,j.head,(j.tail+(tB k (jN j) p).1.length) % (j.count-16),j.first,j.b8++[((tB k (jN j) p).1.length:Int)]⟩,tC j.start (j.count-16) j.tail (tB k (jN j) p).1++[(1,0,[])],0)
  else(j9,[],(tB k (jN j) p).2)
 else(j9,[],3)
def lP(l:List aW)(x:aW):List aW:=
 if nW l x.number=true then l.set (bT l x.number) x else l.take (bT l x.number)++x::l.drop (bT l x.number)
def iT(a:nT)(r:List Int)(c:Bool):aW:=⟨a.number,a.parts,a.sum,a.bS,a.seen,r,c⟩
def vN(s:cX)(k:Int)(p:List Int)(x:aW):cX×List eW×Int:=
 if(kD s.j k p).2.2=0 then(⟨(kD s.j k p).1,lP s.aR x⟩,(kD s.j k p).2.1,0)else(lZ,[],(kD s.j k p).2.2)
def nL(s:cX)(p:List Int):cX×List eW×Int:=
 if mK s=0 then
  if(bZ p).2=0 then
   if nW s.aR (bZ p).1.number=true then
    if(iA (bF (s.aR.getD (bT s.aR (bZ p).1.number) aY)) p).2=0 then
     if(iA (bF (s.aR.getD (bT s.aR (bZ p).1.number) aY)) p).1=bF (s.aR.getD (bT s.aR (bZ p).1.number) aY)then(s,[],0)
     else vN s 1 p (iT (iA (bF (s.aR.getD (bT s.aR (bZ p).1.number) aY)) p).1 ((s.aR.getD (bT s.aR (bZ p).1.number) aY).records++[jN s.j]) (s.aR.getD (bT s.aR (bZ p).1.number) aY).closed)
    else(lZ,[],(iA (bF (s.aR.getD (bT s.aR (bZ p).1.number) aY)) p).2)
   else if 1024<=s.aR.length then(lZ,[],6)
   else vN s 1 p (iT (lW p).1 [jN s.j] false)
  else(lZ,[],(bZ p).2)
 else(lZ,[],mK s)
def mT(s:cX)(n:Int):cX×List eW×Int:=
 if mK s=0 then
  if nW s.aR n=true then
   if(s.aR.getD (bT s.aR n) aY).closed=true then(s,[],0)
   else if(rM (bF (s.aR.getD (bT s.aR n) aY))).2=0 then
    vN s 2 (aQ n) (iT (bF (s.aR.getD (bT s.aR n) aY)) ((s.aR.getD (bT s.aR n) aY).records++[jN s.j]) true)
   else(lZ,[],(rM (bF (s.aR.getD (bT s.aR n) aY))).2)
  else(lZ,[],7)
 else(lZ,[],mK s)
def C0(a c:Int):Jr×List eW×Int:=
 if qY a c=true then
  if(CX a (aQ 0++aQ 1)).2=0 then(⟨a,c,0,0,1,[]⟩,[(0,a+16,qR (c-16)),(1,0,[])]++(CX a (aQ 0++aQ 1)).1,0)
  else(j9,[],(CX a (aQ 0++aQ 1)).2)
 else(j9,[],2)
def tW(a c:Int):cX×List eW×Int:=
 if(C0 a c).2.2=0 then(⟨(C0 a c).1,[]⟩,(C0 a c).2.1,0)else(lZ,[],(C0 a c).2.2)
end Go.Proofs.YtioafciifiggaaaGreatDoor
namespace Go.Proofs.YtioafciifiggaaaGreatDoor
open Go.Proofs Go.AL
set_option maxRecDepth 100000
set_option maxHeartbeats 4000000
attribute [local irreducible] cH AW b9 dR eH hold
attribute [local irreducible] jI
@[go_sem] theorem bj4:∀(l:List Int),IW (aA aN l)=some l
  |[]=>rfl
  |x::l=>by
   have h:=bj4 l;simp only[aA,gJ,aN,IW,Kb]at h⊢;rw[h]
theorem aa4(bs:ByteArray):∀(n i:Nat) (r:List UInt8),bs.size-i=n->ByteArray.toList.loop bs i r=r.reverse++bs.data.toList.drop i
 |0,i,r,h=>by
  rw[ByteArray.toList.loop,if_neg (by omega),I5 (by rw[YY];exact(by omega:bs.size<=i)),mD]
 |n+1,i,r,h=>by
  have hi:i<bs.size:=by omega
  have zT:i<bs.data.toList.length:=by rw[YY];exact hi
  rw[ByteArray.toList.loop,if_pos hi,aa4 bs n (i+1) _ (by omega),List.reverse_cons,fF,Gb,Fu zT]
  congr 2;have:bs.get! i=bs.data[i]! :=rfl;rw[this,getElem!_pos bs.data i hi,Array.getElem_toList]
theorem aa5(l:List Int):(LA l).toList=l.map (fun n=>UInt8.ofNat n.toNat):=by
 have h1:∀bs:ByteArray,bs.toList=bs.data.toList:=fun bs=>by
  rw[ByteArray.toList,aa4 bs _ 0 [] rfl];rfl
 have h2:∀(l:List Int) (r:ByteArray),(l.foldl (fun r n=>r.push (UInt8.ofNat n.toNat)) r).data.toList=r.data.toList++l.map (fun n=>UInt8.ofNat n.toNat):=by
  intro l
  induction l with
  |nil=>intro r;simp
  |cons x l ih=>intro r;rw[CL,ih];simp[ByteArray.push]
 rw[h1,LA,h2];rfl
theorem str_inj:∀{a b:List Int},(∀x∈a,aV x)->(∀x∈b,aV x)->a.map (fun n=>UInt8.ofNat n.toNat)=b.map (fun n=>UInt8.ofNat n.toNat)->a=b
 |[],[],_,_,_=>rfl
 |[],_::_,_,_,h=>by simp at h
 |_::_,[],_,_,h=>by simp at h
 |x::a,y::b,ha,hb,h=>by
  simp only[gJ,OA]at h;have h1:aV x:=ha x (by simp)
  have h2:aV y:=hb y (by simp)
  unfold aV at h1 h2;have h3:=congrArg UInt8.toNat h.1;rw[UInt8.toNat_ofNat',UInt8.toNat_ofNat',wC (by omega),wC (by omega)]at h3
  rw[show x=y by omega,str_inj (fun z hz=>ha z (by simp[hz])) (fun z hz=>hb z (by simp[hz])) h.2]
theorem Kc{a b:List Int}(ha:∀x∈a,aV x)(hb:∀x∈b,aV x):((LA a).toList==(LA b).toList)=decide (a=b):=by
 rw[aa5,aa5];by_cases h:a=b
 ·subst h;simp
 ·rw[decide_eq_false h,beq_eq_false_iff_ne]
  exact fun h2=>h (str_inj ha hb h2)
theorem bj5(a b:List Int)(ha:∀x∈a,aV x)(hb:∀x∈b,aV x):PC 152 [.snap (aA aN a),.snap (aA aN b)] (bV (decide (a=b))):=by
 refine bI Tryz.func152 Tryz.ntmps152 (.c _) ?_;have h:=Kc ha hb;clear ha hb;generalize decide (a=b)=d at*;refine aG ?_;exact aC
theorem bj6(a b:List Int)(ha:∀x∈a,aV x)(hb:∀x∈b,aV x):PC 155 [.snap (aA aN a),.snap (aA aN b)] (bV (decide (a=b))):=by
 refine bI Tryz.func155 Tryz.ntmps155 (.c _) ?_;have h:=Kc ha hb;clear ha hb;generalize decide (a=b)=d at*;refine aG ?_;exact aC
theorem Bg{α:Type}(d:α){a b:List α}(hl:a.length=b.length)(h:∀i,i<a.length->a.getD i d=b.getD i d):a=b:=by
 refine I3 hl fun i h1 h2=> ?_
 have:=h i h1;simpa[h1,h2]using this
theorem bj7(a b:List Bool)(ha:a.length<=100000)(hb:b.length<=100000):PC 153 [.snap (aA eJ a),.snap (aA eJ b)] (bV (decide (a=b))):=by
 refine bI Tryz.func153 Tryz.ntmps153 (.c _) ?_;have ga:=IP a;have gb:=IP b;obtain⟨M,hM⟩:∃M,decide (a=b)=M:=⟨_,rfl⟩;rw[hM];by_cases g1:a.length=b.length
 case neg=>
  have:¬a=b:=fun h=>g1 (by rw[h])
  rw[decide_eq_false this]at hM;subst hM;have GO:((a.length:Int) !=(b.length:Int))=true:=bne_iff_ne.2 (by omega)
  clear this g1 ga gb;refine aG ?_;exact aC
 have GO:((a.length:Int) !=(b.length:Int))=false:=by simp[g1]
 refine aG ?_;refine fK (α:=Unit) a.length (fun k _=> [(13,true,zV k),(12,true,zV a.length),(1,true,.snap (aA eJ b)),(0,true,.snap (aA eJ a))]) (fun _ _=> []) (fun k m _=>∀i,i<k->a.getD i false=b.getD i false) ⟨100,(),(fun i hi=>absurd hi (by omega)),aT⟩ (fun k m _ hk hR=> ?_) (fun m _ hR=> ?_)
 ·have LB:(aA eJ a)[k]? =some [bV (a.getD k false)]:=ga k hk
  have LC:(aA eJ b)[k]? =some [bV (b.getD k false)]:=gb k (by omega)
  clear ga gb;obtain⟨x,hx⟩:∃x,a.getD k false=x:=⟨_,rfl⟩;obtain⟨y,hy⟩:∃y,b.getD k false=y:=⟨_,rfl⟩;rw[hx]at LB;rw[hy]at LC;have Kd:k<b.length:=by omega
  by_cases g:x=y
  ·have cP:bB (∀i,i<k+1->a.getD i false=b.getD i false):=⟨fun i hi=>by
    rcases oA i k with h1|h1
    ·exact hR i h1
    ·rw[show i=k by omega,hx,hy];exact g⟩
   have hd:(x==y)=true:=by simpa using g
   clear hR hx hy g hM;refine aG ?_;exact⟨m+20,(),cP.out,aT⟩
  ·have:¬a=b:=fun h=>g (by rw[<-hx,<-hy,h])
   rw[decide_eq_false this]at hM;subst hM;have hd:(x==y)=false:=by simpa using g
   clear hR hx hy g this;refine aG ?_;exact aC
 ·have h1:a=b:=Bg false g1 hR
  rw[decide_eq_true h1]at hM;subst hM;clear hR h1;refine aG ?_;exact aC
theorem bj8(a b:List (List Int))(ha:a.length<=100000)(hb:b.length<=100000)(h1:∀x∈a,∀y∈x,aV y)(h2:∀x∈b,∀y∈x,aV y):PC 154 [.snap (aA dF a),.snap (aA dF b),.fn (.func 155) [] []] (bV (decide (a=b))):=by
 refine bI Tryz.func154 Tryz.ntmps154 (.c _) ?_;have ga:=KZ a;have gb:=KZ b;obtain⟨M,hM⟩:∃M,decide (a=b)=M:=⟨_,rfl⟩;rw[hM];by_cases g1:a.length=b.length
 case neg=>
  have:¬a=b:=fun h=>g1 (by rw[h])
  rw[decide_eq_false this]at hM;subst hM;have GO:((a.length:Int) !=(b.length:Int))=true:=bne_iff_ne.2 (by omega)
  clear this g1 ga gb h1 h2;refine aG ?_;exact aC
 replace h1:=bB.mk h1
 replace h2:=bB.mk h2
 have GO:((a.length:Int) !=(b.length:Int))=false:=by simp[g1]
 refine aG ?_;refine fK (α:=Unit) a.length (fun k _=> [(17,true,zV k),(16,true,zV a.length),(15,true,.snap (aA dF a)),(2,true,.fn (.func 155) [] []),(1,true,.snap (aA dF b)),(0,true,.snap (aA dF a))]) (fun _ _=> []) (fun k m _=>∀i,i<k->a.getD i []=b.getD i []) ⟨100,(),(fun i hi=>absurd hi (by omega)),aT⟩ (fun k m _ hk hR=> ?_) (fun m _ hR=> ?_)
 ·have LB:=ga k hk
  have LC:=gb k (by omega)
  have c1:=bj6 (a.getD k []) (b.getD k []) (h1.out _ (cQ [] hk)) (h2.out _ (cQ [] (by omega)))
  clear ga gb;obtain⟨x,hx⟩:∃x,a.getD k []=x:=⟨_,rfl⟩;obtain⟨y,hy⟩:∃y,b.getD k []=y:=⟨_,rfl⟩;rw[hx]at LB c1;rw[hy]at LC c1;have Kd:k<b.length:=by omega
  by_cases g:x=y
  ·have cP:bB (∀i,i<k+1->a.getD i []=b.getD i []):=⟨fun i hi=>by
    rcases oA i k with h1|h1
    ·exact hR i h1
    ·rw[show i=k by omega,hx,hy];exact g⟩
   rw[decide_eq_true g]at c1;clear hR hx hy g hM;refine aG ?_;exact⟨m+20,(),cP.out,aT⟩
  ·have:¬a=b:=fun h=>g (by rw[<-hx,<-hy,h])
   rw[decide_eq_false this]at hM;subst hM;rw[decide_eq_false g]at c1;clear hR hx hy g this;refine aG ?_;exact aC
 ·have h1:a=b:=Bg [] g1 hR
  rw[decide_eq_true h1]at hM;subst hM;clear hR h1;refine aG ?_;exact aC
end Go.Proofs.YtioafciifiggaaaGreatDoor
