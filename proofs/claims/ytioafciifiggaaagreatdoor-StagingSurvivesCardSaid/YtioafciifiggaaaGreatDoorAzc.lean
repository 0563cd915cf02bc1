/- Staging. No condition. -/
import Derived.Test.YtioafciifiggaaaGreatDoorL0
import Derived.Test.YtioafciifiggaaaGreatDoorAzb
import Derived.Test.YtioafciifiggaaaGreatDoorAj
set_option linter.all false
namespace Go.Proofs.YtioafciifiggaaaGreatDoor
open Go.Proofs Go.AL
set_option maxRecDepth 100000
set_option maxHeartbeats 1000000
attribute [local irreducible] cH AW b9 dR eH hold
def tE(ws:List eW):List (Int×aH):=ws.flatMap fun w=>fE w.2.1 w.2.2
theorem Me:∀(ws:List eW) (st:List aH) (ca:List (Int×aH)),(∀w∈ws,w.1=0/\0<=w.2.1/\w.2.1+w.2.2.length<=(st.length:Int))->ru ws ⟨st,ca⟩=some ⟨st,ca++tE ws⟩
 |[],st,ca,_=>by simp[ru,tE]
 |w::l,st,ca,h=>by
  obtain⟨h1,h2,h3⟩:=h w (by simp)
  have hi:l5 ⟨st,ca⟩ w.2.1 w.2.2.length=true:=by
   unfold l5;simp only[k6,decide_eq_true_eq];omega
  unfold ru;rw[if_pos h1,if_pos hi,Me l st _ (fun x hx=>h x (by simp[hx]))]
  simp[tE]
theorem ah9:∀(ca:List (Int×aH)) (st:List aH) (i:Nat),(∀c∈ca,0<=c.1)->(fA st ca).getD i aE=st.getD i aE\/((i:Int),(fA st ca).getD i aE)∈ca
 |[],st,i,_=> .inl rfl
 |c::ca,st,i,h=>by
  have h0:=h c (by simp)
  rcases ah9 ca (st.set c.1.toNat c.2) i (fun x hx=>h x (by simp[hx]))with e|e
  ·have e2:(fA st (c::ca)).getD i aE=(st.set c.1.toNat c.2).getD i aE:=e
   rw[e2,Wx];by_cases g:c.1.toNat=i/\i<st.length
   ·rw[if_pos g]
    refine .inr ?_
    have:((i:Int),c.2)=c:=by
     obtain⟨c1,c2⟩:=c;simp only[cD,and_true];simp only[]at g h0;omega
    rw[this];simp
   ·rw[if_neg g]
    exact .inl rfl
  ·exact .inr (OB _ e)
theorem bt0{ws:List eW}(h:∀w∈ws,0<=w.2.1):∀c∈tE ws,0<=c.1:=fun c hc=>by
 unfold tE at hc;obtain⟨w,hw,hc⟩:=tJ.1 hc;obtain⟨j,j1,j2,-⟩:=UW _ _ _ hc;have:=h w hw;omega
theorem bt1(ws:List eW)(k:Nat):∀c∈tE (ws.take k),c∈tE ws:=fun c hc=>by
 simp only[tE,tJ]at hc⊢;obtain⟨w,hw,hc⟩:=hc;exact⟨w,oS hw,hc⟩
theorem bt2{st:List aH}{ws:List eW}{Gd:bL->Prop}(hl:st.length<=4096)(hw:∀w∈ws,w.1=0/\0<=w.2.1/\w.2.1+w.2.2.length<=(st.length:Int))
  (hg:∀st',st'.length=st.length->(∀i:Nat,st'.getD i aE=st.getD i aE\/((i:Int),st'.getD i aE)∈tE ws)->Gd ⟨st',[]⟩):
  ru (ws++[(1,0,[])]) ⟨st,[]⟩=some ⟨fA st (tE ws),[]⟩/\Path Gd (ws++[(1,0,[])]) ⟨st,[]⟩:=by
 have h0:dM ⟨st,[]⟩=0:=IE hl rfl;have h1:=Me ws st [] hw
 have h2:ru (ws++[(1,0,[])]) ⟨st,[]⟩=some ⟨fA st (tE ws),[]⟩:=by
  rw[Ie _ _ _ _ h1];simp only[ru,pW];rfl
 refine⟨h2,fun k hk=> ?_⟩
 simp only[bP,dK,fJ]at hk;by_cases bG:k<=ws.length
 ·have e:(ws++[((1:Int),(0:Int),([]:List aH))]).take k=ws.take k:=O9 bG
  have h3:=Me (ws.take k) st [] (fun w hm=>hw w (oS hm))
  refine⟨_,by rw[e];exact h3,fun c=> ?_⟩
  have h4:dM ⟨st,[]++tE (ws.take k)⟩=0:=(OY _ _ _ 0 h0 h3).2.1;obtain⟨st',q1,q2,q3⟩:=ZY h4 c;rw[q1];refine hg st' q2 fun i=> ?_
  rcases q3 i with e|e
  ·exact .inl e
  ·exact .inr (bt1 _ _ _ e)
 ·refine⟨_,by rw[eD (by simp;omega)];exact h2,fun c=> ?_⟩
  have hn:=wJ (tE ws) st;have h5:dM ⟨fA st (tE ws),[]⟩=0:=IE (by omega) rfl
  rw[UY h5];exact hg _ hn fun i=>ah9 _ _ _ (bt0 fun w hm=>(hw w hm).2.1)
theorem LY{t i n:Nat}(h:t+i<n):(t+i) % n=t+i:=wC h
theorem bt3{n t:Nat}{E:List aH}(ht:t<n)(hE:E.length<=n){L:Nat}(hL:16+n<=L):∀w∈tC 0 n t E,w.1=0/\0<=w.2.1/\w.2.1+w.2.2.length<=(L:Int):=fun w hw=>by
 unfold tC at hw;split at hw
 ·rename_i g
  simp only[cG,jF,or_false]at hw;rcases hw with rfl|rfl
  ·refine⟨rfl,by simp only[];omega,?_⟩
   simp only[cU];omega
  ·refine⟨rfl,by simp only[];omega,?_⟩
   simp only[eF];omega
 ·rename_i g
  simp only[cG,jF,or_false]at hw;subst hw;refine⟨rfl,by simp only[];omega,?_⟩
  simp only[];omega
theorem ai0{n t:Nat}{E:List aH}(ht:t<n)(hE:E.length<=n):∀c∈tE (tC 0 n t E),∃i,i<E.length/\c.1=16+(((t+i) % n:Nat):Int)/\c.2=E.getD i aE:=fun c hc=>by
 unfold tE at hc;obtain⟨w,hw,hc⟩:=tJ.1 hc;obtain⟨j,j1,j2,j3⟩:=UW _ _ _ hc;unfold tC at hw;split at hw
 ·rename_i g
  simp only[cG,jF,or_false]at hw;rcases hw with rfl|rfl
  ·simp only[cU]at j1 j2 j3
   refine⟨j,by omega,?_,?_⟩
   ·rw[LY (by omega),j2]
    push_cast
    omega
   ·rw[j3,eP,G0 (by omega),<-eP]
  ·simp only[eF]at j1 j2 j3
   refine⟨((n:Int)-t).toNat+j,by omega,?_,?_⟩
   ·rw[H6 (by omega) (by omega),j2]
    omega
   ·rw[j3,getD_drop]
 ·rename_i g
  simp only[cG,jF,or_false]at hw;subst hw;simp only[]at j1 j2 j3;refine⟨j,j1,?_,j3⟩;rw[LY (by omega),j2]
  push_cast
  omega
theorem bt4{C:List aH}{t e:Nat}(h:t+e<=C.length):C=C.take t++((C.drop t).take e++C.drop (t+e)):=by
 conv=>lhs;rw[<-yJ t C,<-yJ e (C.drop t),O7]
theorem getD_take{A:List aH}{i k:Nat}(h:i<k):(A.take k).getD i aE=A.getD i aE:=by
 rw[eP,G0 h,<-eP]
theorem bt5{A B C E:List aH}{t:Nat}(hA:A.length=8)(hB:B.length=8)(ht:t<C.length)(hE:E.length<=C.length):
  ∃C',fA (A++(B++C)) (tE (tC 0 C.length t E))=A++(B++C')/\C'.length=C.length/\
   ∀p,p<C.length->(C'.getD p aE=C.getD p aE/\∀i,i<E.length->p≠(t+i) % C.length)\/∃i,i<E.length/\p=(t+i) % C.length/\C'.getD p aE=E.getD i aE:=by
 have hAB:(A++B).length=16:=by rw[bP];omega
 have over:∀(D N:List aH) (k:Nat),k+N.length<=D.length->fA (A++(B++D)) (fE (16+(k:Int)) N)=A++(B++(D.take k++(N++D.drop (k+N.length)))):=fun D N k hk=>by
  have h1:=OX N ((D.drop k).take N.length) (A++(B++D.take k)) (D.drop (k+N.length)) (by rw[cU,eF];omega)
  have h2:((A++(B++D.take k)).length:Int)=16+(k:Int):=by
   rw[<-fF,bP,hAB,cU];omega
  rw[h2]at h1
  have h3:A++(B++D.take k)++((D.drop k).take N.length++D.drop (k+N.length))=A++(B++D):=by
   rw[fF,fF,<-bt4 hk]
  rw[h3]at h1;rw[h1,fF,fF]
 unfold tC;split
 ·rename_i g
  obtain⟨q,hq⟩:∃q:Nat,(C.length:Int)-t=q:=⟨C.length-t,by omega⟩
  rw[hq]at g⊢;rw[mE];have II:t+q=C.length:=by omega
  have l1:(E.take q).length=q:=by rw[cU];omega
  have l2:(E.drop q).length=E.length-q:=eF;have e1:=over C (E.take q) t (by omega)
  rw[l1,II,BB,mD]at e1;have lD:(C.take t++E.take q).length=C.length:=by rw[bP,cU,l1];omega
  have e2:=over (C.take t++E.take q) (E.drop q) 0 (by omega)
  rw[l2,xE,pW,pJ]at e2;refine⟨E.drop q++(C.take t++E.take q).drop (E.length-q),?_,by rw[bP,l2,eF,lD];omega,fun p hp=> ?_⟩
  ·simp only[tE,O0,O1,mD]
   rw[aX3];have z1:(0:Int)+16+(t:Int)=16+(t:Int):=by omega
   have z2:(0:Int)+16=16+((0:Nat):Int):=by omega
   rw[z1,e1,z2,e2]
  ·by_cases g1:p<E.length-q
   ·refine .inr ⟨q+p,by omega,?_,?_⟩
    ·rw[H6 (by omega) (by omega)]
     omega
    ·rw[J4 (by omega),getD_drop]
   ·rw[F6 (by omega),l2,getD_drop,show E.length-q+(p-(E.length-q))=p by omega]
    by_cases g2:p<t
    ·rw[J4 (by rw[cU];omega),getD_take g2]
     refine .inl ⟨rfl,fun i hi=> ?_⟩
     by_cases g3:t+i<C.length
     ·rw[LY g3];omega
     ·rw[H6 (by omega) (by omega)];omega
    ·have l3:(C.take t).length=t:=by rw[cU];omega
     rw[F6 (by omega),l3,getD_take (by omega)]
     refine .inr ⟨p-t,by omega,?_,rfl⟩
     rw[LY (by omega)]
     omega
 ·rename_i g
  have e1:=over C E t (by omega)
  have l3:(C.take t).length=t:=by rw[cU];omega
  refine⟨C.take t++(E++C.drop (t+E.length)),?_,by rw[bP,bP,eF,l3];omega,fun p hp=> ?_⟩
  ·simp only[tE,O0,O1,mD]
   have z1:(0:Int)+16+(t:Int)=16+(t:Int):=by omega
   rw[z1,e1]
  ·by_cases g1:p<t
   ·rw[J4 (by omega),getD_take g1]
    refine .inl ⟨rfl,fun i hi=> ?_⟩
    rw[LY (by omega)]
    omega
   ·rw[F6 (by omega),l3]
    by_cases g2:p-t<E.length
    ·rw[J4 g2]
     refine .inr ⟨p-t,g2,?_,rfl⟩;rw[LY (by omega)]
     omega
    ·rw[F6 (by omega),getD_drop]
     refine .inl ⟨?_,fun i hi=> ?_⟩
     ·congr 1
      omega
     ·rw[LY (by omega)]
      omega
abbrev Kp:=Int×List Int
structure Rg(C:List aH)(j:Jr)(rs:List Kp)(F:List aH):Prop where
 start:j.start=0
 count:j.count=16+C.length
 W7:16+C.length<=4096
 ok:jE j=0
 b8:j.b8=rs.map LW
 yV:∀r∈rs,Ce r
 LZ:jV C j.head.toNat=iC rs j.first++F
 sec:∀s∈F,dC s
theorem Rg.J6{C:List aH}{j:Jr}{rs:List Kp}{F:List aH}(G:Rg C j rs F):0<=j.head/\j.head.toNat<C.length/\1<=j.first/\j.first+rs.length<=1073741824/\j.b8.sum=(iC rs j.first).length/\(iC rs j.first).length+F.length=C.length/\j.tail=(j.head+j.b8.sum) % (j.count-16)/\jN j=j.first+rs.length:=by
 obtain⟨h1,h2,h3,h4,h5,h6,h7,h8⟩:=uP G.ok;have c:=G.count;have hl:=yW (C:=C) (h:=j.head.toNat) (by omega)
 have hz:j.b8.length=rs.length:=by rw[G.b8,l4]
 have hn:=By G.ok;rw[G.LZ,bP]at hl;refine⟨h2,by omega,h4,by omega,by rw[G.b8,Lv],hl,h6,by omega⟩
theorem bt7{A B C F:List aH}{j:Jr}{rs:List Kp}{K:Int}(G:Rg C j rs F)(hS:sV A B (aQ j.head++aQ j.first) K)(hF:mU F (j.first+rs.length)=([],0)):
  (mV ⟨A++(B++C),[]⟩ 0 j.count).2=0/\(mV ⟨A++(B++C),[]⟩ 0 j.count).1.1=j/\(mV ⟨A++(B++C),[]⟩ 0 j.count).1.2.1=jT rs j.first/\
    ((∀s∈F,bN s<j.first+rs.length)->(mV ⟨A++(B++C),[]⟩ 0 j.count).1.2.2=[]):=by
 obtain⟨d1,d2,d3,d4,d5,d6,d7,d8⟩:=G.J6;have hb:=G.W7;have hc:=G.count;have lA:A.length=8:=hS.elim (·.lX) (·.lY)
 have lB:B.length=8:=hS.elim (·.lY) (·.lX)
 obtain⟨i,g,hf,-⟩:=Xd hS hb;have e1:=EM (n:=j.head) d1 (by omega) (aQ j.first)
 have e2:=EM (n:=j.first) (by omega) (by omega) []
 rw[mD]at e2
 have hh:jO ⟨A++(B++C),[]⟩ 0 j.count=((j.head,j.first),0):=by
  unfold jO;rw[hf];simp only[if_true];rw[e1];simp only[if_true];rw[e2];simp only[];rw[if_pos ⟨trivial,trivial,by omega,by omega,by omega⟩]
 have ZR:tD ⟨A++(B++C),[]⟩ 0 j.count=C:=by
  show((A++(B++C)).drop _).take _=C
  rw[hc,show(0+16:Int).toNat=(A++B).length by rw[bP,lA,lB];rfl,<-fF,OC,show(16+(C.length:Int)-16).toNat=C.length by omega,lI]
  rfl
 have hrc:AO C j.head j.first=jT rs j.first:=bs1 G.yV d3 d4 G.sec G.LZ hF
 have hv:qY 0 j.count=true:=by
  have:=(uP G.ok).1
  rwa[G.start]at this
 have Cl:dM ⟨A++(B++C),[]⟩=0:=ZZ lA lB hb
 have hj:pP 0 j.count j.head j.first (jT rs j.first)=j:=by
  unfold pP;rw[Ma,<-G.b8,<-d7];obtain⟨js,jc,jh,jt,jf,jz⟩:=j;have:=G.start;simp only[]at this;subst this;rfl
 have key:mV ⟨A++(B++C),[]⟩ 0 j.count=((j,jT rs j.first,J3 0 (AN C (j.count-16) j.head j.b8.sum (j.first+rs.length))),0):=by
  unfold mV;rw[if_pos Cl,if_pos ⟨hv,by simp only[bP];omega⟩,hh]
  simp only[if_true];rw[ZR,hrc,hj,Ma,<-G.b8,Ci]
 rw[key];refine⟨rfl,rfl,rfl,fun hs=> ?_⟩
 simp only[]
 have hx:AN C (j.count-16) j.head j.b8.sum (j.first+rs.length)=AN C C.length j.head.toNat (iC rs j.first).length (j.first+rs.length):=by
  rw[hc,d5];congr 1
  ·omega
  ·omega
 rw[hx];unfold J3;rw[ah1 _ _ (bs0 d2 G.LZ hs)];rfl
theorem bt9{A B C F:List aH}{j:Jr}{rs:List Kp}{K k:Int}{p:List Int}(G:Rg C j rs F)(hS:sV A B (aQ j.head++aQ j.first) K)(hF:∀s∈F,bN s<j.first+rs.length)
  (hk:1<=k/\k<=255) (hp:∀x∈p,aV x) (h:(kD j k p).2.2=0):
  ∃C' F',ru (kD j k p).2.1 ⟨A++(B++C),[]⟩=some ⟨A++(B++C'),[]⟩/\Rg C' (kD j k p).1 (rs++[(k,p)]) F'/\(kD j k p).1.head=j.head/\(kD j k p).1.first=j.first/\(kD j k p).1.count=j.count/\(∀s∈F',bN s<j.first+(rs.length+1:Nat))/\
   Path (fun e=>∃D H,e=⟨A++(B++D),[]⟩/\((Rg D j rs H/\mU H (j.first+rs.length)=([],0))\/(Rg D (kD j k p).1 (rs++[(k,p)]) H/\mU H (j.first+(rs.length+1:Nat))=([],0)))) (kD j k p).2.1 ⟨A++(B++C),[]⟩:=by
 obtain⟨d1,d2,d3,d4,d5,d6,d7,d8⟩:=G.J6;have hb:=G.W7;have hc:=G.count;have eG:=G.start;have lA:A.length=8:=hS.elim (·.lX) (·.lY)
 have lB:B.length=8:=hS.elim (·.lY) (·.lX)
 have lQ:p.length<=4096:=by
  unfold kD at h;rw[if_pos G.ok]at h;split at h
  ·rename_i g
   unfold tB at g;rw[if_neg (by omega)]at g
   split at g
   ·exact absurd g (by decide)
   ·omega
  ·rename_i g;exact absurd h g
 have hE:=bq8 hk (s:=jN j) (by omega) lQ
 unfold kD at h⊢;rw[if_pos G.ok,hE]at h⊢;simp only[if_true]at h⊢;split at h
 ·exact absurd h (by decide)
 rename_i g1;split at h
 ·exact absurd h (by decide)
 rename_i g2;rw[if_neg g1,if_neg g2];simp only[];clear h hE;have hlE:=W4 k (jN j) p
 have ht2:j.tail=(((j.head.toNat+(iC rs j.first).length) % C.length:Nat):Int):=by
  rw[d7,hc,d5,Ua]
  push_cast
  congr 1
  ·omega
  ·omega
 have F7:=zO (j.head.toNat+(iC rs j.first).length) (show 0<C.length by omega)
 have wT:j.count-16=(C.length:Int):=by omega
 have hgE:∀x∈jM k (jN j) p,bN x=jN j:=Lu (by omega) (by omega)
 have bu1:∀x∈jM k (jN j) p,dC x:=Lx hk hp;have Mf:(jM k (jN j) p).length<=F.length:=by omega
 rw[eG,ht2,wT];have J7:∀i,((j.head.toNat+(iC rs j.first).length) % C.length+i) % C.length=(j.head.toNat+(iC rs j.first).length+i) % C.length:=fun i=>Nat.mod_add_mod _ _ _
 obtain⟨C',n1,n2,n3⟩:=bt5 (A:=A) (B:=B) (C:=C) (E:=jM k (jN j) p) (t:=(j.head.toNat+(iC rs j.first).length) % C.length) lA lB F7 (by omega)
 simp only[J7]at n3;have bu2:=bs2 d2 G.LZ n2 Mf n3
 have nP:iC (rs++[(k,p)]) j.first=iC rs j.first++jM k (jN j) p:=by
  rw[Lw,iC,iC,mD,d8]
 --J8 cF5 with J8 record
 have hj':∀D,D.length=C.length->jV D j.head.toNat=iC rs j.first++(jM k (jN j) p++F.drop (jM k (jN j) p).length)->Rg D ⟨0,j.count,j.head,((((j.head.toNat+(iC rs j.first).length) % C.length:Nat):Int)+(jM k (jN j) p).length) % (C.length:Int),j.first,j.b8++[((jM k (jN j) p).length:Int)]⟩ (rs++[(k,p)]) (F.drop (jM k (jN j) p).length):=fun D hD hr=>by
  obtain⟨h1,h2,h3,h4,h5,h6,h7,h8⟩:=uP G.ok;rw[eG]at h1;have hz:j.b8.length=rs.length:=by rw[G.b8,l4]
  refine⟨rfl,by rw[hD];exact hc,by omega,?_,?_,fun r hr=> ?_,?_,fun s hs=>G.sec s (lJ hs)⟩
  ·refine af4 h1 h2 h3 h4 ?_ ?_ ?_ ?_
   ·simp only[bP,dK,fJ]
    push_cast
    omega
   ·simp only[TJ,qP,OD]
    rw[<-ht2,d7,wT,TN,<-Fy,Ub]
   ·simp only[TJ,qP,OD]
    omega
   ·rw[List.any_append,h8]
    simp only[Ts,List.any_nil,vK,Tt,Bool.or_false,Bool.or_eq_false_iff,decide_eq_false_iff_not];omega
  ·simp only[]
   rw[G.b8,vY];simp only[gJ,tK,LW,hlE]
  ·rcases lS.1 hr with e|e
   ·exact G.yV r e
   ·simp only[cG,jF,or_false]at e
    subst e;exact⟨hk,lQ,hp⟩
  ·simp only[]
   rw[hr,nP,fF]
 have hFd:∀s∈F.drop (jM k (jN j) p).length,bN s<j.first+(rs.length+1:Nat):=fun s hs=>by
  have:=hF s (lJ hs)
  push_cast
  omega
 have bu3:mU (F.drop (jM k (jN j) p).length) (j.first+(rs.length+1:Nat))=([],0):=Cd (fun s hs=>G.sec s (lJ hs)) hFd
 have hlen:(A++(B++C)).length=16+C.length:=by simp only[bP];omega
 obtain⟨p1,p2⟩:=bt2 (st:=A++(B++C)) (ws:=tC 0 (C.length:Int) (((j.head.toNat+(iC rs j.first).length) % C.length:Nat):Int) (jM k (jN j) p))
  (Gd:=fun e=>∃D H,e=⟨A++(B++D),[]⟩/\((Rg D j rs H/\mU H (j.first+rs.length)=([],0))\/(Rg D ⟨0,j.count,j.head,((((j.head.toNat+(iC rs j.first).length) % C.length:Nat):Int)+(jM k (jN j) p).length) % (C.length:Int),j.first,j.b8++[((jM k (jN j) p).length:Int)]⟩ (rs++[(k,p)]) H/\mU H (j.first+(rs.length+1:Nat))=([],0))))
  (by omega) (bt3 F7 (by omega) (by omega)) (fun st' s1 s2=>by
    --J8 part before J8 ring stays
    obtain⟨D,t1,t2,t3⟩:=Wz (P:=A++B) (O:=C) (Q:=[]) (st':=st') (ca:=tE (tC 0 (C.length:Int) (((j.head.toNat+(iC rs j.first).length) % C.length:Nat):Int) (jM k (jN j) p)))
     (by rw[mD,s1,fF]) (fun c hc=>by
       obtain⟨i,i1,i2,-⟩:=ai0 F7 (by omega) c hc
       have:=zO ((j.head.toNat+(iC rs j.first).length) % C.length+i) (show 0<C.length by omega)
       rw[bP,lA,lB]
       push_cast
       omega) (fun i=>by rw[mD,fF];exact s2 i)
    rw[mD,fF]at t1
    obtain⟨H,u1,u2,u3⟩:=ah2 (C:=C) (C':=D) (E:=jM k (jN j) p) d2 G.LZ t2 Mf (fun q hq=>by
     rcases t3 q hq with e|e
     ·exact .inl e
     ·obtain⟨i,i1,i2,i3⟩:=ai0 F7 (by omega) _ e
      simp only[]at i2 i3;rw[J7]at i2;rw[bP,lA,lB]at i2
      exact .inr ⟨i,i1,by omega,i3⟩)
    have ai4:∀s∈H,dC s:=fun s hs=>by
     obtain⟨i,hi,rfl⟩:=wA.1 hs;have:H[i]=H.getD i aE:=by simp[hi]
     rw[this];rcases u3 i (by omega)with e|⟨e1,e⟩
     ·rw[e];exact G.sec _ (cQ aE (by omega))
     ·rw[e];exact bu1 _ (cQ aE e1)
    rcases bs3 (F:=F) (F':=H) (k:=k) (s:=jN j) (p:=p) (by omega) lQ (fun x hx=>by rw[d8];exact hF x hx) Mf u2 ai4 u3 with e|e
    ·refine⟨D,_,by rw[t1],.inr ⟨hj' D t2 (by rw[u1,e]),bu3⟩⟩
    ·refine⟨D,H,by rw[t1],.inl ⟨⟨G.start,by rw[t2];exact hc,by omega,G.ok,G.b8,G.yV,u1,ai4⟩,by rw[<-d8];exact e⟩⟩)
 rw[n1]at p1;exact⟨C',_,p1,hj' C' n2 bu2,trivial,trivial,trivial,hFd,p2⟩
theorem bu4{C:List aH}{h m:Nat}(hh:h<C.length)(hm:m<=C.length):jV C ((h+m) % C.length)=(jV C h).drop m++(jV C h).take m:=by
 have h1:=zO (h+m) (show 0<C.length by omega)
 have l1:=yW (C:=C) (h:=(h+m) % C.length) (by omega)
 have l2:=yW (C:=C) (h:=h) (by omega)
 refine Cj (by rw[bP,eF,cU];omega) fun i hi=> ?_
 rw[l1]at hi;rw[DR (by omega) hi,Nat.mod_add_mod]
 by_cases g:i<C.length-m
 ·rw[J4 (by rw[eF];omega),getD_drop,DR (by omega) (by omega),s9]
 ·rw[F6 (by rw[eF];omega),eF,l2,getD_take (by omega),DR (by omega) (by omega)]
  have e:h+m+i=(h+(i-(C.length-m)))+C.length:=by omega
  rw[e,Nat.add_mod_right]
theorem ai5:∀(R:List Kp) (q:Int) (k:Nat),k<=R.length->iC R q=iC (R.take k) q++iC (R.drop k) (q+k):=fun R q k h=>by
 conv=>lhs;rw[<-yJ k R]
 rw[Lw,cU,aF0 h]
theorem Rg.drop{C F:List aH}{j:Jr}{rs:List Kp}(G:Rg C j rs F){k:Nat}(hk:k<=rs.length)(iX:k=0\/j.first+k<=1073741824):
  Rg C ⟨j.start,j.count,rQ j k,j.tail,j.first+k,j.b8.drop k⟩ (rs.drop k) (F++iC (rs.take k) j.first):=by
 obtain⟨d1,d2,d3,d4,d5,d6,d7,d8⟩:=G.J6;obtain⟨h1,h2,h3,h4,h5,h6,h7,h8⟩:=uP G.ok;have hc:=G.count;have hz:j.b8.length=rs.length:=by rw[G.b8,l4]
 have kN:=ah3 (j:=j) (k:=k) (by omega)
 have Mg:(j.b8.take k).sum+(j.b8.drop k).sum=j.b8.sum:=by rw[<-TJ,yJ]
 have AP:(j.b8.take k).sum=((iC (rs.take k) j.first).length:Int):=by rw[Lv,G.b8,TH]
 have hm:(iC (rs.take k) j.first).length<=C.length:=by
  have:=ai5 rs j.first k hk
  have:=congrArg List.length this;rw[bP]at this;omega
 have ai6:(j.b8.drop k).any vK=false:=by
  rw[TF]at h8⊢;exact fun x hx=>h8 x (lJ hx)
 have cF6:=(GN _ (GM ai6)).1;have cF7:0<=(j.b8.take k).sum:=by omega
 refine⟨G.start,hc,G.W7,af4 h1 kN.1 kN.2 ?_ ?_ ?_ ?_ ai6,?_,fun r hr=>G.yV r (lJ hr),?_,fun s hs=> ?_⟩
 ·simp only[]
  omega
 ·simp only[eF]
  omega
 ·simp only[]
  rw[h6];unfold rQ;rw[Ub,<-Mg,Fy]
 ·simp only[]
  omega
 ·simp only[]
  rw[G.b8,List.map_drop]
 ·simp only[]
  have e:(rQ j k).toNat=(j.head.toNat+(iC (rs.take k) j.first).length) % C.length:=by
   have:rQ j k=(((j.head.toNat+(iC (rs.take k) j.first).length) % C.length:Nat):Int):=by
    unfold rQ;rw[AP,hc,Ua]
    push_cast
    congr 1
    ·omega
    ·omega
   omega
  rw[e,bu4 d2 hm,G.LZ,ai5 rs j.first k hk,fF,OC,I7,fF]
  ·rfl
  ·rfl
 ·rcases lS.1 hs with e|e
  ·exact G.sec s e
  ·exact Cf _ _ (fun r hr=>G.yV r (oS hr)) s e
theorem W8(a b:Int):(aQ a++aQ b).length<=31:=by
 have:=AM a;have:=AM b;rw[bP];omega
theorem Mh(a b:Int):∀x∈aQ a++aQ b,aV x:=fun x hx=>by
 rcases lS.1 hx with e|e
 ·exact wR _ x e
 ·exact wR _ x e
theorem bu5{A B C F:List aH}{j:Jr}{rs:List Kp}{K:Int}(G:Rg C j rs F)(hS:sV A B (aQ j.head++aQ j.first) K)(hF:∀s∈F,bN s<j.first+rs.length)(hK:K+1<4294967296)
  {k:Nat} (hk:k<=rs.length):
  ∃ops j' A' B' F',uY ⟨A++(B++C),[]⟩ j (j.first+k-1)=(j',ops,0)/\j'.first=j.first+k/\j'.count=j.count/\ops.length<=2/\ru ops ⟨A++(B++C),[]⟩=some ⟨A'++(B'++C),[]⟩/\Rg C j' (rs.drop k) F'/\(∀s∈F',bN s<j'.first+(rs.drop k).length)/\
   sV A' B' (aQ j'.head++aQ j'.first) (K+1)/\
   Path (fun e=>∃A2 B2,e=⟨A2++(B2++C),[]⟩/\(sV A2 B2 (aQ j.head++aQ j.first) (K+1)\/sV A2 B2 (aQ j'.head++aQ j'.first) (K+1))) ops ⟨A++(B++C),[]⟩:=by
 obtain⟨d1,d2,d3,d4,d5,d6,d7,d8⟩:=G.J6;have hb:=G.W7;have hz:j.b8.length=rs.length:=by rw[G.b8,l4]
 have lA:A.length=8:=hS.elim (·.lX) (·.lY)
 have lB:B.length=8:=hS.elim (·.lY) (·.lX)
 have Cl:dM ⟨A++(B++C),[]⟩=0:=ZZ lA lB hb;unfold uY;rw[if_pos Cl,if_pos G.ok,if_neg (by omega)]
 by_cases g:k=0
 ·rw[if_pos (by omega)]
  subst g;refine⟨[],j,A,B,F,rfl,by simp,rfl,by simp,rfl,G,hF,hS.mono (by omega),fun i hi=>⟨⟨A++(B++C),[]⟩,by simp[ru],fun c=> ?_⟩⟩
  rw[UY Cl];exact⟨A,B,rfl,.inl (hS.mono (by omega))⟩
 ·rw[if_neg (by omega)]
  have e1:(j.first+(k:Int)-1+1-j.first).toNat=k:=by omega
  have e2:j.first+(k:Int)-1+1=j.first+k:=by omega
  rw[e1,e2,G.start];obtain⟨ops,A2,B2,s1,s2,s3,s4,s5⟩:=aX6 (q:=aQ (rQ j k)++aQ (j.first+k)) hS hb hK (W8 _ _) (Mh _ _)
  rw[s1];have hR:=G.drop hk (.inr (by omega))
  rw[G.start]at hR;refine⟨ops,⟨0,j.count,rQ j k,j.tail,j.first+k,j.b8.drop k⟩,A2,B2,_,by rw[if_pos rfl],rfl,rfl,by omega,s3,hR,fun s hs=> ?_,s4,s5⟩
  have hl:(rs.drop k).length=rs.length-k:=eF;simp only[];rcases lS.1 hs with e|e
  ·have:=hF s e
   omega
  ·have:=ag3 (rs.take k) j.first (by omega) (by rw[cU];omega) s e
   rw[cU]at this;omega
end Go.Proofs.YtioafciifiggaaaGreatDoor
