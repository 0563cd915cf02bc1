/- Staging. No condition. -/
import Derived.Test.YtioafciifiggaaaGreatDoorL0
import Derived.Test.YtioafciifiggaaaGreatDoorAg
import Derived.Test.YtioafciifiggaaaGreatDoorLc
set_option linter.all false
namespace Go.Proofs.YtioafciifiggaaaGreatDoor
open Go.Proofs Go.AL Go.RowKit Go.Maps
open Go.WideElems (Fit rd rg pl)
def sF(n:Int):Value:= .int .i64 n
def ZP(n:Int):Prop:= -9223372036854775808<=n/\n<=9223372036854775807
theorem aU3{E:Env}{W:World}{es:List (Value×AV)}{ks:List Int}{b:Nat}{ms:Array MapEntry}{clock:Nat}(hb:W.heap[b]? =some (.map ms clock))(hs:MapKept.Stamped ms clock)(hl:ms.size=es.length)
  (hc:∀(i:Nat) k x,es[i]? =some (k,x)->∃e,ms[i]? =some e/\e.key=k/\RV E W x e.val) (KO:es.map (·.1)=ks.map sF) (hr:∀n∈ks,ZP n) (ZO:es.length<=1000000):
  ∃D0:DataW Unit,W.ownsMap Tryz.prog 3 (fun _=>some (.nil,[])) b es.length D0/\(intKeys D0).Perm ks/\Maps.size D0=ks.length:=by
 have qU:ks.length=es.length:=by have:=congrArg List.length KO;simpa using this.symm
 have ZQ:ms.toList.map (·.key)=ks.map sF:=by
  rw[<-KO];apply BE;intro i;rw[gE,gE,vD];cases hi:es[i]? with
  |none=>
   have h1:es.length<=i:=List.getElem?_eq_none_iff.1 hi;rw[O5 (by omega)];rfl
  |some p=>
   obtain⟨e,h1,h2,_⟩:=hc i p.1 p.2 hi;rw[h1];simp[h2]
 have hu:Tryz.prog.underlying 3=some (.int .i64):=by kernel_rfl
 have Vy:∀x∈ms.toList,∃n,x.key=sF n/\rd Tryz.prog 3 (fun _=>some ((.nil:DataW Unit),[])) x=some (.int .i64 n,.nil):=fun x hx=>by
  have hm:x.key∈ks.map sF:=by rw[<-ZQ];exact kV.2 ⟨x,hx,rfl⟩
  obtain⟨n,hn,hk⟩:=kV.1 hm
  have Vz:(Lit.int .i64 n).wf=true:=by
   have:=hr n hn;unfold ZP at this;simp[Lit.wf];exact⟨this.1,this.2⟩
  refine⟨n,hk.symm,?_⟩;have:=Maps.keyOf_int_mk hu Vz;unfold rd;rw[<-hk];unfold sF;rw[this];rfl
 have ZR:ms.toList.map (rg Tryz.prog 3 (fun _=>some ((.nil:DataW Unit),[])))=ks.map fun n=>(.int .i64 n,.nil):=by
  have h1:ms.toList.map (rg Tryz.prog 3 (fun _=>some ((.nil:DataW Unit),[])))=(ms.toList.map (·.key)).map fun k=>((match k with| .int _ n=>Lit.int .i64 n|_=> .bool false),(.nil:DataW Unit)):=by
   rw[I1];refine s7 fun x hx=> ?_
   obtain⟨n,h2,h3⟩:=Vy x hx;rw[Go.WideElems.rg_of h3];simp[h2,sF]
  rw[h1,ZQ,I1];exact s7 fun n _=>rfl
 refine⟨.map ((ms.toList.map (rg Tryz.prog 3 (fun _=>some ((.nil:DataW Unit),[])))).foldr DataW.insert []),⟨ms,clock,hb,⟨by unfold maxLen;omega,hs,fun x hx=> ?_⟩,by omega,rfl⟩,?_,?_⟩
 ·obtain⟨n,_,h⟩:=Vy x hx;exact⟨_,h⟩
 ·rw[ZR]
  unfold intKeys;refine((Go.WideShapes.sorted_perm _).map _).trans ?_;rw[I1];have:(fun p:Lit×DataW Unit=>Go.intOf p.1)∘(fun n:Int=>(Lit.int .i64 n,(DataW.nil:DataW Unit)))=id:=by funext n;rfl
  rw[this,List.map_id]
 ·rw[ZR]
  simp[Maps.size,length_sorted]
theorem Wa{N:Nat}{G:Nat->Option aI}{bid id:Nat}{w a:Bool}{es:List (Value×AV)}{ks:List Int}(hb:G bid=some (.cells 226 1 [[.omap id]] w a))(hm:G id=some (.map es))(KO:es.map (·.1)=ks.map sF)(hr:∀n∈ks,ZP n)(ZO:es.length<=1000000):
  fU Tryz.prog 133 [.fn (.func 185) [] [.ptr bid 0 0]] ⟨N,G⟩ (fun r H'=>H'=⟨N,G⟩/\r= .snap (aA bD (ks.mergeSort leI))):=by
 refine aU4 (by kernel_rfl) fun E W vs hH Wb=> ?_
 obtain⟨v,rfl⟩:∃v,vs=[v]:=by
  match vs,Wb.1 with
  |[v],_=>exact⟨v,rfl⟩
 have hv:=Wb.2 0 _ v rfl rfl;cases hv with
 |fn _ _ _ vf vc hl cW h1 h2=>
 obtain rfl:vf= #[]:=by apply cp9;simpa using hl.symm
 obtain⟨u,rfl⟩:∃u,vc= #[u]:=by
  obtain⟨l⟩:=vc
  match l,cW with
  |[u],_=>exact⟨u,rfl⟩
 have hu:=h2 0 _ u rfl rfl;cases hu with
 |ptr _ _ _ hU=>
 obtain⟨_,dP,_,⟨cur,cK,_,eX⟩,_⟩:=hH.core.ok bid _ hb;obtain⟨mv,aU5,aU6⟩:=eX 0 0 _ _ rfl rfl;cases aU6;obtain⟨_,⟨ms,clock,sG,eG,hlen,IF⟩,_⟩:=hH.core.ok id _ hm;obtain⟨D0,nO,aU7,qV⟩:=aU3 sG eG.1 hlen IF KO hr ZO;have qU:ks.length=es.length:=by have:=congrArg List.length KO;simpa using this.symm
 have BO:W.cell? ⟨E.ι bid,0,none⟩=some (.map (some (E.ι id))):=by
  rw[cell_of_row W _ 0 cur 226 (0,0) cK];simpa using aU5
 have hw:=aT9 (E.ι bid) (E.ι id) es.length D0 _ W (hH.core.eL bid hU) BO nO (by rw[qV];unfold maxLen;omega) (by rw[qV];omega)
 simp only[CN,zN];refine hw.mono fun e W' ⟨v,ss,he,hp,bH,OT,ZS⟩=> ?_
 have xM:ss.mergeSort leI=ks.mergeSort leI:=mergeSort_of_perm_i (hp.trans aU7);have KP:ss.length=(ks.mergeSort leI).length:=by rw[<-xM];simp
 obtain⟨pK,bH⟩:=bH;rcases bH with⟨rfl,h0⟩|⟨g,cap,dN,rfl,cA1,hg,xN,hcm,uM,Ho⟩
 ·refine⟨_,he,.snap (aA bD (ks.mergeSort leI)),E.L,ZS,fun _ _=>rfl,fun b bY=>hH.core.lim b (s8 ZS.size bY),?_,trivial,rfl⟩
  have:ks.mergeSort leI=[]:=jQ (by omega)
  rw[this];exact .lV none 0
 ·refine⟨_,he,.snap (aA bD (ks.mergeSort leI)),fun b=>if b=g then ss.length else E.L b,ZS,fun b bY=>if_neg (by omega),fun b bY=> ?_,?_,trivial,rfl⟩
  ·have GI:g<W'.heap.size:=(jG.1 hg).1
   simp only[];rw[if_neg (by omega)]
   exact hH.core.lim b (s8 ZS.size bY)
  ·rw[KP]
   refine .snap _ g 0 1 _ cap (fun i j=> .int .i64 ((ks.mergeSort leI).getD i 0)) (by simp[aA]) (by omega) ?_ ?_ ?_ ?_
   ·intro i row bH
    simp only[aA,gE]at bH;cases hk:(ks.mergeSort leI)[i]? with
    |none=>rw[hk]at bH;cases bH
    |some q=>rw[hk]at bH;injection bH with bH;subst bH;rfl
   ·simp[aA,KP]
   ·intro i j row x h3 h4
    simp only[aA,gE]at h3;cases hk:(ks.mergeSort leI)[i]? with
    |none=>rw[hk]at h3;cases h3
    |some q=>
     rw[hk]at h3;injection h3 with h3
     subst h3;have hj:j=0:=by have:=(dV.1 h4).1;simp[bD]at this;exact this
     subst hj;rw[cell_of_row W' _ _ dN 3 (0,0) hg];have h5:(dN.toList.take (ss.length*1))[i]? =some (encZ q):=by rw[Ho,xM,gE,hk];rfl
     have h6:i<ss.length*1:=by have:=(dV.1 h5).1;simp at this;omega
     rw[gU,if_pos h6,vD]at h5;simpa[hk]using h5
   ·intro i j row x h3 h4
    simp only[aA,gE]at h3;cases hk:(ks.mergeSort leI)[i]? with
    |none=>rw[hk]at h3;cases h3
    |some q=>
     rw[hk]at h3;injection h3 with h3
     subst h3;have hj:j=0:=by have:=(dV.1 h4).1;simp[bD]at this;exact this
     subst hj;simp only[bD,nE,bC]at h4;subst h4;have:(ks.mergeSort leI).getD i 0=q:=by simp[hk]
     rw[this];exact .c _ rfl
structure uN(G:Nat->Option aI)(N:Nat)(ca:List (Int×aH))(es:List (Value×AV))(ks:List Int)(nI:Int->Nat):Prop where
 es:es=ks.map fun q=>(sF q,.own (nI q) 0 (iY ca q).length)
 nodup:ks.Nodup
 mem:∀q,q∈ks↔iY ca q≠[]
 get:∀q∈ks,∃w,G (nI q)=some (.cells 124 8 (aA aS (iY ca q)) w true)
 inj:∀q∈ks,∀q'∈ks,nI q=nI q'->q=q'
 KQ:∀q∈ks,3<=nI q/\nI q<N
theorem Wc(a b:Int):qW (sF a) (sF b)=(a==b):=by simp[sF,qW]
theorem Hp{x:Int->AV}(q:Int):∀ks:List Int,rI (sF q) (ks.map fun k=>(sF k,x k))=if q∈ks then some (x q)else none
 |[]=>rfl
 |k::r=>by
  simp only[gJ,rI,Wc,Hp q r];by_cases h:k=q
  ·subst h;simp
  ·simp[h,mQ h]
theorem Wd{x:Int->AV}{y:AV}(q:Int):∀ks:List Int,ks.Nodup->tR (sF q) y (ks.map fun k=>(sF k,x k))=if q∈ks then ks.map fun k=>(sF k,if k=q then y else x k)else(ks.map fun k=>(sF k,x k))++[(sF q,y)]
 |[],_=>rfl
 |k::r,h=>by
  have hr:=Fv.1 h;simp only[gJ,tR,Wc,Wd q r hr.2];by_cases hk:k=q
  ·subst hk
   simp;intro a ha hak;subst hak;exact absurd ha hr.1
  ·simp only[beq_iff_eq,hk,if_false,cG,mQ hk,false_or]
   split<;>rfl
theorem aV0{x:Int->AV}(ks:List Int):xO (.int .i64) (ks.map fun k=>(sF k,x k))=true:=by
 simp[xO,sF,tS]
section
variable {G : Nat -> Option aI} {N : Nat} {ca : List (Int × aH)} {es : List (Value × AV)} {ks : List Int} {nI : Int -> Nat}
theorem uN.start:uN G N [] [] [] nI:=⟨rfl,aF1,fun q=>by simp[iY],fun q h=>by simp at h,fun q h=>by simp at h,fun q h=>by simp at h⟩
theorem uN.keys(h:uN G N ca es ks nI):xO (.int .i64) es=true:=by rw[h.es];exact aV0 ks
theorem uN.fst(h:uN G N ca es ks nI):es.map (·.1)=ks.map sF:=by rw[h.es,I1];rfl
theorem uN.We(h:uN G N ca es ks nI){q:Int}(hq:q∈ks):rI (.int .i64 q) es=some (.own (nI q) 0 (iY ca q).length):=by rw[h.es];exact(Hp q ks).trans (if_pos hq)
theorem uN.aV1(h:uN G N ca es ks nI){q:Int}(hq:q∉ks):rI (.int .i64 q) es=none:=by rw[h.es];exact(Hp q ks).trans (if_neg hq)
theorem aV2(ca:List (Int×aH))(p:Int×aH)(q:Int):iY (ca++[p]) q=if p.1=q then iY ca q++[p.2]else iY ca q:=by
 unfold iY;rw[KC,vY];by_cases h:p.1=q<;>simp[h]
theorem uN.put(h:uN G N ca es ks nI)(p:Int×aH){m N':Nat}{w:Bool}{G':Nat->Option aI}(hm:3<=m)(hN:N<=m)(sU:m<N')(nP:G' m=some (.cells 124 8 (aA aS (iY ca p.1++[p.2])) w true))
  (hold:∀q∈ks,q≠p.1->G' (nI q)=G (nI q)):∃UL UM,uN G' N' (ca++[p]) (tR (.int .i64 p.1) (.own m 0 ((iY ca p.1).length+1)) es) UL UM:=by
 have hv:∀q,iY (ca++[p]) q=if p.1=q then iY ca q++[p.2]else iY ca q:=aV2 ca p
 have UN:=Wd (x:=fun q=> .own (nI q) 0 (iY ca q).length) (y:= .own m 0 ((iY ca p.1).length+1)) p.1 ks h.nodup
 refine⟨if p.1∈ks then ks else ks++[p.1],fun q=>if q=p.1 then m else nI q,?_⟩
 have nQ:∀q,q∈(if p.1∈ks then ks else ks++[p.1])↔q∈ks\/q=p.1:=fun q=>by
  split
  ·rename_i kN
   exact⟨.inl,fun h=>h.elim id fun h=>h▸kN⟩
  ·simp
 have bU:∀q,q∈ks\/q=p.1->q≠p.1->q∈ks:=fun q h aJ=>h.resolve_right aJ
 refine⟨?_,?_,fun q=> ?_,fun q hq=> ?_,fun q hq q' UO he=> ?_,fun q hq=> ?_⟩
 ·rw[h.es]
  refine UN.trans ?_;by_cases kN:p.1∈ks
  ·simp only[kN,if_true]
   refine s7 fun q _=> ?_
   rw[hv q];by_cases hq:q=p.1
   ·subst hq;simp
   ·simp[hq,mQ hq]
  ·simp only[kN,if_false,vY,gJ,tK]
   congr 1
   ·refine s7 fun q hq=> ?_
    rw[hv q];have:q≠p.1:=fun e=>kN (e▸hq)
    simp[this,mQ this]
   ·rw[hv];simp
 ·split
  ·exact h.nodup
  ·rename_i kN
   exact List.nodup_append.2 ⟨h.nodup,by simp,fun a ha b hb=>by simp at hb;subst hb;rintro rfl;exact kN ha⟩
 ·rw[nQ,hv,h.mem q]
  by_cases hq:p.1=q
  ·subst hq;simp
  ·simp[hq,mQ hq]
 ·rw[nQ]at hq
  rw[hv];by_cases he:q=p.1
  ·subst he
   simp only[if_true];exact⟨w,nP⟩
  ·simp only[he,if_false,mQ he]
   rw[hold q (bU q hq he) he];exact h.get q (bU q hq he)
 ·rw[nQ]at hq UO
  by_cases h1:q=p.1<;>by_cases h2:q'=p.1
  ·rw[h1,h2]
  ·simp only[h1,h2,if_true,if_false]at he
   have:=h.KQ q' (bU q' UO h2);omega
  ·simp only[h1,h2,if_true,if_false]at he
   have:=h.KQ q (bU q hq h1);omega
  ·simp only[h1,h2,if_false]at he
   exact h.inj q (bU q hq h1) q' (bU q' UO h2) he
 ·rw[nQ]at hq
  by_cases h1:q=p.1
  ·simp only[h1,if_true];omega
  ·simp only[h1,if_false]
   have:=h.KQ q (bU q hq h1);omega
end
def Hq(ca:List (Int×aH))(s:List aH×List Int)(q:Int):List aH×List Int:=D4 ca s q.toNat
def vJ(ca:List (Int×aH))(st:List aH)(c:List Int)(sk:List Int)(k:Nat):List aH×List Int:=(sk.take k).foldl (Hq ca) (st,c)
theorem Hr{ca:List (Int×aH)}{st:List aH}{c sk:List Int}{k:Nat}(h:k<sk.length):vJ ca st c sk (k+1)=D4 ca (vJ ca st c sk k) (sk.getD k 0).toNat:=by
 unfold vJ;rw[I0 h,TG];simp[h,Hq]
theorem Wf(ca:List (Int×aH))(st:List aH)(c sk:List Int):∀k,k<=sk.length->(vJ ca st c sk k).1.length=st.length
 |0,_=>rfl
 |k+1,h=>by rw[Hr (by omega),Vs,Wf ca st c sk k (by omega)]
theorem Wg(ca:List (Int×aH))(st:List aH)(c sk:List Int):∀k,k<=sk.length->(vJ ca st c sk k).2.length<=c.length
 |0,_=>cE _
 |k+1,h=>by rw[Hr (by omega)];exact s8 (aT3 _ _ _) (Wg ca st c sk k (by omega))
theorem aV3(n:Nat)(p:Nat->Bool):(((List.range n).filter p).map fun(i:Nat)=>(i:Int)).Pairwise fun a b=>leI a b=true:=by
 rw[List.pairwise_map];refine List.Pairwise.filter _ ?_;refine(List.pairwise_lt_range (n:=n)).imp fun{a b} h=> ?_
 simp only[leI,decide_eq_true_eq];omega
theorem Hs{ca:List (Int×aH)}{n:Nat}{ks:List Int}(kN:∀c∈ca,0<=c.1/\c.1<(n:Int))(nR:ks.Nodup)(nQ:∀q,q∈ks↔iY ca q≠[]):
  ks.mergeSort leI=((List.range n).filter fun(i:Nat)=>decide (iY ca (i:Int)≠[])).map fun(i:Nat)=>(i:Int):=by
 have hp:ks.Perm (((List.range n).filter fun(i:Nat)=>decide (iY ca (i:Int)≠[])).map fun(i:Nat)=>(i:Int)):=by
  refine(List.perm_ext_iff_of_nodup nR ?_).2 fun q=> ?_
  ·exact List.pairwise_map.2 ((List.Pairwise.filter _ List.nodup_range).imp fun{a b} h h2=>h (Int.ofNat.inj h2))
  ·rw[nQ]
   simp only[kV,pC,EG,decide_eq_true_eq];constructor
   ·intro h
    have h0:0<=q/\q<(n:Int):=by
     cases hf:ca.filter (fun c=>c.1==q)with
     |nil=>exact absurd (by unfold iY;rw[hf];rfl) h
     |cons x r=>
      have hx:x∈ca.filter (fun c=>c.1==q):=by rw[hf];simp
      rw[pC]at hx;have h1:=kN x hx.1;have h2:x.1=q:=by simpa using hx.2
      omega
    refine⟨q.toNat,⟨by omega,?_⟩,by omega⟩
    rw[show((q.toNat:Nat):Int)=q by omega];exact h
   ·rintro⟨i,⟨_,h⟩,rfl⟩;exact h
 rw[mergeSort_of_perm_i hp];have tr:∀a b c:Int,leI a b=true->leI b c=true->leI a c=true:=fun a b c h1 h2=>by simp only[leI,decide_eq_true_eq]at*;exact Int.le_trans h1 h2
 exact List.mergeSort_of_pairwise (aV3 n _)
theorem aV4{ca:List (Int×aH)}{st:List aH}(c:List Int){ks:List Int}(kN:∀c∈ca,0<=c.1/\c.1<(st.length:Int))(nR:ks.Nodup)(nQ:∀q,q∈ks↔iY ca q≠[]):
  vJ ca st c (ks.mergeSort leI) (ks.mergeSort leI).length=vI ca st c st.length:=by
 unfold vJ vI;rw[lI,Hs kN nR nQ,List.foldl_map,List.foldl_filter];congr 1
 funext s i
 simp only[Hq,mE,decide_eq_true_eq];split
 ·rfl
 ·rename_i h
  have h0:iY ca (i:Int)=[]:=by simpa using h
  unfold D4;rw[if_pos (by rw[h0];rfl)]
theorem aV5{ks:List Int}{k:Nat}(h:k<(ks.mergeSort leI).length):(ks.mergeSort leI).getD k 0∈ks:=
 (aF2 ks leI).mem_iff.1 (cQ 0 h)
theorem Wh(ks:List Int):(ks.mergeSort leI).length=ks.length:=(aF2 ks leI).length_eq
theorem aV6{ca:List (Int×aH)}{n:Nat}{ks:List Int}(kN:∀c∈ca,0<=c.1/\c.1<(n:Int))(nR:ks.Nodup)(nQ:∀q,q∈ks↔iY ca q≠[]){q:Int}(hq:q∈ks):0<=q/\q<(n:Int):=by
 have h:q∈ks.mergeSort leI:=(aF2 ks leI).mem_iff.2 hq;rw[Hs kN nR nQ]at h;simp only[kV,pC,EG]at h;obtain⟨i,⟨h1,_⟩,rfl⟩:=h;omega
theorem aV7{ca:List (Int×aH)}{n:Nat}{ks:List Int}(kN:∀c∈ca,0<=c.1/\c.1<(n:Int))(nR:ks.Nodup)(nQ:∀q,q∈ks↔iY ca q≠[]):ks.length<=n:=by
 rw[<-Wh,Hs kN nR nQ,l4];exact s8 (KB _ _) (by simp)
theorem aV8(l:List (Nat×Option aI)):cV l=fR (fun _=>none) l:=by
 funext k
 show xI k l=qB (fun _=>none) k l
 induction l with
 |nil=>rfl
 |cons p r ih=>
  obtain⟨i,x⟩:=p;simp only[xI,qB];rw[ih]
end Go.Proofs.YtioafciifiggaaaGreatDoor
