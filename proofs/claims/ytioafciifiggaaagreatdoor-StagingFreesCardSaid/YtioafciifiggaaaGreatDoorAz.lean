/- Staging. No condition. -/
import Derived.Test.YtioafciifiggaaaGreatDoorL0
import Derived.Test.YtioafciifiggaaaGreatDoorAy
import Derived.JoinedOf
import Derived.KernelRfl
import Derived.Test.YtioafciifiggaaaGreatDoorAc
import Derived.Test.YtioafciifiggaaaGreatDoorAj
set_option linter.all false
namespace Go.Proofs.YtioafciifiggaaaGreatDoor
open Go.Proofs Go.AL
set_option maxRecDepth 100000
set_option maxHeartbeats 1000000
attribute [local irreducible] cH AW b9 dR eH hold
def PW(l:List aW):Prop:=l.Pairwise fun a b=>a.number<b.number
theorem PW.sort{l:List aW}(h:PW l):L3 l:=fun i k iH hk=>by
 have h1:=TK.1 h i k (by omega) hk iH
 have h2:l.getD i aY=l[i]:=by simp[show i<l.length by omega]
 have h3:l.getD k aY=l[k]:=by simp[hk]
 rw[h2,h3];exact h1
theorem PW.inj{l:List aW}(h:PW l){a b:aW}(ha:a∈l)(hb:b∈l)(hn:a.number=b.number):a=b:=by
 obtain⟨i,hi,rfl⟩:=wA.1 ha;obtain⟨k,hk,rfl⟩:=wA.1 hb;rcases Tw i k with g|g|g
 ·have:=TK.1 h i k hi hk g
  omega
 ·subst g;rfl
 ·have:=TK.1 h k i hk hi g
  omega
def gF(l:List aW)(n:Int):Option aW:=if nW l n=true then some (l.getD (bT l n) aY)else none
theorem DQ{l:List aW}{n:Int}{x:aW}(h:gF l n=some x):x∈l/\x.number=n:=by
 unfold gF at h;split at h
 ·rename_i g
  injection h with h
  subst h;obtain⟨h1,h2⟩:=yR g;exact⟨cQ aY h1,h2⟩
 ·cases h
theorem ae8{l:List aW}(hl:PW l){x:aW}(hx:x∈l):nW l x.number=true/\l.getD (bT l x.number) aY=x:=by
 obtain⟨i,hi,hix⟩:=wA.1 hx;have h2:l.getD i aY=x:=by simp[hi,hix]
 have h1:bT l x.number=i:=by
  rcases Tw (bT l x.number) i with g|g|g
  ·have h3:=Jg hl.sort (cE _) (by omega:bT l x.number<l.length)
   have h4:=hl.sort _ _ g hi;rw[h2]at h4;omega
  ·exact g
  ·have h3:=Jf g
   rw[h2]at h3;omega
 refine⟨?_,by rw[h1];exact h2⟩
 unfold nW;rw[h1,h2];simp[hi]
theorem VX{l:List aW}(hl:PW l){x:aW}(hx:x∈l):gF l x.number=some x:=by
 obtain⟨h1,h2⟩:=ae8 hl hx;unfold gF;rw[if_pos h1,h2]
theorem ae9{l:List aW}(hl:PW l){n:Int}(h:gF l n=none):∀x∈l,x.number≠n:=fun x hx hn=>by
 subst hn;rw[VX hl hx]at h;cases h
theorem bo1{l:List aW}{n:Int}{x:aW}(hx:x∈l.take (bT l n)):x.number<n:=by
 obtain⟨i,hi,rfl⟩:=wA.1 hx;rw[cU]at hi;have:=Jf (l:=l) (n:=n) (i:=i) (by omega)
 simpa[show i<l.length by omega]using this
theorem bo2{l:List aW}(hl:PW l){n:Int}{x:aW}(hx:x∈l.drop (bT l n)):n<=x.number:=by
 obtain⟨i,hi,rfl⟩:=wA.1 hx;rw[eF]at hi;have:=Jg hl.sort (n:=n) (i:=bT l n+i) (by omega) (by omega)
 simpa[show bT l n+i<l.length by omega]using this
theorem H4{l:List aW}(hl:PW l)(x:aW):PW (lP l x):=by
 unfold lP;split
 ·rename_i g
  obtain⟨h1,h2⟩:=yR g;refine TK.2 fun i k hi hk iH=> ?_
  rw[BD]at hi hk;have h3:=TK.1 hl i k hi hk iH;have h4:(l[bT l x.number]).number=x.number:=by simpa[h1]using h2
  rw[Ty,Ty];by_cases g1:bT l x.number=i
  ·rw[if_pos g1,if_neg (by omega)]
   subst g1;omega
  ·rw[if_neg g1]
   by_cases g2:bT l x.number=k
   ·rw[if_pos g2]
    subst g2;omega
   ·rw[if_neg g2]
    exact h3
 ·rename_i g
  have hd:∀y∈l.drop (bT l x.number),x.number<y.number:=fun y hy=>by
   have h1:=bo2 hl hy
   have h2:y.number≠x.number:=fun h=>g (by
    have:=(ae8 hl (lJ hy)).1;rw[h]at this
    exact this)
   omega
  refine List.pairwise_append.2 ⟨List.Pairwise.sublist (List.take_sublist _ _) hl,Tz.2 ⟨hd,List.Pairwise.sublist (List.drop_sublist _ _) hl⟩,fun a ha b hb=> ?_⟩
  have h1:=bo1 ha;rcases cG.1 hb with rfl|hb
  ·exact h1
  ·have:=hd b hb
   omega
theorem af0(l:List aW)(x:aW):x∈lP l x:=by
 unfold lP;split
 ·rename_i g
  exact List.mem_set (yR g).1 x
 ·simp
theorem bo3{l:List aW}{x y:aW}(hy:y∈l)(hn:y.number≠x.number):y∈lP l x:=by
 unfold lP;split
 ·rename_i g
  obtain⟨h1,h2⟩:=yR g;obtain⟨i,hi,hiy⟩:=wA.1 hy
  have aJ:bT l x.number≠i:=fun h=>hn (by
   subst h;rw[<-h2]
   simp[hi,hiy])
  have h3:(l.set (bT l x.number) x)[i]? =some y:=by
   rw[O6 aJ,eQ hi,hiy]
  exact eS h3
 ·have h1:=yJ (bT l x.number) l
  rw[<-h1]at hy;rcases lS.1 hy with h|h
  ·exact wB _ h
  ·exact uE _ (OB _ h)
theorem Bx{l:List aW}(hl:PW l){x y:aW}(hy:y∈lP l x):y=x\/(y∈l/\y.number≠x.number):=by
 by_cases g:y.number=x.number
 ·exact .inl ((H4 hl x).inj hy (af0 l x) g)
 ·rcases VU hy with h|h
  ·exact .inl h
  ·exact .inr ⟨h,g⟩
theorem Li{l:List aW}(hl:PW l)(x:aW):gF (lP l x) x.number=some x:=VX (H4 hl x) (af0 l x)
theorem Lj{l:List aW}(hl:PW l){x:aW}{n:Int}(hn:n≠x.number):gF (lP l x) n=gF l n:=by
 cases h:gF l n with
 |some y=>
  obtain⟨h1,h2⟩:=DQ h;have h3:=VX (H4 hl x) (bo3 (x:=x) h1 (by omega))
  rw[h2]at h3;exact h3
 |none=>
  cases h2:gF (lP l x) n with
  |none=>rfl
  |some y=>
   obtain⟨h3,h4⟩:=DQ h2;rcases VU h3 with h5|h5
   ·subst h5;exact absurd h4.symm hn
   ·exact absurd h4 (ae9 hl h y h5)
def DJ(l:List aW):Prop:=∀a∈l,∀b∈l,a.number≠b.number->∀n∈a.records,n∉b.records
theorem Lk(j:Jr):∀(l:List aW) (p:Option Int) (own:List Int),(∀x∈l,nU j x=true)->PW l->(∀n,p=some n->∀x∈l,n<x.number)->DJ l->(∀x∈l,∀n∈x.records,n∉own)->uQ j p own l=true
 |[],_,_,_,_,_,_,_=>rfl
 |x::l,p,own,h1,h2,h3,h4,h5=>by
  obtain⟨h6,h7⟩:=Tz.1 h2;rw[Aq,if_pos (h1 x (by simp))]
  have h8:x.records.any (fun n=>own.contains n)=false:=by
   rw[TF];intro n hn;have:=h5 x (by simp) n hn
   simpa using this
  have h9:uQ j (some x.number) (own++x.records) l=true:=by
   refine Lk j l _ _ (fun y hy=>h1 y (by simp[hy])) h7 (fun n hn y hy=> ?_) (fun a ha b hb uW=>h4 a (by simp[ha]) b (by simp[hb]) uW) (fun y hy n hn hm=> ?_)
   ·injection hn with hn
    subst hn;exact h6 y hy
   ·rcases lS.1 hm with h|h
    ·exact h5 y (by simp[hy]) n hn h
    ·have:=h6 y hy
     exact h4 y (by simp[hy]) x (by simp) (by omega) n hn h
  rw[h8];cases p with
  |none=>simpa using h9
  |some n=>
   have:=h3 n rfl x (by simp)
   rw[if_neg (by simp;omega)]
   simpa using h9
theorem Ll(j:Jr):∀(l:List aW) (p:Option Int) (own:List Int),uQ j p own l=true->DJ l/\∀x∈l,∀n∈x.records,n∉own
 |[],_,_,_=>⟨fun a ha=>by simp at ha,fun a ha=>by simp at ha⟩
 |x::l,p,own,h=>by
  obtain⟨-,-,h2⟩:=Jn h;obtain⟨h3,h4⟩:=Ll j l _ _ h2
  have h5:∀n∈x.records,n∉own:=fun n hn hm=>by
   rw[Aq]at h;have h8:x.records.any (fun n=>own.contains n)=true:=vX.2 ⟨n,hn,by simpa using hm⟩
   rw[h8]at h;revert h;split
   ·split<;>simp
   ·simp
  refine⟨fun a ha b hb uW n hn hm=> ?_,fun y hy n hn=> ?_⟩
  ·rcases cG.1 ha with e1|e1
   ·rcases cG.1 hb with e2|e2
    ·exact uW (by rw[e1,e2])
    ·rw[e1]at hn
     exact h4 b e2 n hm (uE _ hn)
   ·rcases cG.1 hb with e2|e2
    ·rw[e2]at hm
     exact h4 a e1 n hn (uE _ hm)
    ·exact h3 a e1 b e2 uW n hn hm
  ·rcases cG.1 hy with hy|hy
   ·subst hy;exact h5 n hn
   ·exact fun hm=>h4 y hy n hn (wB _ hm)
theorem af2:∀(l:List Int) (last next next':Int),next<=next'->oY last next l=true->oY last next' l=true
 |[],_,_,_,_,_=>rfl
 |x::l,last,next,next',hn,h=>by
  rw[ES]at h⊢;split at h
  ·exact absurd h (by decide)
  ·rw[if_neg (by omega)]
   exact af2 l x next next' hn h
theorem Lm:∀(l:List Int) (last next:Int),last<next->oY last next l=true->oY last (next+1) (l++[next])=true
 |[],last,next,hn,_=>by
  rw[pW,ES,if_neg (by omega)]
  rfl
 |x::l,last,next,hn,h=>by
  rw[ES]at h;rw[yI,ES];split at h
  ·exact absurd h (by decide)
  ·rename_i g
   rw[if_neg (by omega)]
   exact Lm l x next (by omega) h
theorem bo4{j j':Jr}{x:aW}(hf:j'.first=j.first)(hn:jN j<=jN j')(h:nU j x=true):nU j' x=true:=by
 unfold nU at h⊢;split at h
 ·rename_i g1
  rw[if_pos g1];split at h
  ·exact absurd h (by decide)
  ·rename_i g2
   rw[if_neg g2];split at h
   ·exact absurd h (by decide)
   ·rename_i g3
    rw[if_neg g3];split at h
    ·rename_i g4
     rw[if_pos (by rw[hf];exact af2 _ _ _ _ hn g4)]
     exact h
    ·exact absurd h (by decide)
 ·exact absurd h (by decide)
theorem By{j:Jr}(h:jE j=0):jN j=j.first+j.b8.length:=by unfold jN;rw[if_pos h]
theorem af3(k:Int)(p:List Int):(fS k p).length=p.length+7:=by
 unfold fS mN;simp only[bP,dK,GV];omega
theorem af4{j:Jr}(h1:qY j.start j.count=true)(h2:0<=j.head)(h3:j.head<j.count-16)(h4:1<=j.first)(h5:j.first+(j.b8.length:Int)<=1073741824)(h6:j.tail=(j.head+j.b8.sum) % (j.count-16))(h7:j.b8.sum<=j.count-16)(h8:j.b8.any vK=false):jE j=0:=by
 have h9:=(GN _ (GM h8)).1;unfold jE;rw[if_neg,if_neg (by rw[h8];decide),if_neg (by omega)]
 rw[h1];simp only[Bool.true_eq_false,false_or];omega
structure Bz(s:cX)(x:aW):Prop where
 bF:qF (bF x)=0
 seen:vL x≠0
 closed:x.closed=true->(rM (Go.Proofs.YtioafciifiggaaaGreatDoor.bF x)).2=0
 yV:x.records=(match gF s.aR x.number with|some y=>y.records|none=> [])++[jN s.j]
 bo5:x.records.length=tU x
 len:GQ x
structure CQ(c:jJ)(most:Nat):Prop where
 cp:CP c most
 m:most<=67
 n:y4 c most<=127
 b:∀x∈(nB c).1,aV x
theorem bo6{c:jJ}{most i:Nat}(h:CQ c most):∀x∈PV c most i,aV x:=fun x hx=>h.b x (lJ (oS hx))
theorem bo7{c:jJ}{most i:Nat}(h:CQ c most):∀x∈PX c most i,aV x:=fun x hx=>by
 unfold PX V2 at hx;simp only[lS]at hx;rcases hx with(((hx|hx)|hx)|hx)|hx
 ·exact wR _ x hx
 ·exact wR _ x hx
 ·exact wR _ x hx
 ·exact wR _ x hx
 ·exact bo6 h x hx
structure Hv(s:cX)(c:jJ)(most:Nat)(S:List Bool):Prop where
 len:S.length=y4 c most
 at_:∀y,gF s.aR c.number=some y->bF y=pA c most S/\y.closed=false
 no:gF s.aR c.number=none->S=Lf c most
structure VY(c:jJ):Prop where
 pos:c.pos.length<=9223372036854775807
 wr:c.writes.length<=9223372036854775807
 one:∀w∈c.writes,w.2.2.length<=9223372036854775807
 b:∀w∈c.writes,∀x∈w.2.2,∀y∈nS x,aV y
def LU(c:jJ):Bool:=decide (c.pos.length<=40)&&Il c.writes
theorem Ln{c:jJ}(h:LU c=true):c.pos.length<=40/\c.writes.length<=40/\∀w∈c.writes,w.2.2.length<=24:=by
 unfold LU Il at h;simp only[k6,decide_eq_true_eq,aG4,TF]at h;obtain⟨h1,h2,h3⟩:=h;refine⟨h1,h3,fun w hw=> ?_⟩
 have h4:=h2 w (by rw[eD (by omega)];exact hw)
 simp[Ik]at h4;omega
theorem AM(n:Int):(aQ n).length<=8:=by
 refine OG 7 _ ?_;unfold pE;split<;>omega
theorem af5{α:Type}{f:α->List Int}{k:Nat}:∀(l:List α),(∀x∈l,(f x).length<=k)->(l.flatMap f).length<=l.length*k
 |[],_=>by simp
 |x::l,h=>by
  have h1:=af5 l fun y hy=>h y (by simp[hy])
  have h2:=h x (by simp)
  rw[O0,bP,dK,vG];omega
theorem Ca{α:Type}{f:α->List Int}{k:Nat}(l:List α)(h:∀x∈l,(f x).length<=k):(fW f l).length<=8+l.length*k:=by
 have h1:=af5 l h;have h2:=AM l.length;unfold fW;rw[bP];omega
theorem Lo{α:Type}{f:α->List Int}(l:List α)(h:∀x∈l,∀y∈f x,aV y):∀y∈fW f l,aV y:=fun y hy=>by
 unfold fW at hy;rcases lS.1 hy with hy|hy
 ·exact wR _ y hy
 ·obtain⟨x,hx,hy⟩:=tJ.1 hy
  exact h x hx y hy
theorem bo8{w:eW}(h:w.2.2.length<=24):(jR w).length<=216:=by
 have h1:=AM w.1;have h2:=AM w.2.1;have h3:=Ca (f:=nS) (k:=8) w.2.2 (fun x _=>by simp[nS])
 unfold jR;simp only[bP];omega
theorem bo9{c:jJ}(h:LU c=true):(qE c).length<=10000:=by
 obtain⟨h1,h2,h3⟩:=Ln h;have h4:=Ca (f:=aQ) (k:=8) c.pos (fun x _=>AM x)
 have h5:=Ca (f:=jR) (k:=216) c.writes (fun x hx=>bo8 (h3 x hx))
 have h6:=AM c.base;have h7:=AM c.number;have h8:=AM c.time;unfold qE;simp only[bP];have:c.writes.length*216<=40*216:=nN 216 h2;omega
theorem af6{c:jJ}(h:VY c):∀x∈qE c,aV x:=fun x hx=>by
 unfold qE at hx;simp only[lS]at hx;rcases hx with(((hx|hx)|hx)|hx)|hx
 ·exact wR _ x hx
 ·exact wR _ x hx
 ·exact wR _ x hx
 ·exact Lo c.pos (fun y _=>wR y) x hx
 ·refine Lo c.writes (fun w hw y hy=> ?_) x hx
  unfold jR at hy;simp only[lS]at hy;rcases hy with(hy|hy)|hy
  ·exact wR _ y hy
  ·exact wR _ y hy
  ·exact Lo w.2.2 (fun s hs=>h.b w hw s hs) y hy
theorem bp0{c:jJ}(h:LU c=true):OR c:=by
 obtain⟨h1,h2,h3⟩:=Ln h;exact⟨by omega,by omega,fun w hw=>by have:=h3 w hw;omega⟩
theorem bp1{c:jJ}(hb:VY c)(h:LU c=true)(most:Int):PC 27 [.agg (mI c),zV most] (.aU [.snap (aA dF (kP c most).1),zV (kP c most).2]):=by
 obtain⟨h1,h2,h3⟩:=Ln h;have h4:=bo9 h;exact ac1 c most (bp0 h) (by omega) (by omega) (fun x hx=>by have:=h3 x hx;omega) (by omega) (af6 hb)
theorem bp2{c:jJ}(hb:VY c):∀x∈(nB c).1,aV x:=by
 have h:=af6 hb;unfold nB;split
 ·split
  ·exact fun x hx=>by simp at hx
  ·exact h
 ·exact fun x hx=>by simp at hx
theorem bp3{c:jJ}(hb:VY c){most:Nat}(h1:1<=most)(h2:most<=67)(he:(kP c (most:Int)).2=0)(hn:(kP c (most:Int)).1.length<=127):CQ c most/\(kP c (most:Int)).1=(List.range (y4 c most)).map (PX c most):=by
 have h0:(nB c).2=0:=by
  unfold kP at he;split at he
  ·assumption
  ·exact he
 have hc:CP c most:=⟨h0,h1,by omega⟩
 have h3:=Le hc;rw[h3]at hn;simp only[l4,KF]at hn;exact⟨⟨hc,h2,hn,bp2 hb⟩,by rw[h3]⟩
def aR0:cX:=⟨⟨0,1200,0,0,1,[]⟩,[]⟩
theorem yP(c:jJ)(most:Nat):Hv aR0 c most (Lf c most):=⟨by simp[Lf],fun y hy=>(by cases hy),fun _=>rfl⟩
end Go.Proofs.YtioafciifiggaaaGreatDoor
namespace Go.AL
def eK(P:Program)(f:FuncId)(fn:Func)(s:ChangeSpec)(c:OpenClaim):List Bool:=
 [c.wf (OpenSpec.ofChange s),laidOutB P,mapsRowed P,
 fn.params.all (P.readableRec ·),namedTie P c.named s.vars,
 (c.stops==[]),(P.stops==[]),(c.knobs==[]),(P.stopKnobs==[]),
 (c.inPlace==P.inPlace f),(c.unfollowed==P.unfollowed f),(c.recurses==P.recurses f),(c.named==P.varsNamed f),
 (c.maps==(fn.params.toList++s.plain.varTypes P).any (P.mapsRec ·)),(c.ifaces==(fn.params.toList++s.plain.varTypes P).any (P.ifacesRec ·)),(c.mapsOut==P.mapsAmong fn.resultTypes.toList),
 (c.loops==(fn.params.toList++s.plain.varTypes P).any (P.loopsFrom ·)),(c.wideKeys==(fn.params.toList++s.plain.varTypes P++fn.resultTypes.toList).any (P.wideKeysFrom ·)),
 s.vars.all (P.varReadable ·),fn.resultTypes.all (fun t=>P.readableRec t&&decide (t<P.types.size)),(c.ifacesOut==fn.resultTypes.toList.any (P.ifacesRec ·)),(c.loopsOut==fn.resultTypes.toList.any (P.loopsFrom ·)),(c.plainKeys==P.plainKeys),c.shortTexts.isNone,P.stopsHeard,P.mayEnter,(c.lifted==P.liftsFinal),(P.make==some c.make),(c.kinds==(if c.domain.isEmpty then []else fn.params.toList.map fun t=>match P.underlying t with|some (.int k)=>some k|_=>none)),(c.pinned==c.pinnedBy),
 (c.veiled==(fn.params.toList++s.plain.varTypes P++fn.resultTypes.toList).any (P.veiledRec ·)),c.veiledFits P fn.params.toList (fn.params.toList++s.plain.varTypes P++fn.resultTypes.toList)]
theorem af7{P:Program}{f:FuncId}{fn:Func}{s:ChangeSpec}{c:OpenClaim}(h:(eK P f fn s c).all id=true):joinedFacts P f fn s c=true:=by
 unfold eK at h;simp only[I4,List.all_nil,id,Tj,k6]at h;unfold joinedFacts;simp only[k6];obtain⟨h0,h1,h2,h3,h4,h5,h6,h7,h8,h9,dY,oC,uJ,yM,CW,Lp,Lq,Lr,h18,h19,h20,h21,h22,h23,h24,h25,h26,h27,h28,h29,h30,Ls⟩:=h;exact⟨⟨⟨⟨⟨⟨⟨⟨⟨⟨⟨⟨⟨⟨⟨⟨⟨⟨⟨⟨⟨⟨⟨⟨⟨⟨⟨⟨⟨⟨⟨h0,h1⟩,h2⟩,h3⟩,h4⟩,h5⟩,h6⟩,h7⟩,h8⟩,h9⟩,dY⟩,oC⟩,uJ⟩,yM⟩,CW⟩,Lp⟩,Lq⟩,Lr⟩,h18⟩,h19⟩,h20⟩,h21⟩,h22⟩,h23⟩,h24⟩,h25⟩,h26⟩,h27⟩,h28⟩,h29⟩,h30⟩,Ls⟩
theorem Jm{l:List Bool}(h:∀i,i<l.length->l.getD i true=true):l.all id=true:=by
 rw[gK];intro b hb;obtain⟨i,hi⟩:=FY.1 hb;obtain⟨h1,h2⟩:=dV.1 hi;have h3:=h i h1;rw[eP,hi]at h3;exact h3
end Go.AL
namespace Go.Proofs.YtioafciifiggaaaGreatDoor
open Go.Proofs Go.AL
set_option maxRecDepth 100000
set_option maxHeartbeats 1000000
attribute [local irreducible] cH AW b9 dR eH hold
structure Rec where
 kind:Int
 seq:Int
 cT:List Int
deriving instance DecidableEq for Rec
def iU:Rec:=⟨0,0,[]⟩
def kI(r:Rec):List AV:=[zV r.kind,zV r.seq,.snap (aA aN r.cT)]
def fX(s:aH):Int:=s.2.2.1+256*s.2.2.2.1
def VZ(l:List Int):Int:=l.getD 0 0+256*l.getD 1 0+65536*l.getD 2 0+16777216*l.getD 3 0
def gM(l:List aH):Rec×Int×Int:=
 if l=[]then(iU,0,10)
 else if bN (l.getD 0 aE)=0 then(iU,0,7)
 else if 4096<fX (l.getD 0 aE)then(iU,0,5)
 else if(l.length:Int)<(fX (l.getD 0 aE)+10)/4 then(iU,0,10)
 else if(l.take ((fX (l.getD 0 aE)+10)/4).toNat).any (fun x=>bN x !=bN (l.getD 0 aE))=true then(iU,0,10)
 else if VZ ((gD (l.take ((fX (l.getD 0 aE)+10)/4).toNat)).drop (3+(fX (l.getD 0 aE)).toNat))≠fV ((gD (l.take ((fX (l.getD 0 aE)+10)/4).toNat)).take (3+(fX (l.getD 0 aE)).toNat))then(iU,0,9)
 else if(gD (l.take ((fX (l.getD 0 aE)+10)/4).toNat)).getD 0 0=0\/((gD (l.take ((fX (l.getD 0 aE)+10)/4).toNat)).drop (7+(fX (l.getD 0 aE)).toNat)).any (fun x=>x !=0)=true then(iU,0,3)
 else(⟨(gD (l.take ((fX (l.getD 0 aE)+10)/4).toNat)).getD 0 0,bN (l.getD 0 aE),((gD (l.take ((fX (l.getD 0 aE)+10)/4).toNat)).drop 3).take (fX (l.getD 0 aE)).toNat⟩,(fX (l.getD 0 aE)+10)/4,0)
theorem LV{s:aH}(h:dC s):0<=fX s/\fX s<65536:=by
 have h1:=h.2 s.2.2.1 (by simp[d4])
 have h2:=h.2 s.2.2.2.1 (by simp[d4])
 unfold aV at h1 h2;unfold fX;omega
theorem PY{s:aH}(h:dC s):0<=bN s/\bN s<4294967296:=by
 obtain⟨⟨h1,h2,h3,h4⟩,-⟩:=h;unfold aV at h1 h2 h3 h4;unfold bN;omega
theorem PZ(l:List aH)(hl:∀s∈l,dC s):(gM l).2.2≠0\/(0<(gM l).2.1/\(gM l).2.1<=l.length/\(gM l).2.1=((gM l).1.cT.length+10)/4/\(gM l).1.cT.length<=4096/\(gM l).1.seq=bN (l.getD 0 aE)/\l≠[]/\(∀x∈(gM l).1.cT,aV x)/\1<=(gM l).1.kind/\(gM l).1.kind<256):=by
 unfold gM;split
 ·exact .inl (by decide)
 rename_i g0;have h0:l.getD 0 aE∈l:=cQ aE (by cases l with|nil=>exact absurd rfl g0|cons a b=>simp)
 have hr:=LV (hl _ h0);split
 ·exact .inl (by decide)
 split
 ·exact .inl (by decide)
 rename_i g2;split
 ·exact .inl (by decide)
 rename_i g3;split
 ·exact .inl (by decide)
 split
 ·exact .inl (by decide)
 split
 ·exact .inl (by decide)
 rename_i g6;generalize nC:fX (l.getD 0 aE)=r at*;obtain⟨q,hq⟩:∃q:Nat,(r+10)/4=q:=⟨((r+10)/4).toNat,by omega⟩
 rw[hq]at g3 g6⊢;rw[mE]at*
 have hd:(gD (l.take q)).length=4*q:=by
  unfold gD;rw[List.length_flatMap]
  have:∀(m:List aH),(m.map fun s=>(d4 s).length).sum=4*m.length:=fun m=>by
   induction m with
   |nil=>rfl
   |cons a b ih=>rw[gJ,qP,ih,aK9,dK];omega
  rw[this,cU];omega
 have hb:∀x∈gD (l.take q),aV x:=fun x hx=>by
  unfold gD at hx;obtain⟨s,hs,hx⟩:=tJ.1 hx;exact(hl s (oS hs)).2 x hx
 have hp:(((gD (l.take q)).drop 3).take r.toNat).length=r.toNat:=by
  rw[cU,eF,hd];omega
 have hk:aV ((gD (l.take q)).getD 0 0):=hb _ (cQ 0 (by omega))
 refine .inr ⟨by simp only[];omega,by simp only[];omega,?_,?_,rfl,g0,fun x hx=>hb x (lJ (oS hx)),?_,hk.2⟩
 ·simp only[]
  rw[hp];omega
 ·simp only[]
  rw[hp];omega
 ·simp only[]
  have:=hk.1;omega
def y5:Nat->List aH->Int->List Rec×Int
 |0,_,_=>([],0)
 |f+1,l,q=>if 1<=q/\(gM l).2.2=0/\(gM l).1.seq=q then
   ((gM l).1::(y5 f (l.drop (gM l).2.1.toNat) (q+1)).1,(gM l).2.1+(y5 f (l.drop (gM l).2.1.toNat) (q+1)).2)
  else([],0)
def mU(l:List aH)(q:Int):List Rec×Int:=y5 (l.length+1) l q
theorem af8:∀(f g:Nat) (l:List aH) (q:Int),(∀s∈l,dC s)->l.length<f->l.length<g->y5 f l q=y5 g l q
 |0,g,l,q,_,h,_=>by omega
 |f+1,0,l,q,_,_,h=>by omega
 |f+1,g+1,l,q,hl,h1,h2=>by
  unfold y5;split
  ·rename_i hc
   rcases PZ l hl with h3|⟨h3,h4,-⟩
   ·exact absurd hc.2.1 h3
   ·have h5:=eF (i:=(gM l).2.1.toNat) (l:=l)
    rw[af8 f g _ _ (fun s hs=>hl s (lJ hs)) (by omega) (by omega)]
  ·rfl
theorem Cb(l:List aH)(q:Int)(hl:∀s∈l,dC s):mU l q=if 1<=q/\(gM l).2.2=0/\(gM l).1.seq=q then
   ((gM l).1::(mU (l.drop (gM l).2.1.toNat) (q+1)).1,(gM l).2.1+(mU (l.drop (gM l).2.1.toNat) (q+1)).2)else([],0):=by
 show y5 (l.length+1) l q=_
 rw[y5];split
 ·rename_i hc
  rcases PZ l hl with h3|⟨h3,h4,-⟩
  ·exact absurd hc.2.1 h3
  ·have h5:=eF (i:=(gM l).2.1.toNat) (l:=l)
   unfold mU;rw[af8 l.length _ _ _ (fun s hs=>hl s (lJ hs)) (by omega) (G3 _)]
 ·rfl
end Go.Proofs.YtioafciifiggaaaGreatDoor
