/- Target: contracts of its functions (Ay). No condition but those named. -/
import Derived.Test.YtpaomccedbjknaaGreatDoorAx
import Derived.JoinedOf
set_option linter.all false
namespace Go.Proofs.YtpaomccedbjknaaGreatDoor
open Go.Proofs Go.AL Tryz
set_option maxRecDepth 100000
set_option maxHeartbeats 8000000
attribute [local irreducible] bT AW b8 cF dB hold
attribute [local irreducible] iX
theorem Qa(a b:Int):PC 159 [zV a,zV b] (.snap (aB aO (aV a++aV b))):=by
 refine aZ func159 ntmps159 (gJ _) ?_;have c2:=H6 a;have v1:=lR a;have c3:=BE (aV a) b oM
 rw[sF]at c2;have t1:(aV a).take (aV a).length=aV a:=gP;have t2:(aV a++aV b).take (aV a++aV b).length=aV a++aV b:=gP;generalize aV a++aV b=B at*;generalize aV a=A at*;exact zE
theorem aF5(a c:Int):PC 79 [.agg [zV a,zV c]] (.aK [.agg (gF (nM a c).1),.snap (aB aH (nM a c).2.1),zV (nM a c).2.2]):=by
 refine iZ func79 ntmps79 (by simp only[go_sem,gF]) ?_
 have c1:=Lu a c;have c3:=Qa 0 1;have c4:=Js a (aV 0++aV 1) (by have:=lR 0;have:=lR 1;rw[cU];omega)
 have sP:=KY a (aV 0++aV 1);obtain⟨M,hM⟩:∃M,nM a c=M:=⟨_,rfl⟩;rw[hM];unfold nM at hM;have LK:=fun h=>L8 (a:=a) (b:=c) h
 generalize mH a c=v at*;generalize nK a (aV 0++aV 1)=E at*;generalize aV 0++aV 1=V at*;obtain⟨so,se⟩:=E;simp only[]at*;cases v with
 |false=>
  rw[if_neg dE]at hM
  subst hM;unfold gF lB;clear c3 c4 LK;exact zE
 |true=>
  rw[if_pos rfl]at hM;have h5:=LK rfl;have c2:=QM a c;have w1:=IntWalk.i64_in (c-16) oM
  rw[w1]at c2;clear LK;obtain⟨n,rfl⟩:∃n:Nat,c=(n:Int)+16:=⟨(c-16).toNat,oM⟩
  have e1:(n:Int)+16-16=n:=oM
  have c5:=Pm a (n+16) 0 (List.replicate n bS) oM oM oM oM oM oM (by rw[yG];omega)
  have hW:FH a ((n:Int)+16-16) 0 (List.replicate n bS)=[(0,a+16,List.replicate n bS)]:=by
   unfold FH;rw[if_neg (by rw[yG];omega)]
   simp
  have hz:jG ((n:Int)+16-16)=List.replicate n bS:=by unfold jG;rw[e1,sY]
  rw[hW]at c5;rw[hz]at hM;rw[e1]at c2 w1;clear hW hz e1;have r1:aB aH [(0,a+16,List.replicate n bS)]=[[zV 0,zV (a+16),.snap (aB aP (List.replicate n bS))]]:=rfl;rw[r1]at c5
  have nW:∀so:List bR,r7 ([zV 0,zV (a+16),.snap (aB aP (List.replicate n bS))]::[zV 1,zV 0,.c (.slice none 0 0)]::aB aH so) (aB aH ([(0,a+16,List.replicate n bS),(1,0,[])]++so)):=fun so=>by
   have e:aB aH ([(0,a+16,List.replicate n bS),(1,0,[])]++so)=[zV 0,zV (a+16),.snap (aB aP (List.replicate n bS))]::[zV 1,zV 0,.snap []]::aB aH so:=rfl;rw[e];exact u3 (tY _) (u3 (eE (.refl _) (eE (.refl _) (eE .nil mS))) (EV _))
  by_cases g:se=0
  ·rw[if_pos g]at hM
   subst hM g;unfold gF;simp only[];have e:aB aH ([(0,a+16,List.replicate n bS),(1,0,[])]++so)=[zV 0,zV (a+16),.snap (aB aP (List.replicate n bS))]::[zV 1,zV 0,.snap []]::aB aH so:=rfl;rw[e];have hT:∀a b:List AV,List.take (2+so.length) (a::b::aB aH so)=a::b::aB aH so:=fun a b=>cN (by simp only[iQ,fK];omega)
   clear e nW;refine aE ?_;refine Qb ?_;refine aE ?_;exact dS
  ·rw[if_neg g]at hM
   subst hM;unfold gF lB;refine aE ?_;refine Qb ?_;exact zE
theorem aF6(a c:Int):PC 30 [.agg [zV a,zV c]] (.aK [.agg (dH (lZ a c).1),.snap (aB aH (lZ a c).2.1),zV (lZ a c).2.2]):=by
 refine aZ func30 ntmps30 (by simp only[go_sem,dH]) ?_
 have c1:=aF5 a c;obtain⟨M,hM⟩:∃M,lZ a c=M:=⟨_,rfl⟩;rw[hM];unfold lZ at hM;generalize nM a c=E at*;obtain⟨⟨js,jc,jh,jt,jf,jz⟩,o,e⟩:=E;unfold gF at c1;simp only[]at*;by_cases g:e=0
 ·rw[if_pos g]at hM
  subst hM g;unfold dH;simp only[];exact zE
 ·rw[if_neg g]at hM
  subst hM;unfold dH o0 lB;simp only[];exact zE
end Go.Proofs.YtpaomccedbjknaaGreatDoor
namespace Go.Proofs.YtpaomccedbjknaaGreatDoor
open Go.Proofs Go.AL Tryz
set_option maxRecDepth 100000
set_option maxHeartbeats 8000000
attribute [local irreducible] bT AW b8 cF dB hold
def Bs(s:jB):Bool:=decide (s.j.aR.length<=100)&&decide (s.bI.length<=20)&&s.bI.all fun x=>decide (x.dF.length<=60)&&decide (x.seen.length<=60)&&decide (x.records.length<=100)&&x.dF.all fun p=>decide (p.length<=200)&&p.all fun b=>decide (0<=b)&&decide (b<256)
theorem Qc{n:Nat}:∀(h:List (List Int)),(∀x∈h,x.length<=n)->nZ h<=h.length*n
 |[],_=>by simp[nZ]
 |x::h,hh=>by
  have h1:=Qc h (fun y hy=>hh y (by simp[hy]))
  have h2:=hh x (by simp)
  simp only[nZ,qE,Is,iQ,BC]at*;omega
theorem aF7{s:jB}(h:Bs s=true):yV s:=by
 unfold Bs at h;simp only[jF,decide_eq_true_eq,iM]at h;obtain⟨⟨h1,h2⟩,h3⟩:=h;refine⟨oM,oM,fun x hx=> ?_⟩
 obtain⟨⟨⟨h4,h5⟩,h6⟩,h7⟩:=h3 x hx;have h8:=Qc (n:=200) x.dF (fun y hy=>(h7 y hy).1)
 refine⟨⟨by show x.dF.length<=100000;omega,by show x.seen.length<=100000;omega,fun y hy=>⟨by have:=(h7 y hy).1;omega,fun z hz=>(h7 y hy).2 z hz⟩,?_⟩,oM⟩
 show nZ x.dF<=100000
 have:x.dF.length*200<=60*200:=mO 200 h4;omega
end Go.Proofs.YtpaomccedbjknaaGreatDoor
namespace Go.Proofs.YtpaomccedbjknaaGreatDoor
open Go.Proofs Go.AL Tryz
set_option maxRecDepth 100000
set_option maxHeartbeats 8000000
attribute [local irreducible] bT AW b8 cF dB hold
attribute [local irreducible] iX
theorem aF8{l:List Int}(h:(l.all fun b=>decide (0<=b)&&decide (b<256))=true):∀x∈l,bZ x:=fun x hx=>by
 rw[iM]at h;have:=h x hx;simp only[jF,decide_eq_true_eq]at this;exact this
end Go.Proofs.YtpaomccedbjknaaGreatDoor
namespace Go.Proofs.YtpaomccedbjknaaGreatDoor
open Go.Proofs Go.AL Tryz
open Go.ChangeShapes Go.WideShapes Go.RowKit
abbrev wT:Sh:= .int .i64
theorem LL{a:AV}(h:s5 wT a):∃n:Int,a=zV n:=by
 obtain⟨n,rfl,hn⟩:=h.Qd;exact⟨n,rfl⟩
theorem aF9(r:List AV)(h:lT [wT] r):∃x:Int,True/\r=aW x:=by
 obtain⟨a0,r,rfl,h0,g0⟩:=h.DT;obtain rfl:=g0.Bt;obtain⟨n,rfl,hn⟩:=h0.Qd;exact⟨n,trivial,rfl⟩
theorem open_ints{a:AV}(h:s5 (.sl [wT]) a):∃l:List Int,(∀x∈l,True)/\l.length<=maxLen/\a= .snap (aB aW l):=Qe aF9 h
end Go.Proofs.YtpaomccedbjknaaGreatDoor
namespace Go.Proofs.YtpaomccedbjknaaGreatDoor
open Go.Proofs Go.AL Tryz
set_option maxRecDepth 100000
set_option maxHeartbeats 8000000
attribute [local irreducible] bT AW b8 cF dB hold
def PW(l:List bK):Prop:=l.Pairwise fun a b=>a.number<b.number
theorem PW.sort{l:List bK}(h:PW l):HX l:=fun i k iJ hk=>by
 have h1:=OR.1 h i k oM hk iJ
 grind
theorem PW.inj{l:List bK}(h:PW l){a b:bK}(ha:a∈l)(hb:b∈l)(hn:a.number=b.number):a=b:=by
 obtain⟨i,hi,rfl⟩:=CW.1 ha;obtain⟨k,hk,rfl⟩:=CW.1 hb;rcases Iq i k with g|g|g
 ·have:=OR.1 h i k hi hk g
  omega
 ·grind
 ·have:=OR.1 h k i hk hi g
  omega
def AJ(l:List bK)(n:Int):Option bK:=if pE l n=true then some (l.getD (fE l n) bU)else none
theorem Qf{l:List bK}{n:Int}{x:bK}(h:AJ l n=some x):x∈l/\x.number=n:=by
 grind [AJ,FB]
theorem Qg{l:List bK}(hl:PW l){x:bK}(hx:x∈l):pE l x.number=true/\l.getD (fE l x.number) bU=x:=by
 obtain⟨i,hi,hix⟩:=CW.1 hx;have h2:l.getD i bU=x:=by simp[hi,hix]
 have h1:fE l x.number=i:=by
  rcases Iq (fE l x.number) i with g|g|g
  ·have h3:=Ab hl.sort (cA _) (by omega:fE l x.number<l.length)
   have h4:=hl.sort _ _ g hi
   grind
  ·exact g
  ·have h3:=Aa g
   grind
 grind [pE]
theorem Qh{l:List bK}(hl:PW l){x:bK}(hx:x∈l):AJ l x.number=some x:=by
 obtain⟨h1,h2⟩:=Qg hl hx;simp_all [AJ]
theorem aG1{l:List bK}{n:Int}{x:bK}(hx:x∈l.take (fE l n)):x.number<n:=by
 obtain⟨i,hi,rfl⟩:=CW.1 hx;rw[dX]at hi;have:=Aa (l:=l) (n:=n) (i:=i) oM
 grind
theorem aG2{l:List bK}(hl:PW l){n:Int}{x:bK}(hx:x∈l.drop (fE l n)):n<=x.number:=by
 obtain⟨i,hi,rfl⟩:=CW.1 hx;rw[kR]at hi;have:=Ab hl.sort (n:=n) (i:=fE l n+i) oM oM
 grind
theorem Bu{l:List bK}(hl:PW l)(x:bK):PW (rZ l x):=by
 unfold rZ;split
 ·rename_i g
  obtain⟨h1,h2⟩:=FB g;refine OR.2 fun i k hi hk iJ=> ?_
  rw[GR]at hi hk;have h3:=OR.1 hl i k hi hk iJ
  grind
 ·rename_i g
  have hd:∀y∈l.drop (fE l x.number),x.number<y.number:=fun y hy=>by
   have h1:=aG2 hl hy
   grind [Qg]
  refine Zp.2 ⟨List.Pairwise.sublist (List.take_sublist _ _) hl,It.2 ⟨hd,List.Pairwise.sublist (List.drop_sublist _ _) hl⟩,fun a ha b hb=> ?_⟩
  have h1:=aG1 ha
  grind
theorem Qi(l:List bK)(x:bK):x∈rZ l x:=by
 grind [rZ,List.mem_set,FB]
theorem VM{l:List bK}(hl:PW l){x y:bK}(hy:y∈rZ l x):y=x\/(y∈l/\y.number≠x.number):=by
 by_cases g:y.number=x.number
 ·exact .inl ((Bu hl x).inj hy (Qi l x) g)
 grind [Pz]
theorem aG3{l:List bK}(hl:PW l)(x:bK):AJ (rZ l x) x.number=some x:=Qh (Bu hl x) (Qi l x)
def DJ(l:List bK):Prop:=∀a∈l,∀b∈l,a.number≠b.number->∀n∈a.records,n∉b.records
theorem Qj(j:Jr):∀(l:List bK) (p:Option Int) (own:List Int),(∀x∈l,mW j x=true)->PW l->(∀n,p=some n->∀x∈l,n<x.number)->DJ l->(∀x∈l,∀n∈x.records,n∉own)->sL j p own l=true
 |[],_,_,_,_,_,_,_=>rfl
 |x::l,p,own,h1,h2,h3,h4,h5=>by
  obtain⟨h6,h7⟩:=It.1 h2;rw[UR,if_pos (h1 x (by simp))]
  have h8:x.records.any (fun n=>own.contains n)=false:=by
   rw[Y0];intro n hn;have:=h5 x (by simp) n hn
   simpa using this
  have h9:sL j (some x.number) (own++x.records) l=true:=by
   refine Qj j l _ _ (fun y hy=>h1 y (by simp[hy])) h7 (fun n hn y hy=> ?_) (fun a ha b hb AK=>h4 a (by simp[ha]) b (by simp[hb]) AK) (fun y hy n hn hm=> ?_)
   ·grind
   ·rcases qW.1 hm with h|h
    ·grind
    ·have:=h6 y hy
     exact h4 y (by simp[hy]) x (by simp) oM n hn h
  rw[h8];cases p with
  |none=>grind
  |some n=>
   grind
theorem Qk(j:Jr):∀(l:List bK) (p:Option Int) (own:List Int),sL j p own l=true->DJ l/\∀x∈l,∀n∈x.records,n∉own
 |[],_,_,_=>⟨fun a ha=>by simp at ha,fun a ha=>by simp at ha⟩
 |x::l,p,own,h=>by
  obtain⟨-,-,h2⟩:=Ak h;obtain⟨h3,h4⟩:=Qk j l _ _ h2
  have h5:∀n∈x.records,n∉own:=fun n hn hm=>by
   grind [UR]
  refine⟨fun a ha b hb AK n hn hm=> ?_,fun y hy n hn=> ?_⟩
  ·rcases dJ.1 ha with e1|e1
   ·grind
   ·rcases dJ.1 hb with e2|e2
    ·grind
    ·exact h3 a e1 b e2 AK n hn hm
  grind
theorem Ql:∀(l:List Int) (last next next':Int),next<=next'->pV last next l=true->pV last next' l=true
 |[],_,_,_,_,_=>rfl
 |x::l,last,next,next',hn,h=>by
  rw[F9]at h⊢;split at h
  ·grind
  ·rw[if_neg oM]
   exact Ql l x next next' hn h
theorem Bv:∀(l:List Int) (last next:Int),last<next->pV last next l=true->pV last (next+1) (l++[next])=true
 |[],last,next,hn,_=>by
  rw[sF,F9,if_neg oM]
  rfl
 |x::l,last,next,hn,h=>by
  rw[F9]at h;rw[BB,F9];split at h
  ·grind
  ·rename_i g
   rw[if_neg oM]
   exact Bv l x next oM h
theorem aG4{j j':Jr}{x:bK}(hf:j'.first=j.first)(hn:jN j<=jN j')(h:mW j x=true):mW j' x=true:=by
 unfold mW at h⊢;split at h
 ·rename_i g1
  rw[if_pos g1];split at h
  ·grind
  ·rename_i g2
   rw[if_neg g2];split at h
   ·grind
   ·rename_i g3
    rw[if_neg g3];split at h
    ·rename_i g4
     rw[if_pos (by grind [Ql])]
     exact h
    grind
 grind
theorem Bw{j:Jr}(h:jE j=0):jN j=j.first+j.aR.length:=by unfold jN;omega
theorem aG5(k:Int)(p:List Int):(C0 k p).length=p.length+7:=by
 grind [C0,qO,FG]
theorem aG6{j:Jr}(h1:mH j.start j.count=true)(h2:0<=j.head)(h3:j.head<j.count-16)(h4:1<=j.first)(h5:j.first+(j.aR.length:Int)<=1073741824)(h6:j.tail=(j.head+j.aR.sum) % (j.count-16))(h7:j.aR.sum<=j.count-16)(h8:j.aR.any DL=false):jE j=0:=by
 have h9:=(L7 _ (L6 h8)).1;unfold jE
 grind
theorem Qm{l:List bK}{n:Int}{y:bK}(h:AJ l n=some y):pE l n=true/\l.getD (fE l n) bU=y:=by
 grind [AJ]
theorem Qn(n:Int):(aV n).length<=8:=by
 refine OZ 7 _ ?_;unfold iY;split<;>omega
end Go.Proofs.YtpaomccedbjknaaGreatDoor
namespace Go.AL
def kG(P:Program)(f:FuncId)(fn:Func)(s:ChangeSpec)(c:OpenClaim):List Bool:=
 [c.wf (OpenSpec.ofChange s),laidOutB P,mapsRowed P,
 fn.params.all (P.readableRec ·),namedTie P c.named s.vars,
 (c.stops==[]),(P.stops==[]),(c.knobs==[]),(P.stopKnobs==[]),
 (c.inPlace==P.inPlace f),(c.unfollowed==P.unfollowed f),(c.recurses==P.recurses f),(c.named==P.varsNamed f),
 (c.maps==(fn.params.toList++s.plain.varTypes P).any (P.mapsRec ·)),(c.ifaces==(fn.params.toList++s.plain.varTypes P).any (P.ifacesRec ·)),(c.mapsOut==P.mapsAmong fn.resultTypes.toList),
 (c.loops==(fn.params.toList++s.plain.varTypes P).any (P.loopsFrom ·)),(c.wideKeys==(fn.params.toList++s.plain.varTypes P++fn.resultTypes.toList).any (P.wideKeysFrom ·)),
 s.vars.all (P.varReadable ·),fn.resultTypes.all (fun t=>P.readableRec t&&decide (t<P.types.size)),(c.ifacesOut==fn.resultTypes.toList.any (P.ifacesRec ·)),(c.loopsOut==fn.resultTypes.toList.any (P.loopsFrom ·)),(c.plainKeys==P.plainKeys),c.shortTexts.isNone,P.stopsHeard,P.mayEnter,(c.lifted==P.liftsFinal),(P.make==some c.make),(c.kinds==(if c.domain.isEmpty then []else fn.params.toList.map fun t=>match P.underlying t with|some (.int k)=>some k|_=>none)),(c.pinned==c.pinnedBy),
 (c.veiled==(fn.params.toList++s.plain.varTypes P++fn.resultTypes.toList).any (P.veiledRec ·)),c.veiledFits P fn.params.toList (fn.params.toList++s.plain.varTypes P++fn.resultTypes.toList)]
theorem aG7{P:Program}{f:FuncId}{fn:Func}{s:ChangeSpec}{c:OpenClaim}(h:(kG P f fn s c).all id=true):joinedFacts P f fn s c=true:=by
 unfold kG at h;simp only[KI,List.all_nil,id,Ig,jF]at h;unfold joinedFacts;simp only[jF];obtain⟨h0,h1,h2,h3,h4,h5,h6,h7,h8,h9,fG,mR,u2,D6,H8,Bx,By,Bz,h18,h19,h20,h21,h22,h23,h24,h25,h26,h27,h28,h29,h30,Ca⟩:=h;exact⟨⟨⟨⟨⟨⟨⟨⟨⟨⟨⟨⟨⟨⟨⟨⟨⟨⟨⟨⟨⟨⟨⟨⟨⟨⟨⟨⟨⟨⟨⟨h0,h1⟩,h2⟩,h3⟩,h4⟩,h5⟩,h6⟩,h7⟩,h8⟩,h9⟩,fG⟩,mR⟩,u2⟩,D6⟩,H8⟩,Bx⟩,By⟩,Bz⟩,h18⟩,h19⟩,h20⟩,h21⟩,h22⟩,h23⟩,h24⟩,h25⟩,h26⟩,h27⟩,h28⟩,h29⟩,h30⟩,Ca⟩
theorem Nn{l:List Bool}(h:∀i,i<l.length->l.getD i true=true):l.all id=true:=by
 rw[iM];intro b hb;obtain⟨i,hi⟩:=CT.1 hb;obtain⟨h1,h2⟩:=fT.1 hi;have h3:=h i h1;rw[rL,hi]at h3;exact h3
end Go.AL
namespace Go.Proofs.YtpaomccedbjknaaGreatDoor
open Go.Proofs Go.AL Tryz
set_option maxRecDepth 100000
set_option maxHeartbeats 8000000
attribute [local irreducible] bT AW b8 cF dB hold
structure Rec where
 kind:Int
 seq:Int
 pay:List Int
deriving instance DecidableEq for Rec
def Qo(r:Rec):List AV:=[zV r.kind,zV r.seq,.snap (aB aO r.pay)]
theorem aI2{l:List bK}{n:Int}(h:pE l n=true):AJ l n=some (l.getD (fE l n) bU):=by
 unfold AJ
 grind
def vS(j:Jr)(k:Nat):Int:=(j.head+(j.aR.take k).sum) % (j.count-16)
def C6(d:bQ)(j:Jr)(n:Int):Jr×List bR×Int:=
 if gE d=0 then
  if jE j=0 then
   if n<j.first-1\/j.first+(j.aR.length:Int)<=n then(lB,[],2)
   else if n=j.first-1 then(j,[],0)
   else if(iN d j.start (aV (vS j (n+1-j.first).toNat)++aV (n+1))).2=0 then
    (⟨j.start,j.count,vS j (n+1-j.first).toNat,j.tail,n+1,j.aR.drop (n+1-j.first).toNat⟩,(iN d j.start (aV (vS j (n+1-j.first).toNat)++aV (n+1))).1,0)
   else(lB,[],(iN d j.start (aV (vS j (n+1-j.first).toNat)++aV (n+1))).2)
  else(lB,[],3)
 else(lB,[],gE d)
theorem aI3{j:Jr}{k:Nat}(hn:0<j.count-16)(hk:k<j.aR.length):(vS j k+j.aR.getD k 0) % (j.count-16)=vS j (k+1):=by
 unfold vS;rw[Int.emod_add_emod,kF 0 hk,Y8,Is,List.sum_nil,Int.add_zero,Zk]
theorem aI4{j:Jr}(h0:0<=j.head)(h1:j.head<j.count-16):vS j 0=j.head:=by
 simp_all [vS,Int.emod_eq_of_lt]
theorem aI5{j:Jr}{k:Nat}(hn:0<j.count-16):0<=vS j k/\vS j k<j.count-16:=⟨Zl _ oM,Zm _ hn⟩
def uL(n:Int):List bK->Int->Int
 |[],m=>m
 |x::l,m=>if n<x.number then uL n l (min m (x.records.headD 0-1))else uL n l m
def qP(d:bQ)(s:jB)(n:Int):jB×List bR×Int:=
 if gE d=0 then
  if l5 s=0 then
   if n<0\/1073741824<n then(o0,[],2)
   else if(C6 d s.j (uL n s.bI (jN s.j-1))).2.2=0 then
    (⟨(C6 d s.j (uL n s.bI (jN s.j-1))).1,s.bI.filter fun x=>decide (n<x.number)⟩,(C6 d s.j (uL n s.bI (jN s.j-1))).2.1,0)
   else(o0,[],(C6 d s.j (uL n s.bI (jN s.j-1))).2.2)
  else(o0,[],l5 s)
 else(o0,[],gE d)
theorem aI6(a b:Int):(aV a++aV b).length<=31:=by
 grind [Qn]
theorem Qp{j:Jr}{x:bK}(h:mW j x=true):uB (cD x)=0/\DN x≠0/\(x.closed=true->(uE (cD x)).2=0)/\pV (j.first-1) (jN j) x.records=true/\x.records.length=BS x:=by
 simp_all [mW,of_decide_eq_true]
structure Stp where
 kind:Int
 number:Int
 part:Int
 data:Int
end Go.Proofs.YtpaomccedbjknaaGreatDoor
