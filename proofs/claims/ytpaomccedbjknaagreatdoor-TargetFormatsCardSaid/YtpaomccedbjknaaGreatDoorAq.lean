/- Target: contracts of its functions (Aq). No condition but those named. -/
import Derived.Test.YtpaomccedbjknaaGreatDoorAp
set_option linter.all false
namespace Go.Proofs.YtpaomccedbjknaaGreatDoor
open Go.Proofs Go.AL Tryz
set_option maxRecDepth 100000
set_option maxHeartbeats 8000000
attribute [local irreducible] bT AW b8 cF dB hold
attribute [local irreducible] iX
def yX(own:List Int):List (Value×AV):=own.map fun n=>(.int .i64 n,bV true)
theorem UW(own:List Int):yY (.int .i64) (yX own)=true:=by
 unfold yY yX;rw[iM];intro p hp;obtain⟨n,_,rfl⟩:=mF.1 hp;rfl
theorem Af:∀{own:List Int} {n:Int},n∈own->sM (.int .i64 n) (yX own)=some (bV true)
 |m::own,n,h=>by
  simp only[yX,qE,sM];by_cases he:m=n
  ·subst he
   rw[if_pos (by simp[rY])]
  ·rw[if_neg (by simp[rY,he])]
   rcases dJ.1 h with h|h
   ·exact absurd h.symm he
   ·exact Af h
theorem Nh{own:List Int}{n:Int}(h:n∉own):∀p∈yX own,rY p.1 (.int .i64 n)=false:=fun p hp=>by
 obtain⟨m,hm,rfl⟩:=mF.1 hp;have:m≠n:=fun e=>h (e▸hm)
 simp[rY,this]
theorem Ni{own:List Int}{n:Int}(h:n∉own):sM (.int .i64 n) (yX own)=none:=Ag (Nh h)
theorem Nj{own:List Int}{n:Int}(h:n∉own):uH (.int .i64 n) (bV true) (yX own)=yX (own++[n]):=by
 rw[Ah (Nh h)];simp[yX]
def UX(l:List bK):Nat->Option Int
 |0=>none
 |k+1=>some (l.getD k bU).number
theorem Nk{j:Jr}{x:bK}(h:mW j x=true):pV (j.first-1) (jN j) x.records=true:=by
 unfold mW at h;split at h
 ·split at h
  ·exact absurd h dE
  ·split at h
   ·exact absurd h dE
   ·split at h
    ·rename_i g;exact g
    ·exact absurd h dE
 ·exact absurd h dE
theorem Nl{r:List Int}(h:r.Nodup){q:Nat}(hq:q<r.length):r.getD q 0∉r.take q:=fun hm=>by
 obtain⟨i,hi,he⟩:=CW.1 hm;rw[dX]at hi;rw[List.getElem_take]at he;have h1:r.getD q 0=r[q]:=by simp[hq]
 rw[h1]at he;exact OR.1 h i q oM hq oM he
theorem L9(s:jB)(hs:yV s):PC 113 [.agg (dH s)] (zV (l5 s)):=by
 refine aZ func113 ntmps113 (.c _) ?_;have c1:=aw6 s.j hs.aR;obtain⟨M,hM⟩:∃M,l5 s=M:=⟨_,rfl⟩;rw[hM];unfold l5 at hM;obtain⟨j,l⟩:=s;have hl:=hs.bI;have dM:=hs.one;have xQ:=hs.aR;simp only[]at*;have Q8:gF j=[zV j.start,zV j.count,zV j.head,zV j.tail,zV j.first,.snap (aB aW j.aR)]:=rfl
 rw[Q8]at c1;unfold dH;simp only[];by_cases g1:jE j=0
 case neg=>
  rw[if_neg g1]at hM;subst hM;clear dM Q8;generalize jE j=e at*;exact zEa
 rw[if_pos g1]at hM;rw[g1]at c1;by_cases g2:1024<l.length
 ·rw[if_pos g2]at hM
  subst hM;have rC:(1024:Int)<l.length:=oM
  clear dM Q8 g1;exact zEa
 rw[if_neg g2]at hM;have rC:¬(1024:Int)<l.length:=oM
 have hg:=yU l;have oC:∀k,k<l.length->PC 188 [.agg (gF j),.agg (bX (l.getD k bU))] (bV (mW j (l.getD k bU))):=fun k hk=>ax3 j _ g1 xQ (dM _ (eB bU hk))
 rw[Q8]at oC;clear g2 g1 Q8 hs;refine aM ?_;refine dC (α:=List Int) l.length (fun k own=> [(23,true,zV k),(22,true,zV l.length),(21,true,.snap (aB bX l)),(4,true,.omap 1),(1,true,.ptr 0 0 0)]) (fun k own=> [(0,some (.cells 42 7 [[zV j.start,zV j.count,zV j.head,zV j.tail,zV j.first,.snap (aB aW j.aR),.snap (aB bX l)]] true false)),(1,some (.map (yX own)))]) (fun k m own=>2<=m/\sL j (UX l k) own (l.drop k)=sL j none [] l) ⟨100,[],⟨oM,rfl⟩,aG⟩ (fun k m own hk hR=> ?_) (fun m own hR=> ?_)
 ·obtain⟨hm,hR⟩:=hR
  rw[wH bU hk,UR]at hR;have hF:sL j none [] l=false->M=3:=fun h=>by rw[if_neg (by rw[h];decide)]at hM;exact hM.symm
  have bO:=hg k hk;have ck:=oC k hk;have rU:=(dM _ (eB bU hk)).records;have vO:= @Nk j (l.getD k bU);have pW:UX l (k+1)=some (l.getD k bU).number:=rfl;rw[lY]at ck bO;by_cases g3:mW j (l.getD k bU)=true
  case neg=>
   rw[if_neg g3]at hR;obtain rfl:=hF hR.symm;have qI:mW j (l.getD k bU)=false:=by simpa using g3
   rw[qI]at ck;clear hR hF hM hg oC dM vO rU pW;generalize l.getD k bU=x at*;exact zE
  rw[if_pos g3]at hR;have uG:=Nc _ _ _ (vO g3);rw[g3]at ck;clear vO hM oC dM g3;cases k with
  |zero=>
   have EY:UX l 0=none:=rfl;rw[EY]at hR;rw[if_neg (by simp)]at hR
   clear EY;clear hg;have pW:=bC.mk pW;generalize l.getD 0 bU=x at*;obtain⟨xn,xp,xs,xh,xe,r,xc⟩:=x;simp only[]at*;have tJ:=gI r;have hF:=bC.mk hF;have hR:=bC.mk hR;have uG:=bC.mk uG;refine aE ?_;refine dC (α:=Unit) r.length (fun q _=> [(52,true,zV q),(51,true,zV r.length),(50,true,.snap (aB aW r)),(23,true,zV 0),(22,true,zV l.length),(21,true,.snap (aB bX l)),(4,true,.omap 1),(1,true,.ptr 0 0 0)]) (fun q _=> [(0,some (.cells 42 7 [[zV j.start,zV j.count,zV j.head,zV j.tail,zV j.first,.snap (aB aW j.aR),.snap (aB bX l)]] true false)),(1,some (.map (yX (own++r.take q))))]) (fun q m' _=>2<=m'/\∀i,i<q->r.getD i 0∉own) ⟨m+200,(),⟨oM,fun i hi=>absurd hi oM⟩,aG⟩ (fun q m' _ hq cW=> ?_) (fun m' _ cW=> ?_)
   ·obtain⟨tI,cW⟩:=cW
    have HM:=tJ q hq;have cI:=kF 0 hq;rw[cI,<-nH];clear cI tJ bO ck;obtain⟨v,hv⟩:∃v,r.getD q 0=v:=⟨_,rfl⟩;rw[hv]at HM⊢;by_cases g5:v∈own
    ·have hR:=hR.out
     rw[if_pos (CU.2 ⟨v,by rw[<-hv];exact eB 0 hq,by simpa using g5⟩)]at hR
     obtain rfl:=hF.out hR.symm;have wN:=Af (own:=own++r.take q) (GQ _ g5);have h3:=UW (own++r.take q);unfold yY sN at h3;have r8:(IntKind.i64==IntKind.i64)=true:=rfl;clear hR hF cW pW uG g5 hv;exact zE
    ·have HY:v∉own++r.take q:=fun h=>by
      rcases qW.1 h with h|h
      ·exact g5 h
      ·rw[<-hv]at h
       exact Nl uG.out hq h
     have h1:=Ni HY;have h2:=Nj HY;have h3:=UW (own++r.take q);unfold yY sN at h3;have r8:(IntKind.i64==IntKind.i64)=true:=rfl
     have pD:bC (∀i,i<q+1->r.getD i 0∉own):=⟨fun i hi=>by
      rcases qY i q with h4|h4
      ·exact cW i h4
      ·rw[show i=q by omega,hv];exact g5⟩
     clear HY g5 cW hv;generalize own++r.take q=O at*;refine aE ?_;exact⟨m'+20,(),⟨oM,pD.out⟩,aG⟩
   ·obtain⟨tI,cW⟩:=cW
    rw[gP];have hR:=hR.out
    rw[if_neg (fun h=>by
     obtain⟨v,h1,h2⟩:=CU.1 h;obtain⟨i,h3,rfl⟩:=CW.1 h1
     exact cW i h3 (by simpa[h3]using h2))]at hR
    have hR:=bC.mk hR;clear tJ cW uG hF;refine aE ?_;exact⟨m'+20,own++r,⟨oM,by rw[pW.out];exact hR.out⟩,aG⟩
  |succ p0=>
   have hgp:=hg p0 oM
   rw[lY]at hgp;have w1:IntKind.i64.wrap ((p0:Int)+1-1)=p0:=by rw[IntWalk.i64_in _ oM];omega
   have w2:(0:Int)<(p0:Int)+1:=oM
   have w3:IntKind.i64.wrap (((p0+1:Nat):Int)-1)=p0:=by rw[IntWalk.i64_in _ oM];omega
   have w4:(0:Int)<((p0+1:Nat):Int):=oM
   have w5:p0<l.length:=oM
   have Ai:UX l (p0+1)=some (l.getD p0 bU).number:=rfl;rw[Ai]at hR;generalize l.getD p0 bU=y at*;by_cases g4:(l.getD (p0+1) bU).number<=y.number
   ·rw[if_pos (by simpa using g4)]at hR
    obtain rfl:=hF hR.symm;clear hR hF hg rU pW Ai uG;generalize l.getD (p0+1) bU=x at*;exact zE
   rw[if_neg (by simpa using g4)]at hR
   clear Ai;clear hg;have pW:=bC.mk pW;generalize l.getD (p0+1) bU=x at*;obtain⟨xn,xp,xs,xh,xe,r,xc⟩:=x;simp only[]at*;have tJ:=gI r;have hF:=bC.mk hF;have hR:=bC.mk hR;have uG:=bC.mk uG;refine aE ?_;refine dC (α:=Unit) r.length (fun q _=> [(52,true,zV q),(51,true,zV r.length),(50,true,.snap (aB aW r)),(23,true,zV (p0+1)),(22,true,zV l.length),(21,true,.snap (aB bX l)),(4,true,.omap 1),(1,true,.ptr 0 0 0)]) (fun q _=> [(0,some (.cells 42 7 [[zV j.start,zV j.count,zV j.head,zV j.tail,zV j.first,.snap (aB aW j.aR),.snap (aB bX l)]] true false)),(1,some (.map (yX (own++r.take q))))]) (fun q m' _=>2<=m'/\∀i,i<q->r.getD i 0∉own) ⟨m+200,(),⟨oM,fun i hi=>absurd hi oM⟩,aG⟩ (fun q m' _ hq cW=> ?_) (fun m' _ cW=> ?_)
   ·obtain⟨tI,cW⟩:=cW
    have HM:=tJ q hq;have cI:=kF 0 hq;rw[cI,<-nH];clear cI tJ bO ck;obtain⟨v,hv⟩:∃v,r.getD q 0=v:=⟨_,rfl⟩;rw[hv]at HM⊢;by_cases g5:v∈own
    ·have hR:=hR.out
     rw[if_pos (CU.2 ⟨v,by rw[<-hv];exact eB 0 hq,by simpa using g5⟩)]at hR
     obtain rfl:=hF.out hR.symm;have wN:=Af (own:=own++r.take q) (GQ _ g5);have h3:=UW (own++r.take q);unfold yY sN at h3;have r8:(IntKind.i64==IntKind.i64)=true:=rfl;clear hR hF cW pW uG g5 hv;exact zE
    ·have HY:v∉own++r.take q:=fun h=>by
      rcases qW.1 h with h|h
      ·exact g5 h
      ·rw[<-hv]at h
       exact Nl uG.out hq h
     have h1:=Ni HY;have h2:=Nj HY;have h3:=UW (own++r.take q);unfold yY sN at h3;have r8:(IntKind.i64==IntKind.i64)=true:=rfl
     have pD:bC (∀i,i<q+1->r.getD i 0∉own):=⟨fun i hi=>by
      rcases qY i q with h4|h4
      ·exact cW i h4
      ·rw[show i=q by omega,hv];exact g5⟩
     clear HY g5 cW hv;generalize own++r.take q=O at*;refine aE ?_;exact⟨m'+20,(),⟨oM,pD.out⟩,aG⟩
   ·obtain⟨tI,cW⟩:=cW
    rw[gP];have hR:=hR.out
    rw[if_neg (fun h=>by
     obtain⟨v,h1,h2⟩:=CU.1 h;obtain⟨i,h3,rfl⟩:=CW.1 h1
     exact cW i h3 (by simpa[h3]using h2))]at hR
    have hR:=bC.mk hR;clear tJ cW uG hF;refine aE ?_;exact⟨m'+20,own++r,⟨oM,by rw[pW.out];exact hR.out⟩,aG⟩
 ·obtain⟨hm,hR⟩:=hR
  rw[v8]at hR;have pP:sL j none [] l=true:=by rw[<-hR];rfl
  rw[if_pos pP]at hM;subst hM;clear hR pP dM oC hg;exact zEa
theorem Nn{e:List Bool}(h:∀i,i<e.length->e.getD i false=true):e.all id=true:=by
 rw[iM];intro b hb;obtain⟨i,hi,rfl⟩:=CW.1 hb;have:=h i hi;simpa[hi]using this
theorem Ak{j:Jr}{p:Option Int}{own:List Int}{x:bK}{l:List bK}(h:sL j p own (x::l)=true):mW j x=true/\(∀n,p=some n->n<x.number)/\sL j (some x.number) (own++x.records) l=true:=by
 rw[UR]at h;by_cases g1:mW j x=true
 ·rw[if_pos g1]at h
  by_cases g3:x.records.any (fun n=>own.contains n)=true
  ·exfalso
   rw[if_pos g3]at h;split at h<;>exact absurd h (by simp)
  ·rw[if_neg g3]at h
   cases p with
   |none=>exact⟨g1,fun n hn=>by simp at hn,by simpa using h⟩
   |some n=>
    by_cases g2:x.number<=n
    ·rw[if_pos (by simpa using g2)]at h
     exact absurd h dE
    ·rw[if_neg (by simpa using g2)]at h
     exact⟨g1,fun n' hn=>by injection hn with hn;omega,h⟩
 ·rw[if_neg g1]at h
  exact absurd h dE
theorem Q9(j:Jr):∀(l:List bK) (p:Option Int) (own:List Int),sL j p own l=true->l.Pairwise (fun a b=>a.number<b.number)/\∀n,p=some n->∀x∈l,n<x.number
 |[],_,_,_=>⟨List.Pairwise.nil,fun _ _ x hx=>absurd hx (by simp)⟩
 |x::l,p,own,h=>by
  obtain⟨-,h0,h⟩:=Ak h;obtain⟨h1,h2⟩:=Q9 j l _ _ h;have h3:=h2 _ rfl;refine⟨List.Pairwise.cons h3 h1,fun n hp y hy=> ?_⟩
  have h4:=h0 n hp;rcases dJ.1 hy with rfl|hy
  ·exact h4
  ·have:=h3 y hy
   omega
theorem Al{j:Jr}{l:List bK}(h:sL j none [] l=true):HX l:=fun i k iJ hk=>by
 have h1:=OR.1 (Q9 j l none [] h).1 i k oM hk iJ
 have h2:l.getD i bU=l[i]:=by simp[show i<l.length by omega]
 have h3:l.getD k bU=l[k]:=by simp[hk]
 rw[h2,h3];exact h1
theorem HZ(j:Jr):∀(l:List bK) (p:Option Int) (own:List Int),sL j p own l=true->∀x∈l,mW j x=true
 |[],_,_,_=>fun x hx=>absurd hx (by simp)
 |x::l,p,own,h=>by
  obtain⟨g1,-,h⟩:=Ak h;intro y hy;rcases dJ.1 hy with rfl|hy
  ·exact g1
  ·exact HZ j l _ _ h y hy
def pX(s:jB)(n:Int):kM×Int:=
 if l5 s=0 then
  if pE s.bI n=true then
   if(s.bI.getD (fE s.bI n) bU).closed=true then uE (cD (s.bI.getD (fE s.bI n) bU))else(mV,12)
  else(mV,7)
 else(mV,l5 s)
def sO(s:jB):List Int:=if l5 s=0 then(s.bI.filter bK.closed).map bK.number else []
theorem FA{s:jB}(h:l5 s=0):jE s.j=0/\s.bI.length<=1024/\sL s.j none [] s.bI=true:=by
 unfold l5 at h;by_cases g1:jE s.j=0
 ·rw[if_pos g1]at h
  by_cases g2:1024<s.bI.length
  ·rw[if_pos g2]at h;exact absurd h dE
  ·rw[if_neg g2]at h
   by_cases g3:sL s.j none [] s.bI=true
   ·exact⟨g1,oM,g3⟩
   ·rw[if_neg g3]at h;exact absurd h dE
 ·rw[if_neg g1]at h;exact absurd h g1
theorem FB{l:List bK}{n:Int}(h:pE l n=true):fE l n<l.length/\(l.getD (fE l n) bU).number=n:=by
 unfold pE at h;rw[jF,decide_eq_true_eq,decide_eq_true_eq]at h;exact h
theorem No(s:jB)(n:Int)(hs:yV s):PC 60 [.agg (dH s),zV n] (.aK [.agg (iO (pX s n).1),zV (pX s n).2]):=by
 refine aZ func60 ntmps60 (by simp only[go_sem,iO]) ?_
 have c1:=L9 s hs;have Mt:iO mV=[zV 0,zV 0,zV 0,.snap (aB aW []),.snap (aB aH [])]:=rfl;obtain⟨M,hM⟩:∃M,pX s n=M:=⟨_,rfl⟩;rw[hM];unfold pX at hM;have hG:= @FA s;have dM:=hs.one;have hl:=hs.bI;clear hs;obtain⟨j,l⟩:=s;unfold dH at*;simp only[]at*;generalize l5 ⟨j,l⟩=e at*;by_cases g1:e=0
 case neg=>
  rw[if_neg g1]at hM;subst hM;clear hG dM;exact zEa
 rw[if_pos g1]at hM;obtain⟨-,-,h3⟩:=hG g1;have hs:=Al h3;subst g1;have c2:=UU l n hs hl;clear hG h3 hs;have hg:=yU l;by_cases g2:pE l n=true
 case neg=>
  rw[if_neg g2]at hM;subst hM;have rC:pE l n=false:=by simpa using g2
  rw[rC]at c2;clear dM hg g2 rC;generalize fE l n=i at*;exact zEa
 rw[if_pos g2]at hM;obtain⟨hi,-⟩:=FB g2;rw[g2]at c2;clear g2;generalize fE l n=i at*;have oB:=hg i hi;have hx:=dM _ (eB bU hi);generalize l.getD i bU=x at*;have c3:=Q7 x;have c4:=ZZ (cD x) hx.cD;generalize uE (cD x)=cy at*;obtain⟨⟨cb,cn,ct,cp,cw⟩,ce⟩:=cy;clear dM hg hx;obtain⟨xn,xp,xs,xh,xe,xr,xc⟩:=x;rw[lY]at oB c3;unfold jX cD iO at*;simp only[]at*;cases xc with
 |false=>
  rw[if_neg dE]at hM
  subst hM;clear c3 c4;exact zEa
 |true=>
  rw[if_pos rfl]at hM;subst hM;exact zEa
theorem ax6(s:jB)(hs:yV s):PC 141 [.agg (dH s)] (.snap (aB aW (sO s))):=by
 refine aZ func141 ntmps141 (by simp only[go_sem]) ?_
 have c1:=L9 s hs;obtain⟨M,hM⟩:∃M,sO s=M:=⟨_,rfl⟩;rw[hM];unfold sO at hM;have hl:=hs.bI;clear hs;obtain⟨j,l⟩:=s;unfold dH at*;simp only[]at*;generalize l5 ⟨j,l⟩=e at*;by_cases g1:e=0
 case neg=>
  rw[if_neg g1]at hM;subst hM;exact zEa
 rw[if_pos g1]at hM;subst g1;have hg:=yU l;refine aM ?_;refine dC (α:=Nat) l.length (fun k id=> [(12,true,zV k),(11,true,zV l.length),(10,true,.snap (aB bX l)),(3,true,lJ (((l.take k).filter bK.closed).map bK.number).length id),(1,true,.ptr 0 0 0)]) (fun k id=>(0,some (.cells 42 7 [[zV j.start,zV j.count,zV j.head,zV j.tail,zV j.first,.snap (aB aW j.aR),.snap (aB bX l)]] true false))::lX 3 1 (aB aW (((l.take k).filter bK.closed).map bK.number)) (((l.take k).filter bK.closed).map bK.number).length id) (fun k m id=>(1<=m/\(((l.take k).filter bK.closed).map bK.number).length<=k)/\(0<(((l.take k).filter bK.closed).map bK.number).length->1<=id/\id<m)) ⟨100,0,⟨⟨oM,by simp⟩,fun h=>absurd h (by simp)⟩,aG⟩ (fun k m id hk hR=> ?_) (fun m id hR=> ?_)
 ·obtain⟨⟨hm,qJ⟩,hR⟩:=hR
  have bO:=hg k hk;rw[lY]at bO;have cI:=kF bU hk;rw[cI,Im,CV];clear cI hg hM;generalize l.getD k bU=x at*;generalize ((l.take k).filter bK.closed).map bK.number=F at*;obtain⟨xn,xp,xs,xh,xe,xr,xc⟩:=x;simp only[]at*;cases xc with
  |false=>
   rw[show List.map bK.number (List.filter bK.closed [⟨xn,xp,xs,xh,xe,xr,false⟩])=[]from rfl,v7]
   cases hF:F.length with
   |zero=>
    have jC:F=[]:=eL hF;subst jC;clear hR hF;refine aM ?_;exact⟨m+20,0,⟨⟨oM,oM⟩,fun h=>absurd h (by simp)⟩,aG⟩
   |succ q=>
    obtain⟨i1,i2⟩:=hR oM
    clear hR;refine aM ?_;exact⟨m+20,id,⟨⟨oM,oM⟩,fun _=>by omega⟩,aG⟩
  |true=>
   rw[show List.map bK.number (List.filter bK.closed [⟨xn,xp,xs,xh,xe,xr,true⟩])=[xn]from rfl]
   cases hF:F.length with
   |zero=>
    have jC:F=[]:=eL hF;subst jC;clear hR hF;refine aM ?_;exact⟨m+20,m+1+1+1,⟨⟨oM,by simp⟩,fun _=>by omega⟩,aG⟩
   |succ q=>
    obtain⟨i1,i2⟩:=hR oM
    have AB:(F++[xn]).length=q+1+1:=by simp[hF]
    rw[AB];clear hR AB;refine aM ?_;exact⟨m+20,m+1+1+1,⟨⟨oM,oM⟩,fun _=>by omega⟩,aG⟩
 ·rw[gP]at hR⊢
  rw[hM]at hR⊢;obtain⟨⟨hm,qJ⟩,hR⟩:=hR;clear hg hM;cases hF:M.length with
  |zero=>
   have jC:M=[]:=eL hF;subst jC;clear hR hF;exact zEa
  |succ q=>
   obtain⟨i1,i2⟩:=hR oM
   have cI:M.take (q+1)=M:=cN oM
   exact zEa
end Go.Proofs.YtpaomccedbjknaaGreatDoor
