/- Staging. No condition. -/
import Derived.Test.YtioafciifiggaaaGreatDoorL0
import Derived.Test.YtioafciifiggaaaGreatDoorAq
import Derived.Test.YtioafciifiggaaaGreatDoorLg
set_option linter.all false
namespace Go.Proofs.YtioafciifiggaaaGreatDoor
open Go.Proofs Go.AL
set_option maxRecDepth 100000
set_option maxHeartbeats 4000000
attribute [local irreducible] cH AW b9 dR eH hold
attribute [local irreducible] jI
theorem BW(l:List Int):∀row∈aA aN l,∀x∈row,bK x:=fun row hr x hx=>by
 obtain⟨v,rfl⟩:=OE l row hr x hx;exact .c v
theorem PB(b:List Int)(n:Int)(hb:b.length<=100000)(id:Nat):AB Tryz.prog 159 [.own id 0 b.length,zV n] id 5 1 (aA aN b) 5 1 (aA aN (b++aQ n)):=
 Zc (BW b) (BW _) (fun a ha=>by simp only[cG,jF,or_false]at ha;subst ha;exact .c _) ((ZG b n hb (.own 0 0 b.length) [(0,some (.cells 5 1 (aA aN b) true true))] 1 ⟨TU n,rfl,.inr ⟨0,by omega,rfl,rfl⟩⟩).mono fun r H ⟨i,h1,h2⟩=>⟨i,by rw[h1,mH],h2⟩) id
theorem Jp{α:Type}(f:α->List Int)(d:α){l:List α}{k:Nat}(h:k<l.length):(l.take (k+1)).flatMap f=(l.take k).flatMap f++f (l.getD k d):=by
 rw[A8 d h,Te];simp
theorem Jq{α:Type}(f:α->List Int)(l:List α)(k:Nat):((l.take k).flatMap f).length<=(l.flatMap f).length:=by
 conv=>rhs;rw[<-yJ k l]
 rw[Te,bP];omega
theorem bf7(b:List Int)(l:List Int)(hb:b.length+(fW aQ l).length<=100000)(hl:l.length<=100000)(id:Nat):AB Tryz.prog 193 [.own id 0 b.length,.snap (aA bD l),.fn (.func 159) [] []] id 5 1 (aA aN b) 5 1 (aA aN (b++fW aQ l)):=by
 refine VF Tryz.func193 Tryz.ntmps193 (BW b) (BW _) (fun a ha=> ?_) ?_ (id:=id)
 ·simp only[cG,jF,or_false]at ha
  rcases ha with rfl|rfl
  ·exact kL _
  ·exact .fn _ _ _ (fun x hx=>absurd hx (by simp)) (fun x hx=>absurd hx (by simp))
 have c1:=PB b l.length (by omega)
 have Zd:(fW aQ l).length=(aQ l.length).length+(l.flatMap aQ).length:=by unfold fW;rw[bP]
 have oI:=Jq aQ l;have xX:=fun k (h:k<l.length)=>Jp aQ 0 h
 have hM:b++fW aQ l=(b++aQ l.length)++l.flatMap aQ:=by unfold fW;rw[fF]
 rw[hM];have Ze:(b++aQ l.length).length=b.length+(aQ l.length).length:=bP;generalize b++aQ l.length=B at*;have hg:=gI l;clear hM;refine AE ?_;refine fK (α:=Nat) l.length (fun k id=> [(15,true,zV k),(14,true,zV l.length),(13,true,.snap (aA bD l)),(2,true,.fn (.func 159) [] []),(0,true,.own id 0 (B++(l.take k).flatMap aQ).length)]) (fun k id=> [(id,some (.cells 5 1 (aA aN (B++(l.take k).flatMap aQ)) true true))]) (fun k m id=>id<m) ⟨100,1,by omega,by simp only[xE,O1,mD];exact aT⟩ (fun k m id hk hR=> ?_) (fun m id hR=> ?_)
 ·have fD:=hg k hk
  have h1:=xX k hk;have h2:=oI (k+1);have h3:=oI k;have c2:=PB (B++(l.take k).flatMap aQ) (l.getD k 0) (by rw[bP];omega)
  rw[h1,<-fF];rw[h1,bP]at h2;clear xX oI hg c1 h1;generalize hF:B++(l.take k).flatMap aQ=F at*;generalize pG:F++aQ (l.getD k 0)=F2 at*;generalize l.getD k 0=v at*;clear hF pG;refine AE ?_;exact⟨m+20,m,by omega,aT⟩
 ·rw[lI]
  clear xX oI hg c1;generalize B++l.flatMap aQ=F at*;refine AE ?_;exact⟨id,lT,lT⟩
theorem bf8(b:List Int)(x:aH)(hb:b.length<=100000)(id:Nat):AB Tryz.prog 238 [.own id 0 b.length,.agg (aS x)] id 5 1 (aA aN b) 5 1 (aA aN (b++nS x)):=by
 refine VF Tryz.func238 Tryz.ntmps238 (BW b) (BW _) (fun a ha=> ?_) ?_ (id:=id)
 ·simp only[cG,jF,or_false]at ha
  subst ha;exact eV.2 (ZB x)
 have hx:aS x=[uV x.1.1,uV x.1.2.1,uV x.1.2.2.1,uV x.1.2.2.2,uV x.2.1,uV x.2.2.1,uV x.2.2.2.1,uV x.2.2.2.2]:=rfl;have hr:aA aN (b++nS x)=aA aN b++[[uV x.1.1],[uV x.1.2.1],[uV x.1.2.2.1],[uV x.1.2.2.2],[uV x.2.1],[uV x.2.2.1],[uV x.2.2.2.1],[uV x.2.2.2.2]]:=by simp[aA,nS,aN]
 have hl:(aA aN (b++nS x)).length=b.length+8:=by rw[mH];simp[nS]
 rw[hx,hl,hr];refine AE ?_;exact⟨2,lT,lT⟩
theorem bf9(l:List aH)(k:Nat)(h:k<l.length):(aA aS l)[k]? =some (aS (l.getD k aE)):=pD aE h
theorem Zf(l:List eW)(k:Nat)(h:k<l.length):(aA bJ l)[k]? =some (bJ (l.getD k (0,0,[]))):=pD (0,0,[]) h
theorem bg0(b:List Int)(l:List aH)(hb:b.length+(fW nS l).length<=100000)(hl:l.length<=100000)(id:Nat):AB Tryz.prog 237 [.own id 0 b.length,.snap (aA aS l),.fn (.func 238) [] []] id 5 1 (aA aN b) 5 1 (aA aN (b++fW nS l)):=by
 refine VF Tryz.func237 Tryz.ntmps237 (BW b) (BW _) (fun a ha=> ?_) ?_ (id:=id)
 ·simp only[cG,jF,or_false]at ha
  rcases ha with rfl|rfl
  ·exact kL _
  ·exact .fn _ _ _ (fun x hx=>absurd hx (by simp)) (fun x hx=>absurd hx (by simp))
 have c1:=PB b l.length (by omega)
 have Zd:(fW nS l).length=(aQ l.length).length+(l.flatMap nS).length:=by unfold fW;rw[bP]
 have oI:=Jq nS l;have xX:=fun k (h:k<l.length)=>Jp nS aE h
 have hM:b++fW nS l=(b++aQ l.length)++l.flatMap nS:=by unfold fW;rw[fF]
 rw[hM];have Ze:(b++aQ l.length).length=b.length+(aQ l.length).length:=bP;generalize b++aQ l.length=B at*;have hg:=bf9 l;clear hM;refine AE ?_;refine fK (α:=Nat) l.length (fun k id=> [(15,true,zV k),(14,true,zV l.length),(13,true,.snap (aA aS l)),(2,true,.fn (.func 238) [] []),(0,true,.own id 0 (B++(l.take k).flatMap nS).length)]) (fun k id=> [(id,some (.cells 5 1 (aA aN (B++(l.take k).flatMap nS)) true true))]) (fun k m id=>id<m) ⟨100,1,by omega,by simp only[xE,O1,mD];exact aT⟩ (fun k m id hk hR=> ?_) (fun m id hR=> ?_)
 ·have fD:=hg k hk
  have h1:=xX k hk;have h2:=oI (k+1);have h3:=oI k;have c2:=bf8 (B++(l.take k).flatMap nS) (l.getD k aE) (by rw[bP];omega)
  rw[h1,<-fF];rw[h1,bP]at h2;clear xX oI hg c1 h1;generalize hF:B++(l.take k).flatMap nS=F at*;generalize pG:F++nS (l.getD k aE)=F2 at*;generalize l.getD k aE=v at*;clear hF pG;refine AE ?_;exact⟨m+20,m+1+1,by omega,aT⟩
 ·rw[lI]
  clear xX oI hg c1;generalize B++l.flatMap nS=F at*;refine AE ?_;exact⟨id,lT,lT⟩
theorem Av(w:eW):bJ w=[zV w.1,zV w.2.1,.snap (aA aS w.2.2)]:=rfl
theorem bg1(b:List Int)(w:eW)(hb:b.length+(jR w).length<=100000)(hw:w.2.2.length<=100000)(id:Nat):AB Tryz.prog 192 [.own id 0 b.length,.agg (bJ w)] id 5 1 (aA aN b) 5 1 (aA aN (b++jR w)):=by
 refine VF Tryz.func192 Tryz.ntmps192 (BW b) (BW _) (fun a ha=> ?_) ?_ (id:=id)
 ·simp only[cG,jF,or_false]at ha
  subst ha
  exact eV.2 fun x hx=>by
   rw[Av]at hx;simp only[cG,jF,or_false]at hx;rcases hx with rfl|rfl|rfl
   ·exact .c _
   ·exact .c _
   ·exact kL _
 have hlw:(jR w).length=(aQ w.1).length+(aQ w.2.1).length+(fW nS w.2.2).length:=by unfold jR;rw[bP,bP]
 have L7:b++jR w=(b++aQ w.1)++aQ w.2.1++fW nS w.2.2:=by unfold jR;simp only[fF]
 have c1:=PB b w.1 (by omega)
 have c2:=PB (b++aQ w.1) w.2.1 (by rw[bP];omega)
 have c3:=bg0 (b++aQ w.1++aQ w.2.1) w.2.2 (by rw[bP,bP];omega) hw
 rw[L7];generalize b++aQ w.1=B1 at*;generalize B1++aQ w.2.1=B2 at*;generalize B2++fW nS w.2.2=B3 at*;clear hlw L7 hb;rw[Av];refine AE ?_;exact⟨_,lT,lT⟩
theorem bg3(b:List Int)(l:List eW)(hb:b.length+(fW jR l).length<=100000)(hl:l.length<=100000)(hw:∀x∈l,x.2.2.length<=100000)(id:Nat):AB Tryz.prog 191 [.own id 0 b.length,.snap (aA bJ l),.fn (.func 192) [] []] id 5 1 (aA aN b) 5 1 (aA aN (b++fW jR l)):=by
 refine VF Tryz.func191 Tryz.ntmps191 (BW b) (BW _) (fun a ha=> ?_) ?_ (id:=id)
 ·simp only[cG,jF,or_false]at ha
  rcases ha with rfl|rfl
  ·exact kL _
  ·exact .fn _ _ _ (fun x hx=>absurd hx (by simp)) (fun x hx=>absurd hx (by simp))
 have c1:=PB b l.length (by omega)
 have Zd:(fW jR l).length=(aQ l.length).length+(l.flatMap jR).length:=by unfold fW;rw[bP]
 have oI:=Jq jR l;have xX:=fun k (h:k<l.length)=>Jp jR (0,0,[]) h
 have hM:b++fW jR l=(b++aQ l.length)++l.flatMap jR:=by unfold fW;rw[fF]
 rw[hM];have Ze:(b++aQ l.length).length=b.length+(aQ l.length).length:=bP;generalize b++aQ l.length=B at*;have hg:=Zf l;clear hM;refine AE ?_;refine fK (α:=Nat) l.length (fun k id=> [(15,true,zV k),(14,true,zV l.length),(13,true,.snap (aA bJ l)),(2,true,.fn (.func 192) [] []),(0,true,.own id 0 (B++(l.take k).flatMap jR).length)]) (fun k id=> [(id,some (.cells 5 1 (aA aN (B++(l.take k).flatMap jR)) true true))]) (fun k m id=>id<m) ⟨100,1,by omega,by simp only[xE,O1,mD];exact aT⟩ (fun k m id hk hR=> ?_) (fun m id hR=> ?_)
 ·have fD:=hg k hk
  have h1:=xX k hk;have h2:=oI (k+1);have h3:=oI k;have h4:=oI (k+1);have c2:=bg1 (B++(l.take k).flatMap jR) (l.getD k (0,0,[])) (by rw[h1,bP]at h4;rw[bP];omega) (hw _ (cQ _ hk))
  rw[h1,<-fF];rw[h1,bP]at h2;clear xX oI hg c1 h1 h4;rw[Av]at fD c2;generalize hF:B++(l.take k).flatMap jR=F at*;generalize pG:F++jR (l.getD k (0,0,[]))=F2 at*;generalize l.getD k (0,0,[])=v at*;clear hF pG;refine AE ?_;exact⟨m+20,m+1+1,by omega,aT⟩
 ·rw[lI]
  clear xX oI hg c1;generalize B++l.flatMap jR=F at*;refine AE ?_;exact⟨id,lT,lT⟩
theorem bg4(b:List Int)(l:List Int)(aJ:b≠[])(hb:b.length+(fW aQ l).length<=100000)(hl:l.length<=100000):uF Tryz.prog 140 [.snap (aA aN b),.snap (aA bD l)] (.own 0 0 (aA aN (b++fW aQ l)).length) 5 1 (aA aN (b++fW aQ l)) true:=by
 refine TW Tryz.func140 Tryz.ntmps140 (OE _) ?_;have c1:=KJ b aJ (by omega)
 have c2:=bf7 b l hb hl;generalize b++fW aQ l=B at*;refine AE ?_;exact⟨_,lT,lT⟩
theorem bg5(b:List Int)(l:List eW)(aJ:b≠[])(hb:b.length+(fW jR l).length<=100000)(hl:l.length<=100000)(hw:∀x∈l,x.2.2.length<=100000):uF Tryz.prog 139 [.snap (aA aN b),.snap (aA bJ l)] (.own 0 0 (aA aN (b++fW jR l)).length) 5 1 (aA aN (b++fW jR l)) true:=by
 refine TW Tryz.func139 Tryz.ntmps139 (OE _) ?_;have c1:=KJ b aJ (by omega)
 have c2:=bg3 b l hb hl hw;generalize b++fW jR l=B at*;refine AE ?_;exact⟨_,lT,lT⟩
theorem bg6(n:Int):aQ n≠[]:=fun h=>by
 unfold aQ at h;by_cases g:pE n<128
 ·rw[OF g]at h;simp at h
 ·rw[TS g]at h;simp at h
theorem bg7(c:jJ)(hc:OR c)(hp:c.pos.length<=100000)(hn:c.writes.length<=100000)(hw:∀x∈c.writes,x.2.2.length<=100000)(hl:(qE c).length<=100000):PC 65 [.agg (mI c)] (.aU [.snap (aA aN (nB c).1),zV (nB c).2]):=by
 refine bI Tryz.func65 Tryz.ntmps65 (by simp only[go_sem]) ?_
 have c0:=Yi;have c1:=Vl c xT (by decide) hc
 have hE:nB c=if zX c xT=0 then(if 65536<(qE c).length then([],5)else(qE c,0))else([],zX c xT):=rfl
 have hW:qE c=aQ c.base++aQ c.number++aQ c.time++fW aQ c.pos++fW jR c.writes:=rfl;have hlW:(qE c).length=(aQ c.base).length+(aQ c.number).length+(aQ c.time).length+(fW aQ c.pos).length+(fW jR c.writes).length:=by rw[hW];simp only[bP]
 have v1:=yL c.base;have v2:=yL c.number;have v3:=yL c.time;have c2:=TV c.base;have c3:=OH (aQ c.base) c.number (by omega)
 have c4:=OH (aQ c.base++aQ c.number) c.time (by rw[bP];omega)
 have Js:aQ c.base++aQ c.number++aQ c.time≠[]:=fun h=>by
  have:=(List.append_eq_nil_iff.1 h).2;exact bg6 _ this
 have c5:=bg4 (aQ c.base++aQ c.number++aQ c.time) c.pos Js (by simp only[bP];omega) hp
 have c6:=bg5 (aQ c.base++aQ c.number++aQ c.time++fW aQ c.pos) c.writes (fun h=>Js (List.append_eq_nil_iff.1 h).1) (by simp only[bP];omega) hn hw
 rw[<-hW]at c6;rw[pW]at c2;generalize hM:nB c=M at*;generalize aQ c.base=b1 at*;generalize b1++aQ c.number=b2 at*;generalize b2++aQ c.time=b3 at*;generalize b3++fW aQ c.pos=b4 at*;generalize qE c=b5 at*;generalize zX c xT=e at*;clear hc hw Js hW hlW hM;obtain⟨cb,cn,ct,cp,cw⟩:=c;unfold mI at*;simp only[]at*;by_cases g1:e=0
 ·rw[if_pos g1]at hE
  subst g1;by_cases g2:65536<b5.length
  ·rw[if_pos g2]at hE
   subst hE;have ER:(65536:Int)<b5.length:=by omega
   refine aD ?_;refine kC 4 ?_;refine kM ?_;refine aD ?_;exact aC
  ·rw[if_neg g2]at hE
   subst hE;have ER:¬(65536:Int)<b5.length:=by omega
   refine aD ?_;refine kC 4 ?_;refine kM ?_;refine aD ?_;exact aC
 ·rw[if_neg g1]at hE
  subst hE;clear c2 c3 c4 c5 c6;refine aD ?_;exact aC
def yS(n i p s:Int):List Int:=aQ n++aQ i++aQ p++aQ s
theorem bg9(n i p s:Int):uF Tryz.prog 68 [.agg [zV n,zV p,zV s,zV i]] (.own 0 0 (aA aN (yS n i p s)).length) 5 1 (aA aN (yS n i p s)) true:=by
 refine TW Tryz.func68 Tryz.ntmps68 (OE _) ?_;unfold yS;have v1:=yL n;have v2:=yL i;have v3:=yL p;have c2:=TV n;have c3:=OH (aQ n) i (by omega)
 have c4:=OH (aQ n++aQ i) p (by rw[bP];omega)
 have c5:=OH (aQ n++aQ i++aQ p) s (by simp only[bP];omega)
 rw[pW]at c2;generalize aQ n=b1 at*;generalize b1++aQ i=b2 at*;generalize b2++aQ p=b3 at*;generalize b3++aQ s=b4 at*;refine aD ?_;refine kC 5 ?_;refine kM ?_;refine aD ?_;exact⟨_,lT,lT⟩
end Go.Proofs.YtioafciifiggaaaGreatDoor
