/- Staging. No condition. -/
import Derived.Test.YtioafciifiggaaaGreatDoorL0
import Derived.Test.YtioafciifiggaaaGreatDoorAzj
import Derived.Test.YtioafciifiggaaaGreatDoorAzi
import Derived.Test.YtioafciifiggaaaGreatDoorAx
import Derived.Test.YtioafciifiggaaaGreatDoorAw
import Derived.Test.YtioafciifiggaaaGreatDoorLg
set_option linter.all false
namespace Go.Proofs.YtioafciifiggaaaGreatDoor
open Go.Proofs Go.AL
set_option maxRecDepth 100000
set_option maxHeartbeats 8000000
attribute [local irreducible] cH AW b9 dR eH hold
attribute [local irreducible] jI
theorem am4{d:bL}{a c:Int}(hk:∀s∈fA d.st d.ca,dC s)(h:(jO d a c).2=0):0<=(jO d a c).1.1/\(jO d a c).1.1<c-16/\1<=(jO d a c).1.2/\(jO d a c).1.2<=1073741824:=by
 have h0:=Ae (Vb (a:=a) hk).1;unfold jO at h⊢;split at h
 ·rename_i g1
  rw[if_pos g1];split at h
  ·rename_i g2
   rw[if_pos g2];split at h
   ·rename_i g3
    rw[if_pos g3];exact⟨h0,g3.2.2.1,g3.2.2.2.1,g3.2.2.2.2⟩
   ·exact absurd h (by decide)
  ·exact absurd h (by decide)
 ·rename_i g1
  exact absurd h g1
theorem am5{d:bL}{a c:Int}{n:Nat}(hv:qY a c=true)(hl:a+c<=(d.st.length:Int))(hk:∀s∈fA d.st d.ca,dC s)(hn:c-16=(n:Int)):(tD d a c).length=n/\(∀s∈tD d a c,dC s)/\(dM d=0->tO d (a+16) (n:Int)=(tD d a c,0)):=by
 have h5:=IS hv;have e0:=wJ d.ca d.st;refine⟨?_,fun s hs=>hk s (lJ (oS hs)),fun g=> ?_⟩
 ·unfold tD
  rw[cU,eF,hn];omega
 ·unfold tO tD
  rw[if_pos g,if_neg (by omega),hn]
def HB(C:List aH)(hd n i:Nat):List aH:=(List.range i).map (fun k=>C.getD ((hd+k) % n) aE)
theorem bC9(C:List aH)(hd n i:Nat):HB C hd n (i+1)=HB C hd n i++[C.getD ((hd+i) % n) aE]:=by
 unfold HB;rw[yK,vY];rfl
theorem bD0(C:List aH)(hd n i:Nat):(HB C hd n i).length=i:=by
 unfold HB;rw[l4,KF]
theorem bD1{σ:AS}{env:List (Nat×Bool×AV)}{H:Heap}(w:Holds σ env H:=by
  ((repeat (refine uG (by first|rfl|exact nY|(simp(maxSteps:=2000000) (disch:=omega) only[go_sem, *];rfl)) ?_));(refine holds_nil (by simp only[];omega) ?_);(first|exact(fun _ _ h=>h)|((repeat (first|refine sQ (by first|rfl|exact nY|(simp(maxSteps:=2000000) (disch:=omega) only[go_sem, *];rfl)) ?_|refine PN ?_));exact BH)))):Holds σ env H:=w
theorem am6{R:List Rec}{k:Nat}(h:k<R.length):fL (R.take (k+1))=fL (R.take k)++[((((R.getD k iU).cT.length+10)/4:Nat):Int)]:=by
 unfold fL;rw[Gg,vY,eQ h];rw[eP,eQ h];rfl
def C8(n hd:Int)(R:List Rec)(k:Nat):Int:=(hd+(fL (R.take k)).sum) % n
theorem bD2{n hd:Int}{R:List Rec}{k:Nat}(h:k<R.length):C8 n hd R (k+1)=(C8 n hd R k+((((R.getD k iU).cT.length+10)/4:Nat):Int)) % n:=by
 unfold C8;rw[am6 h,TJ,qP,OD,TN,<-Fy,Ub]
theorem fzJ{dd k:Nat}{rows:List (List AV)}{x0 x1 x2 x3 x4:AV}{l:List Int}(hr:rows=aA bD l)(hk:k=l.length):LI dd rows [[x0,x1,x2,x3,x4,.own dd 0 k]] [[x0,x1,x2,x3,x4,.snap (aA bD l)]]:=by
 subst hr hk;refine⟨rfl,fun i r r' h1 h2=> ?_⟩
 cases i with
 |succ i=>simp at h1
 |zero=>
  simp only[nE,bC]at h1 h2;subst h1 h2;refine⟨rfl,fun k x y hx hy=> ?_⟩
  match k with
  |0=>simp only[nE,bC]at hx hy;subst hx hy;exact .inl rfl
  |1=>simp only[nE,vE,bC]at hx hy;subst hx hy;exact .inl rfl
  |2=>simp only[nE,vE,bC]at hx hy;subst hx hy;exact .inl rfl
  |3=>simp only[nE,vE,bC]at hx hy;subst hx hy;exact .inl rfl
  |4=>simp only[nE,vE,bC]at hx hy;subst hx hy;exact .inl rfl
  |5=>simp only[nE,vE,bC]at hx hy;subst hx hy;exact .inr ⟨0,l.length,rfl,by rw[mH];omega,by rw[CO,eD (by rw[mH];exact cE _)]⟩
  |k+6=>simp at hx
theorem bD4(d:bL)(a c:Int)(hs:d.st.length<=1000000)(h2:d.ca.length<=1000000)(hk:∀s∈fA d.st d.ca,dC s):PC 48 [.agg (bM d),.agg [zV a,zV c]] (.aU [.agg (eZ (mV d a c).1.1),.snap (aA kI (mV d a c).1.2.1),.snap (aA bJ (mV d a c).1.2.2),zV (mV d a c).2]):=by
 refine BI Tryz.func48 Tryz.ntmps48 (by simp only[go_sem,eZ]) ?_
 have c0:=CZ d hs h2;have c1:=Ij a c;obtain⟨M,hM⟩:∃M,mV d a c=M:=⟨_,rfl⟩;rw[hM];unfold mV at hM;by_cases g0:dM d=0
 case neg=>
  rw[if_neg g0]at hM;subst hM;have g0x:(dM d !=0)=true:=by simpa using g0
  generalize dM d=e at*;obtain⟨st,ca⟩:=d;unfold eZ j9 bM at*;simp only[]at*;clear c1 hk g0;refine aD ?_;exact oD
 rw[if_pos g0]at hM;rw[g0]at c0;by_cases g1:qY a c=true
 case neg=>
  rw[if_neg (fun h=>g1 h.1)]at hM
  subst hM;have JD:qY a c=false:=by simpa using g1
  rw[JD]at c1;obtain⟨st,ca⟩:=d;unfold eZ j9 bM at*;simp only[]at*;clear hk g1 JD g0;refine aD ?_;exact oD
 have hv:=IS g1;rw[g1]at c1;have w1:IntKind.i64.wrap (a+c)=a+c:=IntWalk.i64_in _ (by omega)
 by_cases g2:a+c<=(d.st.length:Int)
 case neg=>
  rw[if_neg (fun h=>g2 h.2)]at hM
  subst hM;have WI:(d.st.length:Int)<a+c:=by omega
  obtain⟨st,ca⟩:=d;unfold eZ j9 bM at*;simp only[]at*;clear hk g1 g0 g2;refine aD ?_;exact oD
 rw[if_pos ⟨g1,g2⟩]at hM;have WI:¬(d.st.length:Int)<a+c:=by omega
 have c2:=bx8 d a c (by omega) (by omega) hs h2 hk
 have Na:=am4 (a:=a) (c:=c) hk;by_cases g3:(jO d a c).2=0
 case neg=>
  rw[if_neg g3]at hM;subst hM;generalize jO d a c=HE at*;obtain⟨⟨h,f⟩,e⟩:=HE;simp only[]at*;have g3x:(e !=0)=true:=by simpa using g3
  obtain⟨st,ca⟩:=d;unfold eZ j9 bM at*;simp only[]at*;clear hk g1 g0 g2 g3 Na;refine aD ?_;exact oD
 rw[if_pos g3]at hM;obtain⟨h0,h1,f1,f2⟩:=Na g3;rw[g3]at c2;obtain⟨n,hn⟩:∃n:Nat,c-16=n:=⟨(c-16).toNat,by omega⟩
 obtain⟨hC,DV,dS⟩:=am5 g1 g2 hk hn;have c3:=Gt d (a+16) (n:Int) hs h2;rw[dS g0]at c3;simp only[]at c3;generalize jO d a c=HE at*;obtain⟨⟨h,f⟩,e⟩:=HE;simp only[]at*;generalize tD d a c=C at*;obtain⟨hd,rfl⟩:∃hd:Nat,h=hd:=⟨h.toNat,by omega⟩
 have c4:=bB0 (jV C hd) f (Mz DV hd) (by rw[yW (by omega)];omega)
 have QC:=am3 (jV C hd) f (Mz DV hd);rw[yW (by omega),hC]at QC
 have hRe:AO C (hd:Int) f=(mU (jV C hd) f).1.take (1073741824-f).toNat:=by unfold AO;rw[mE]
 rw[hRe]at hM;generalize hSc:mU (jV C hd) f=Sc at*;obtain⟨R0,S0⟩:=Sc;simp only[]at*;obtain⟨R,hR⟩:∃R,R0.take (1073741824-f).toNat=R:=⟨_,rfl⟩;have m6:=QC.take (1073741824-f).toNat;have GY:f+(R.length:Int)<=1073741824:=by rw[<-hR,cU];omega
 rw[hR]at m6 hM;have Dd:=bC7 g1 hn (by omega) (by omega) f1 GY m6
 have c5:=P6 (pP a c hd f R) (by unfold pP fL;simp only[l4];have:=m6.len;omega)
 have c6:=bC8 (pP a c hd f R) (jU (pP a c hd f R)) (by unfold pP fL;simp only[l4];have:=m6.len;omega)
 have hU:jU (pP a c hd f R)=(fL R).sum:=by
  obtain⟨fB,-⟩:=uP Dd;unfold jU;rw[if_pos fB];have h9:=((An _ fB).1 Dd).2.1;have:=(V6 ((pP a c hd f R).count-16) (pP a c hd f R).b8 0 (by show 0<=c-16;omega)).2 h9
  show(sJ (c-16) (fL R) 0).1=_
  have e9:(sJ (c-16) (fL R) 0).1=0+(fL R).sum:=this;rw[e9,Tq]
 obtain⟨c',rfl⟩:∃c':Int,c=c'+16:=⟨c-16,by omega⟩
 obtain rfl:c'=(n:Int):=by omega
 have Cn:=m6.sum;have DW:(fL R).length=R.length:=by unfold fL;rw[l4]
 have De:0<=(fL R).sum:=by
  have:=Dc (fL R) 0 (fun x hx=>by
   unfold fL at hx;obtain⟨r,-,rfl⟩:=kV.1 hx
   omega)
  simpa using this
 obtain⟨free,Nb⟩:∃free:Nat,(free:Int)=(n:Int)-(fL R).sum:=⟨((n:Int)-(fL R).sum).toNat,by omega⟩
 have QD:(n:Int)+16-16=n:=by omega
 have Nc:0<=((hd:Int)+(fL R).sum) % (n:Int)/\((hd:Int)+(fL R).sum) % (n:Int)<(n:Int):=⟨BC _ (by omega),zM _ (by omega)⟩
 have c7:=bC1 (pP a (n+16) hd f R) (fL R).sum C n free hC rfl (by omega) (by omega) ⟨by show 0<=a;omega,by show a<=4096;omega⟩ (by unfold pP;simp only[];rw[QD];exact Nc) De Nb f1 (by unfold pP;simp only[];rw[DW];exact GY) (by unfold pP;simp only[];rw[DW];have:=m6.len;omega) DV
 have am8:wZ C n (pP a (n+16) hd f R).tail ((pP a (n+16) hd f R).first+((pP a (n+16) hd f R).b8.length:Int)) free=AN C n hd (fL R).sum (f+(R.length:Int)):=by
  unfold pP;simp only[];rw[DW,QD];exact bB8 (by omega) (by omega) (by omega) De Cn rfl Nb
 rw[am8]at c7;rw[QD]at hM;rw[hU,Dd]at c5;rw[hU]at c6;clear am8 hU Dd Na hRe hSc QC dS g3 hk g1 Nb;have c8:=Bi a (n+16) 0;rw[show IntKind.i64.wrap (IntKind.i64.wrap (a+16)+0)=a+16 by rw[IntWalk.i64_in (a+16) (by omega),IntWalk.i64_in _ (by omega)];omega]at c8
 have c9:=IX a (n+16);rw[show IntKind.i64.wrap ((n:Int)+16-16)=(n:Int)by rw[IntWalk.i64_in _ (by omega)];omega]at c9
 unfold pP encS at c7;simp only[]at c7;generalize J3 a (AN C (↑n) (↑hd) (fL R).sum (f+↑R.length))=RM at*;unfold pP encS eZ at c5;unfold pP eZ at c6;unfold pP at hM;simp only[]at c5 c6 c7 hM;rw[QD]at c5 c6 c7 hM;rw[show decide True=true from rfl]at c5
 subst hM;unfold eZ;simp only[];have QE:((hd:Int)+((fL R).take 0).sum) % (n:Int)=hd:=by simp only[xE,OD,TN];exact Gf (by omega) (by omega)
 have QF:((hd:Int)+((fL R).take R.length).sum) % (n:Int)=((hd:Int)+(fL R).sum) % (n:Int):=by rw[<-DW,lI]
 have WV:=gS C;obtain⟨st,ca⟩:=d;unfold bM at*;simp only[]at*;generalize Nd:(fL R).sum=sm at*;generalize Nf:((hd:Int)+sm) % (n:Int)=tl at*
 replace WV:=bB.mk WV
 replace m6:=bB.mk m6
 replace DV:=bB.mk DV
 replace c5:=bB.mk c5
 replace c6:=bB.mk c6
 replace c7:=bB.mk c7
 replace c4:=bB.mk c4
 refine aD ?_;refine GG 4 ?_;refine aD ?_;refine kA Tryz.func110 Tryz.ntmps110 ?_;refine aD ?_;refine OI Tryz.func173 Tryz.ntmps173 (fun Rn A B QB hA hB=> ?_)
 refine aD ?_;have hn4:4<=n/\n<=4080/\hd<n:=by omega
 refine fK (α:=Nat) n (fun i _=> [(7,true,zV i),(6,true,zV n),(0,true,.kH 27),(1,true,.ptr 26 0 0),(2,true,.ptr 25 0 0),(3,true,.ptr 24 0 0)])
  (fun i id=>(0,some (.cells 25 2 [[.snap (aA aS st),.snap (aA iP ca)]] true false))::(1,some (.cells 27 2 [[zV a,zV (↑n+16)]] true false))::(2,some (.cells 30 6 [[.c (.int .i64 0),.c (.int .i64 0),.c (.int .i64 0),.c (.int .i64 0),.c (.int .i64 0),.c (.slice none 0 0)]] true false))::(3,some (.cells 132 2 [[zV a,zV (↑n+16)]] true false))::(15,some (.cells 22 1 [[.snap (aA aS C)]] true false))::(18,some (.cells 22 1 [[uO i id]] true false))::(24,some (.cells 132 2 [[zV a,zV (↑n+16)]] true false))::(25,some (.cells 3 1 [[zV hd]] true false))::(26,some (.cells 3 1 [[zV n]] true false))::(27,some (.cO Rn 142 [77] A B .ready none))::wM 124 8 (aA aS (HB C hd n i)) i id)
  (fun i m id=>28<=m/\(0<i->28<=id/\id<m)) ⟨100,0,⟨by omega,by omega⟩,?_⟩ (fun i m id hi cP=> ?_) (fun m id cP=> ?_)
 ·exact aT
 ·obtain⟨hm,aB⟩:=cP
  obtain⟨q,hq⟩:∃q:Nat,(hd+i) % n=q:=⟨_,rfl⟩;have II:q<n:=by rw[<-hq];exact zO _ (by omega)
  have w2:IntKind.i64.wrap ((hd:Int)+(i:Int))=(hd:Int)+(i:Int):=IntWalk.i64_in _ (by omega)
  have w3:((hd:Int)+(i:Int)).tmod (n:Int)=(q:Int):=by rw[EF (by omega),<-hq];(first|rw[Ua,Int.natCast_add]|simp)
  have w4:¬(n:Int)=0:=by omega
  have w5:IntKind.i64.wrap (q:Int)=(q:Int):=IntWalk.i64_in _ (by omega)
  have hg:=WV.out q (by omega)
  have hr:=bC9 C hd n i;rw[hq]at hr;have iR:=bD0 C hd n i;rw[hr];generalize C.getD q aE=S at*;generalize HB C hd n i=L at*;obtain⟨⟨x0,x1,x2,x3⟩,x4,x5,x6,x7⟩:=S;have bH:aS ((x0,x1,x2,x3),x4,x5,x6,x7)=[uV x0,uV x1,uV x2,uV x3,uV x4,uV x5,uV x6,uV x7]:=rfl;have jS:=sP (f:=aS) L ((x0,x1,x2,x3),x4,x5,x6,x7);rw[bH]at hg jS;clear hq hr bH WV c4 c5 c6 c7 c8 m6 DV GY hR QE QF Nf Nd DW
  cases i with
  |zero=>
   have mS:L=[]:=jQ iR;subst mS;clear jS;refine aD ?_;refine GG 7 ?_;refine aD ?_;clear QB hA hB;exact⟨m+100,m+9+6,⟨by omega,fun _=>by omega⟩,aT⟩
  |succ i=>
   obtain⟨i1,i2⟩:=aB (by omega)
   refine aD ?_;refine GG 7 ?_;refine aD ?_;clear QB hA hB;exact⟨m+100,m+9+6,⟨by omega,fun _=>by omega⟩,aT⟩
 ·obtain⟨hm,aB⟩:=cP
  obtain⟨i1,i2⟩:=aB (by omega)
  have PG:uO n id= .own id 0 n:=by
   obtain⟨n',rfl⟩:∃n',n=n'+1:=⟨n-1,by omega⟩
   rfl
  have KS:wM 124 8 (aA aS (HB C hd n n)) n id=[(id,some (.cells 124 8 (aA aS (jV C hd)) true true))]:=by
   have h9:HB C hd n n=jV C hd:=bC6 hC (by omega)
   rw[h9];obtain⟨n',vS⟩:∃n',n=n'+1:=⟨n-1,by omega⟩
   rw[vS];rfl
  have iR:(jV C hd).length=n:=by rw[yW (by omega)];exact hC
  rw[PG,KS];have d4:=c4.out;have iI:(aA aS (jV C hd)).take n=aA aS (jV C hd):=eD (by rw[mH,iR];exact cE _)
  have Df:(aA aS (jV C hd)).length=n:=by rw[mH,iR]
  have Ks:(∀row,row∈aA aS (jV C hd)->∀x,x∈row->bK x)=True:=eq_true (oB (jV C hd));clear PG KS WV aB c4
  have Cs:R0.take (if 1073741824-f<(R0.length:Int)then 1073741824-f else(R0.length:Int)).toNat=R:=by
   rw[<-hR];split
   ·rfl
   ·rename_i g9
    rw[mE,lI,eD (by omega)]
  refine aD ?_;clear d4 iI Df Ks Cs hR;have FE:bB (∀k,k<R.length->(aA kI R)[k]? =some [zV (R.getD k iU).kind,zV (R.getD k iU).seq,.snap (aA aN (R.getD k iU).cT)]):=⟨fun k hk=>pD iU hk⟩
  have QE:C8 n hd R 0=hd:=by unfold C8;rw[xE];show((hd:Int)+0) % (n:Int)=hd;rw[TN];exact Gf (by omega) (by omega)
  have QF:C8 n hd R R.length=tl:=by unfold C8;rw[lI,Nd];exact Nf
  have UG:bB (∀k,0<=C8 n hd R k/\C8 n hd R k<n):=⟨fun k=>⟨BC _ (by omega),zM _ (by omega)⟩⟩
  have Dg:bB (∀k,k<R.length->C8 n hd R (k+1)=(C8 n hd R k+((((R.getD k iU).cT.length+10)/4:Nat):Int)) % n):=⟨fun k hk=>bD2 hk⟩
  have WW:bB (∀k,k<R.length->fL (R.take (k+1))=fL (R.take k)++[((((R.getD k iU).cT.length+10)/4:Nat):Int)]):=⟨fun k hk=>am6 hk⟩
  have KT:bB (∀k,k<=R.length->(fL (R.take k)).length=k):=⟨fun k hk=>by unfold fL;rw[l4,cU];omega⟩
  have WX:bB (∀k,k<R.length->(R.getD k iU).cT.length<=4096):=⟨fun k hk=>(m6.out.one _ (cQ iU hk)).2.1⟩
  have an0:2*R.length<=n:=m6.out.len;have WY:fL (R.take 0)=[]:=rfl;have WZ:fL (R.take R.length)=fL R:=by rw[lI]
  generalize iI:C8 n hd R=tk at*;clear iI Nd Nf m6 GY;generalize hss:(fun k=>fL (R.take k))=ss at*
  have pQ:∀k,fL (R.take k)=ss k:=fun k=>by rw[<-hss]
  simp only[pQ]at WW KT WY WZ;clear pQ hss
  refine fK (α:=Nat) R.length (fun k _=> [(105,true,zV k),(104,true,zV R.length),(103,true,.snap (aA kI R)),(18,true,.ptr m 0 0),(16,true,.snap (aA kI R)),(13,true,.ptr 15 0 0),(9,true,.ptr 3 0 0),(4,true,.ptr 2 0 0)])
   (fun k id=>(2,some (.cells 30 6 [[.c (.int .i64 0),.c (.int .i64 0),.c (.int .i64 0),.c (.int .i64 0),.c (.int .i64 0),.c (.slice none 0 0)]] true false))::(3,some (.cells 132 2 [[zV a,zV (↑n+16)]] true false))::(15,some (.cells 22 1 [[.snap (aA aS C)]] true false))::(m,some (.cells 30 6 [[zV a,zV (↑n+16),zV hd,zV (tk k),zV f,uO k id]] true false))::wM 3 1 (aA bD (ss k)) k id)
   (fun k m' id=>m+10<=m'/\(0<k->m+10<=id/\id<m')) ⟨m+100,0,⟨by omega,by omega⟩,?_⟩ (fun k m' id hk cP=> ?_) (fun m' id cP=> ?_)
  ·rw[WY,QE]
   clear c0 c1 c2 c3 c5 c6 c7 c8 c9 DV FE Dg WW KT UG WX WY WZ QF QE iR QB hA hB DW hv w1 hn h1 QD hn4 an0 Cn De Nc;simp only[Xy,Xz];exact bD1
  ·obtain⟨sU,aB⟩:=cP
   have hg:=FE.out k hk;have e1:=Dg.out k hk;have e2:=WW.out k hk;have e3:=KT.out k (by omega)
   have e4:=UG.out k;have e5:=WX.out k hk;rw[e1,e2];generalize lQ:(R.getD k iU).cT=P at*;have d5:=UZ (P.length:Int);rw[show D5 (P.length:Int)=((P.length+10)/4:Nat)by unfold D5;rw[if_neg (by omega)];omega]at d5
   generalize dP:(P.length+10)/4=sz at*;have cH0:sz<=1026:=by omega
   generalize ss k=L at*;generalize tk k=T at*;generalize (R.getD k iU).kind=K at*;generalize (R.getD k iU).seq=Sq at*;have w2:IntKind.i64.wrap (T+(sz:Int))=T+(sz:Int):=IntWalk.i64_in _ (by omega)
   have w3:(T+(sz:Int)).tmod (n:Int)=(T+(sz:Int)) % (n:Int):=EF (by omega)
   have w4:¬(n:Int)=0:=by omega
   have w6:IntKind.i64.wrap ((T+(sz:Int)) % (n:Int))=(T+(sz:Int)) % (n:Int):=IntWalk.i64_in _ (by have:=BC (T+(sz:Int)) (show(n:Int)≠0 by omega);have:=zM (T+(sz:Int)) (show(0:Int)<n by omega);omega)
   have jS:=sP (f:=bD) L (sz:Int);have bH:bD (sz:Int)=[zV sz]:=rfl;rw[bH]at jS;clear e1 e2 FE Dg WW KT UG WX c5 c6 c7 c8 dP lQ DV WY WZ QF QE iR QB hA hB;cases k with
   |zero=>
    have mS:L=[]:=jQ e3;subst mS;clear jS;refine aD ?_;exact⟨m'+50,m'+1+1+1,⟨by omega,fun _=>by omega⟩,aT⟩
   |succ k=>
    obtain⟨i1,i2⟩:=aB (by omega)
    refine aD ?_;exact⟨m'+50,m'+1+1+1,⟨by omega,fun _=>by omega⟩,aT⟩
  ·obtain⟨sU,aB⟩:=cP
   rw[QF,WZ];have d5:=c5.out;have d6:=c6.out;have d7:=c7.out;clear FE Dg WW KT UG WX c5 c6 c7 c8 c9 c0 c1 c2 c3 DV WY WZ QF QE iR QB hA hB hn4 an0 w1 hn QD Nc Cn De hv h1;clear i1 i2;cases Ct:R.length with
   |zero=>
    rw[Ct]at DW;have l7:fL R=[]:=jQ DW;have pY:R=[]:=jQ Ct;rw[l7]at d5 d6 d7⊢;simp only[Xy,Xz];clear DW l7 pY;refine an2 m [[zV a,zV (↑n+16),zV hd,zV tl,zV f,.snap []]] (yN (jH (.refl _) (jH (.refl _) (jH (.refl _) (jH (.refl _) (jH (.refl _) (jH .nil sD)))))) CY) ?_;refine aD ?_
    exact aC
   |succ k=>
    rw[Ct]at aB DW;obtain⟨i1,i2⟩:=aB (by omega)
    refine C4 id m [[zV a,zV (↑n+16),zV hd,zV tl,zV f,.snap (aA bD (fL R))]] (rws:=[[zV a,zV (↑n+16),zV hd,zV tl,zV f,.own id 0 (k+1)]]) (by simp(maxSteps:=2000000) (disch:=omega) only[go_sem, *]<;>exact rfl) (by simp(maxSteps:=2000000) (disch:=omega) only[go_sem, *]<;>exact rfl) (by omega) (fzJ rfl DW.symm) ?_
    refine aD ?_;exact aC
def rW(l:List aW)(m:Int):aI:= .cells 109 2 [[.snap (aA bQ l),zV m]] true false
theorem bD6(l:List aW)(m:Int)(r:Rec)(n:Nat)(h:rU l n)(hn:n<=90000)(hb:∀x∈r.cT,aV x)(hl:r.cT.length<=4096)(hk:r.kind=1)(ho:(bZ r.cT).2=0)(id:Nat):
  l6 Tryz.prog 114 [.ptr id 0 0,.agg (kI r)] id (rW l m) (some (rW (k9 l r).1 m)) (zV 0) 300:=by
 refine DT Tryz.func114 Tryz.ntmps114 ?_;intro N G aB jL hG;have c2:=Iy r.cT hb (by omega)
 have c5:=Yl r.cT hb (by omega)
 have uT:=Bp hb;have IZ:=ad2 r.cT;have zA:=h.len;have c4:=P9 l (bZ r.cT).1.number h.pw.sort (by omega)
 have JG:=fun x=>Kn l x h.pw.sort (by omega)
 obtain⟨M,hM⟩:∃M,(k9 l r).1=M:=⟨_,rfl⟩;rw[hM]
 have dO:oK r=true:=by
  unfold oK;rw[if_neg (by omega)]
  exact decide_eq_true ⟨hk,ho⟩
 have J5:iD r=(bZ r.cT).1.number:=by
  unfold iD;rw[if_neg (by omega)]
 unfold k9 at hM;rw[if_pos dO,if_neg (by omega),J5]at hM
 rw[ho]at c2 IZ;rw[IZ]at c5;clear dO J5 ho;obtain⟨rk,rq,p⟩:=r;unfold kI rW at*;simp only[]at*;generalize lW p=B at*;obtain⟨ba,be⟩:=B;simp only[]at uT IZ c5 hM;subst IZ;generalize VB:(bZ p).1.number=q at*;generalize bZ p=R at*;obtain⟨⟨n',pi,pp,ps,pl⟩,e⟩:=R;simp only[]at*;clear VB;have c7:=LD ba [rq] false uT.bS uT.seen (fun x hx=>(uT.one x hx).1) (by simp)
 have c8:=JG (iT ba [rq] false);have wQ:aA bD [rq]=[[zV rq]]:=rfl;rw[wQ]at c7;obtain⟨bn,bp,bs,bh,bz⟩:=ba;by_cases g3:nW l q=true
 case neg=>
  have xW:nW l q=false:=by simpa using g3
  rw[xW]at c4;rw[if_neg (fun hh=>g3 hh.1)]at hM
  simp only[]at hM;rw[hM]at c8;rw[iK]at c7 c8;unfold iT iZ at*;simp only[]at*;clear g3 xW JG uT hb h wQ hM;generalize bT l q=i at*;refine bW ?_;refine J0 ?_;refine bW ?_;exact rT
 ·obtain⟨hi,-⟩:=yR g3
  rw[g3]at c4;have k8:=BR l (bT l q) hi;have hx:=(h.one _ (cQ aY hi)).Mx (by omega)
  have DO:=(h.one _ (cQ aY hi)).ne;have xZ:EZ (iA (bF (l.getD (bT l q) aY)) p).1:=Bo hx.bF.ok hb;have c9:=ab4 (bF (l.getD (bT l q) aY)) p hx.bF hb (by omega)
  have M7:=L4 (l.getD (bT l q) aY);have iR:=hx.records;have DP:=aa8 (iA (bF (l.getD (bT l q) aY)) p).1 (bF (l.getD (bT l q) aY)) xZ.bS hx.bF.bS xZ.seen hx.bF.seen (fun y hy=>(xZ.one y hy).2) (fun y hy=>(hx.bF.one y hy).2)
  have uU:=ZE (l.getD (bT l q) aY).records DO (by omega)
  have sL:=LD (iA (bF (l.getD (bT l q) aY)) p).1 ((l.getD (bT l q) aY).records++[rq]) (l.getD (bT l q) aY).closed xZ.bS xZ.seen (fun x hx=>(xZ.one x hx).1) (by rw[bP];simp only[dK,fJ];omega)
  have C5:=JG (iT (iA (bF (l.getD (bT l q) aY)) p).1 ((l.getD (bT l q) aY).records++[rq]) (l.getD (bT l q) aY).closed);clear JG uT hb h wQ hx xZ DO;generalize bT l q=i at*;generalize l.getD i aY=x at*;generalize iA (bF x) p=A at*;obtain⟨aa,ae⟩:=A;simp only[]at*;by_cases g5:ae=0
  case neg=>
   rw[if_neg (fun hh=>g5 hh.2)]at hM
   simp only[]at hM;rw[hM]at c8;have Cr:(ae==0)=false:=by simpa using g5
   rw[iK]at c7 c8 M7 k8;obtain⟨xn,xp,xs,xh,xe,xr,xc⟩:=x;obtain⟨an,ap,QG,ah,az⟩:=aa;unfold iT iZ bF at*;simp only[]at*;clear g5 hM DP uU sL C5 g3;refine bW ?_;refine J0 ?_;refine bW ?_;exact rT
  rw[if_pos ⟨g3,g5⟩]at hM;subst g5;clear g3;by_cases g6:aa=bF x
  ·rw[if_pos g6]at hM
   subst hM;rw[decide_eq_true g6]at DP;subst g6;rw[iK]at M7 k8;obtain⟨xn,xp,xs,xh,xe,xr,xc⟩:=x;unfold iZ bF at*;simp only[]at*;clear uU sL C5 c7 c8 c5;refine bW ?_;exact rT
  ·rw[if_neg g6]at hM
   rw[decide_eq_false g6]at DP;simp only[]at hM;rw[hM]at C5;rw[iK]at sL C5 M7 k8;obtain⟨xn,xp,xs,xh,xe,xr,xc⟩:=x;obtain⟨an,ap,QG,ah,az⟩:=aa;unfold iT iZ bF at*;simp only[]at*;have iI:(xr++[rq]).take (xr.length+1)=xr++[rq]:=eD (by simp)
   clear g6 hM c7 c8 c5;refine bW ?_;refine J0 ?_;refine bW ?_;exact rT
end Go.Proofs.YtioafciifiggaaaGreatDoor
