/- Target: contracts of its functions (Azi). No condition but those named. -/
import Derived.Test.YtpaomccedbjknaaGreatDoorAzh
set_option linter.all false
namespace Go.Proofs.YtpaomccedbjknaaGreatDoor
open Go.Proofs Go.AL Tryz
set_option maxRecDepth 100000
def G0(x:Int):Bool:=decide (0<=x)&&decide (x<256)
theorem M1{x:Int}(h:G0 x=true):bZ x:=by
 unfold G0 at h;simp only[jF,decide_eq_true_eq]at h;exact h
def W8(s:aQ):Bool:=G0 s.1.1&&G0 s.1.2.1&&G0 s.1.2.2.1&&G0 s.1.2.2.2&&(d4 s).all G0
theorem De{s:aQ}(h:W8 s=true):kL s:=by
 unfold W8 at h;simp only[jF,iM]at h;exact⟨⟨M1 h.1.1.1.1,M1 h.1.1.1.2,M1 h.1.1.2,M1 h.1.2⟩,fun x hx=>M1 (h.2 x hx)⟩
def AQ(d:bQ):Bool:=decide (d.st.length<=1000)&&decide (d.ca.length<=100)&&d.st.all W8&&d.ca.all fun c=>W8 c.2
theorem R5{d:bQ}(h:AQ d=true):d.st.length<=1000/\d.ca.length<=100/\DA d:=by
 unfold AQ at h;simp only[jF,decide_eq_true_eq,iM]at h;exact⟨h.1.1.1,h.1.1.2,fun s hs=>De (h.1.2 s hs),fun c hc=>De (h.2 c hc)⟩
def Df(s:lM):Bool:=decide (s.cur.length<=1000)&&s.cur.all (fun v=>decide (v.length<=1000000))&&decide (s.items.length<=1000000)&&s.items.all fun x=>decide (x.saved.length<=1000000)&&x.saved.all fun w=>decide (w.2.2.length<=1000000)
theorem aV3{s:lM}(h:Df s=true):DW s:=by
 unfold Df at h;simp only[jF,decide_eq_true_eq,iM]at h;exact⟨h.1.1.1,h.1.1.2,h.1.2,fun x hx=>h.2 x hx⟩
def Su(t:fR):Bool:=decide (t.r.aR.length<=1000)&&Bs t.s&&Df t.x&&decide (t.p.rules.length<=1000000)
theorem R6{t:fR}(h:Su t=true):tT t:=by
 unfold Su at h;simp only[jF,decide_eq_true_eq]at h;exact⟨h.1.1.1,aF7 h.1.1.2,aV3 h.1.2,h.2⟩
theorem Sv:tT uM.1:=R6 (by kernel_rfl)
theorem l_R:tT vT.1:=R6 (by kernel_rfl)
theorem M3:tT kC.1:=R6 (by kernel_rfl)
theorem M4:tT lO.1:=R6 (by kernel_rfl)
theorem l_U:tT LO.1:=R6 (by kernel_rfl)
theorem c_R:vT.1.s.bI.length<=1000:=CY (by kernel_rfl)
theorem b_P:(uN.all G0)=true:=by kernel_rfl
theorem W9:uN.length<=100000:=CY (by kernel_rfl)
theorem aV8:AQ QZ.1=true:=by kernel_rfl
theorem aV9:AQ R3.1=true:=by kernel_rfl
theorem Dg:AQ tM.1=true:=by kernel_rfl
theorem Sw:AQ vU.1=true:=by kernel_rfl
def aA:=wK tM.1 kC.1.r lN
def aD:=fQ tM.1 aA.2.1
def aX:=qP aD.1 kC.1.s 1
theorem aW0:QY kC.1=some lN:=by kernel_rfl
theorem aW1:gE tM.1=0/\sQ kC.1=0/\kC.1.x.items=[]/\kC.1.p=⟨1,[]⟩/\cZ (bH kC.1.x.cur)=0/\(kY kC.1.x.cur lN.writes).2.2=0:=⟨by kernel_rfl,by kernel_rfl,by kernel_rfl,by kernel_rfl,by kernel_rfl,by kernel_rfl⟩
theorem v_a:aA.2.2=0/\aD.2.2=0/\aX.2.2=0:=⟨by kernel_rfl,by kernel_rfl,by kernel_rfl⟩
theorem aW3:aA.2.1.isEmpty=false/\aA.2.1.length<=1000/\aX.2.1.length<=1000:=⟨by kernel_rfl,CY (by kernel_rfl),CY (by kernel_rfl)⟩
theorem aW4:AQ aD.1=true:=by kernel_rfl
theorem Sx:lO=(⟨aA.1,aX.1,⟨(kY kC.1.x.cur lN.writes).1,[⟨1,5,[]⟩]⟩,kC.1.p,kC.1.site⟩,aA.2.1++aX.2.1,true,0):=by kernel_rfl
def uX:=qP vU.1 lO.1.s 1073741824
def uD:=fQ vU.1 uX.2.1
def uA:=F3 uD.1 lO.1.r 3
theorem v_u:gE vU.1=0/\sQ lO.1=0/\uX.2.2=0/\uD.2.2=0/\uA.2.2=0:=⟨by kernel_rfl,by kernel_rfl,by kernel_rfl,by kernel_rfl,by kernel_rfl⟩
theorem aW6:AQ uD.1=true:=by kernel_rfl
theorem v_U:LO=({lO.1 with s:=uX.1,r:=uA.1},uX.2.1++uA.2.1,0):=by kernel_rfl
theorem aW8:uX.2.1.isEmpty=true/\uA.2.1.isEmpty=false/\uA.2.1.length<=1000:=⟨by kernel_rfl,by kernel_rfl,CY (by kernel_rfl)⟩
theorem aW9:lO.1.r.dY<3:=by
 have h:decide (lO.1.r.dY<3)=true:=by kernel_rfl
 exact of_decide_eq_true h
theorem o_F:uM.2.1.length<=100:=CY (by kernel_rfl)
theorem o_R:vT.2.1.length<=100:=CY (by kernel_rfl)
theorem o_S:kC.2.1.length<=100:=CY (by kernel_rfl)
theorem o_A:lO.2.1.length<=100:=CY (by kernel_rfl)
theorem aX4:aA.2.1.length<=100:=CY (by kernel_rfl)
theorem k_E:AQ ⟨jG 80,[]⟩=true:=by kernel_rfl
theorem Sy:(yS lN).length<=100000/\(yS lN).all (fun b=>decide (0<=b)&&decide (b<256))=true:=⟨CY (by kernel_rfl),by kernel_rfl⟩
end Go.Proofs.YtpaomccedbjknaaGreatDoor
namespace Go.Proofs.YtpaomccedbjknaaGreatDoor
open Go.Proofs Go.AL Tryz
set_option maxRecDepth 100000
set_option maxHeartbeats 8000000
attribute [local irreducible] bT tN wU tS AW b8 cF dB hold
attribute [local irreducible] iX
abbrev u7:List AV:=[uV 7,uV 0,uV 0,uV 0,uV 0,uV 0,uV 0,uV 0]
abbrev u0:List AV:=[uV 0,uV 0,uV 0,uV 0,uV 0,uV 0,uV 0,uV 0]
theorem aX6(F R S A U B1 B2 B3:fR)(oF oR oS oA oU o1 o2 o3:List bR)(E D0 D1 D2 D3:bQ)(P:List Int)(W:List bR)
  (c1:PC 5 [.snap [[zV 4]],zV 60] (.aK [zV 80,zV 0]))
  (c2:PC 7 [zV 2,zV 1,.snap [[zV 4]],zV 60,.agg [zV 1,.c (.slice none 0 0)]] (.aK [.agg (cP F),.snap (aB aH oF),zV 0]))
  (c3:PC 11 [zV 80] (.aK [.agg (bD E),zV 0]))
  (c4:PC 12 [.agg (bD E),.snap (aB aH oF),zV 0] (.aK [.agg (bD D0),bV true]))
  (c5:PC 13 [.agg [zV 0,zV 1,zV 0,.c (.slice none 0 0),.snap [[zV 0,zV 0,.snap [u7]]]],zV 30] (.aK [.snap [[.snap (aB aO P)]],zV 0]))
  (c6:PC 14 [.agg (cP F),zV 2,.snap (aB aO P)] (.aK [.agg (cP B1),.snap (aB aH o1),zV 1]))
  (c7:PC 14 [.agg (cP F),zV 1,.snap (aB aO P)] (.aK [.agg (cP R),.snap (aB aH oR),zV 0]))
  (c8:PC 12 [.agg (bD D0),.snap (aB aH oR),zV 0] (.aK [.agg (bD D1),bV true]))
  (c9:PC 15 [.agg (cP R),zV 1,zV 1] (.aK [.agg (cP S),.snap (aB aH oS),zV 0]))
  (C5:PC 12 [.agg (bD D1),.snap (aB aH oS),zV 0] (.aK [.agg (bD D2),bV true]))
  (xZ:PC 16 [.agg (bD D2),.agg (cP S),zV 5] (.aK [.agg (cP A),.snap (aB aH oA),bV true,zV 0]))
  (wS:PC 12 [.agg (bD D2),.snap (aB aH oA),zV 0] (.aK [.agg (bD D3),bV true]))
  (Dh:PC 17 [.agg (cP A)] (.aK [.snap [[.snap [u7,u0,u0,u0]]],zV 1,zV 0]))
  (WA:PC 14 [.agg (cP A),zV 1,.snap (aB aO P)] (.aK [.agg (cP B2),.snap (aB aH o2),zV 8]))
  (c15:PC 18 [.agg (bD D3),.agg (cP A),zV 3] (.aK [.agg (cP U),.snap (aB aH oU),zV 0]))
  (WB:PC 14 [.agg (cP U),zV 2,.snap (aB aO P)] (.aK [.agg (cP B3),.snap (aB aH o3),zV 13]))
  (Sz:FC 19 [.snap [[.snap [u7,u0,u0,u0]]],.snap [[.snap [u7,u0,u0,u0]]]] (bV true))
  (h1:A.s.bI=[]) (h2:A.x.items=[⟨1,5,W⟩]):PC 4 [] (bV true):=by
 refine aZ func4 ntmps4 (.c _) ?_;obtain⟨Ar,⟨Aj,Ac⟩,⟨aX8,Ait⟩,Ap,aX9⟩:=A;simp only[]at h1 h2;subst h1 h2;have IQ:aB bX ([]:List bK)=[]:=rfl;have xT:aB cX [⟨1,5,W⟩]=[[zV 1,zV 5,.snap (aB aH W)]]:=rfl;unfold u7 u0 at*;simp only[iF,IQ,xT]at*;unfold bD at*;have ZW:aP bS=[uV 0,uV 0,uV 0,uV 0,uV 0,uV 0,uV 0,uV 0]:=rfl;rw[LM 9];refine aE ?_;refine AH 9 10 [[zV 0,zV 0,.snap [[uV 7,uV 0,uV 0,uV 0,uV 0,uV 0,uV 0,uV 0]]]] eN eN dE (Qw (p:=[zV 0,zV 0]) (q:=[]) rfl) ?_
 refine AH 10 11 [[zV 0,zV 1,zV 0,.c (.slice none 0 0),.snap [[zV 0,zV 0,.snap [[uV 7,uV 0,uV 0,uV 0,uV 0,uV 0,uV 0,uV 0]]]]]] eN eN dE (Qw (p:=[zV 0,zV 1,zV 0,.c (.slice none 0 0)]) (q:=[]) rfl) ?_
 rw[<-LM 9,LM 26];refine aE ?_;refine kU (env:=[(4,true,.ptr 4 0 0),(18,true,.snap [[.snap [[uV 7,uV 0,uV 0,uV 0,uV 0,uV 0,uV 0,uV 0],[uV 0,uV 0,uV 0,uV 0,uV 0,uV 0,uV 0,uV 0],[uV 0,uV 0,uV 0,uV 0,uV 0,uV 0,uV 0,uV 0],[uV 0,uV 0,uV 0,uV 0,uV 0,uV 0,uV 0,uV 0]]]]),(19,true,zV 1),(28,true,.snap [[zV 1,zV 5,.snap (aB aH W)]])]) (H:=⟨100,bN [(4,gU [.snap (aB aW Ar.aR),zV Ar.gQ,zV Ar.data,zV Ar.dY,zV Ar.dK,zV Ar.jM,zV Aj.start,zV Aj.count,zV Aj.head,zV Aj.tail,zV Aj.first,.snap (aB aW Aj.aR),.snap [],.snap (aB bA aX8),.snap [[zV 1,zV 5,.snap (aB aH W)]],zV Ap.C7,.snap (aB jY Ap.rules),zV aX9])]⟩) aG ?_
 rw[<-LM 26];clear c1 c2 c3 c4 c5 c6 c7 c8 c9 C5 xZ wS Dh WA c15 WB;refine aE ?_;refine aY0 ?_;exact zE
theorem Di(d:bQ)(ops:List bR)(hk:AQ d=true)(hl:ops.length<=100):PC 48 [.agg (bD d),.snap (aB aH ops)] (.aK [.agg (bD (fQ d ops).1),zV (fQ d ops).2.1,zV (fQ d ops).2.2]):=by
 obtain⟨h1,h2,h3⟩:=R5 hk;exact Kr d ops oM oM
theorem WC{d:bQ}{ops:List bR}(hk:AQ d=true)(hl:ops.length<=100)(h:(fQ d ops).2.2=0):PC 12 [.agg (bD d),.snap (aB aH ops),zV 0] (.aK [.agg (bD (fQ d ops).1),bV true]):=by
 have h1:=Di d ops hk hl;rw[h]at h1;exact aU5 d _ ops 0 _ 0 h1
theorem Dj:yP lN:=⟨by simp[lN],by simp[lN],fun w hw=>by simp[lN]at hw;subst hw;simp⟩
theorem aY1:∀w∈lN.writes,∀s∈w.2.2,kL s:=fun w hw s hs=>by
 simp only[lN,dJ,iI,or_false]at hw;subst hw;simp only[dJ,iI,or_false]at hs;subst hs;exact De (by kernel_rfl)
theorem aY2:PC 16 [.agg (bD tM.1),.agg (cP kC.1),zV 5] (.aK [.agg (cP lO.1),.snap (aB aH lO.2.1),bV true,zV 0]):=by
 obtain⟨k1,k2,k3⟩:=R5 Dg;obtain⟨v1,v2,v3,v4,v5,v6⟩:=aW1;obtain⟨a1,a2,a3⟩:=v_a;obtain⟨b1,b2,b3⟩:=aW3;obtain⟨m1,m2,m3⟩:=R5 aW4;have c1:=EW tM.1 oM oM
 rw[v1]at c1;have c2:=VY kC.1 M3;rw[v2]at c2;have c3:PC 29 [zV 5] (bV true):=Rn 5
 have c4:PC 65 [.agg (cP kC.1)] (.aK [.agg (iO lN),bV true]):=by
  have h:=aS9 kC.1 M3;rw[aW0]at h;exact h
 have dO:=M3.aR
 have c5:PC 66 [.agg (bD tM.1),.agg (cC kC.1.r),.agg (iO lN)] (.aK [.agg (cC aA.1),.snap (aB aH aA.2.1),zV 0]):=by
  have h:PC 66 [.agg (bD tM.1),.agg (cC kC.1.r),.agg (iO lN)] (.aK [.agg (cC aA.1),.snap (aB aH aA.2.1),zV aA.2.2]):=an3 tM.1 kC.1.r lN oM Dj oM (by simp[lN];omega) k3 aY1
  rw[a1]at h;exact h
 have c6:PC 48 [.agg (bD tM.1),.snap (aB aH aA.2.1)] (.aK [.agg (bD aD.1),zV aD.2.1,zV 0]):=by
  have h:PC 48 [.agg (bD tM.1),.snap (aB aH aA.2.1)] (.aK [.agg (bD aD.1),zV aD.2.1,zV aD.2.2]):=Di tM.1 aA.2.1 Dg aX4;rw[a2]at h;exact h
 have c7:PC 68 [.agg (bD aD.1),.agg (dH kC.1.s),zV 1] (.aK [.agg (dH aX.1),.snap (aB aH aX.2.1),zV 0]):=by
  have h:PC 68 [.agg (bD aD.1),.agg (dH kC.1.s),zV 1] (.aK [.agg (dH aX.1),.snap (aB aH aX.2.1),zV aX.2.2]):=Qr aD.1 kC.1.s 1 M3.s oM oM (PK _ _ m3.1 m3.2)
  rw[a3]at h;exact h
 have c8:PC 69 [.agg (cP kC.1),.agg (iO lN),zV 5] (.agg (kN ⟨(kY kC.1.x.cur lN.writes).1,[⟨1,5,[]⟩]⟩)):=aT0 kC.1 lN 5 1 M3 Dj v3 v4 dE dE v5 v6 (by kernel_rfl) (by kernel_rfl)
 have c9:=Cn kC.1.p M3.rules;have aT:aA.2.1≠[]:=fun h=>by rw[h]at b1;exact absurd b1 dE
 have h:=aT3 (A:=(aA.1,aA.2.1)) (X:=(aX.1,aX.2.1)) ⟨c1,c2,c3,c4,c5,c6,c7,c8,c9,v3,aT,by simp only[];omega,by simp only[];omega⟩
 rw[Sx];exact h
theorem aY3:PC 18 [.agg (bD vU.1),.agg (cP lO.1),zV 3] (.aK [.agg (cP LO.1),.snap (aB aH LO.2.1),zV 0]):=by
 obtain⟨k1,k2,k3⟩:=R5 Sw;obtain⟨v1,v2,v3,v4,v5⟩:=v_u;obtain⟨b1,b2,b3⟩:=aW8;obtain⟨m1,m2,m3⟩:=R5 aW6;have dO:=M4.aR;have hX:uX.2.1=[]:=List.isEmpty_iff.1 b1;have c1:=EW vU.1 oM oM
 rw[v1]at c1;have c2:=VY lO.1 M4;rw[v2]at c2
 have c3:PC 68 [.agg (bD vU.1),.agg (dH lO.1.s),zV 1073741824] (.aK [.agg (dH uX.1),.snap (aB aH uX.2.1),zV 0]):=by
  have h:PC 68 [.agg (bD vU.1),.agg (dH lO.1.s),zV 1073741824] (.aK [.agg (dH uX.1),.snap (aB aH uX.2.1),zV uX.2.2]):=Qr vU.1 lO.1.s 1073741824 M4.s oM oM (PK _ _ k3.1 k3.2)
  rw[v3]at h;exact h
 have c4:PC 48 [.agg (bD vU.1),.snap (aB aH uX.2.1)] (.aK [.agg (bD uD.1),zV uD.2.1,zV 0]):=by
  have h:PC 48 [.agg (bD vU.1),.snap (aB aH uX.2.1)] (.aK [.agg (bD uD.1),zV uD.2.1,zV uD.2.2]):=Di vU.1 uX.2.1 Sw (by rw[hX];simp)
  rw[v4]at h;exact h
 have c5:PC 72 [.agg (bD uD.1),.agg (cC lO.1.r),zV 3] (.aK [.agg (cC uA.1),.snap (aB aH uA.2.1),zV 0]):=by
  have h:PC 72 [.agg (bD uD.1),.agg (cC lO.1.r),zV 3] (.aK [.agg (cC uA.1),.snap (aB aH uA.2.1),zV uA.2.2]):=ai8 uD.1 lO.1.r 3 oM oM oM (PK _ _ m3.1 m3.2)
  rw[v5]at h;exact h
 have c6:=Co lO.1 M4;have aT:uA.2.1≠[]:=fun h=>by rw[h]at b2;exact absurd b2 dE
 have h:=aT5 (X:=(uX.1,uX.2.1)) (A:=(uA.1,uA.2.1)) ⟨c1,c2,c3,c4,c5,c6,aW9,dE,hX,aT,by simp only[];omega⟩
 rw[v_U];exact h
theorem aY4:PC 4 [] (bV true):=by
 have qB:∀x∈uN,bZ x:=fun x hx=>M1 (iM.1 b_P x hx)
 have c1:PC 5 [.snap [[zV 4]],zV 60] (.aK [zV 80,zV 0]):=by
  have h:=VW [4] 60 (by simp)
  rw[aL0]at h;exact h
 have c2:PC 7 [zV 2,zV 1,.snap [[zV 4]],zV 60,.agg [zV 1,.c (.slice none 0 0)]] (.aK [.agg (cP uM.1),.snap (aB aH uM.2.1),zV 0]):=by
  have h:PC 7 [zV 2,zV 1,.snap [[zV 4]],zV 60,.agg [zV 1,.snap []]] (.aK [.agg (cP uM.1),.snap (aB aH uM.2.1),zV uM.2.2]):=Se 2 1 [4] 60 Ch (by simp) (by simp[Ch])
  rw[aL1]at h;exact eA.less h (eE (.refl _) (eE (.refl _) (eE (.refl _) (eE (.refl _) (eE (vD (eE (.refl _) (eE .nil mS))) mS)))))
 have c3:PC 11 [zV 80] (.aK [.agg (bD ⟨jG 80,[]⟩),zV 0]):=an7 80;have c4:PC 12 [.agg (bD ⟨jG 80,[]⟩),.snap (aB aH uM.2.1),zV 0] (.aK [.agg (bD QZ.1),bV true]):=WC k_E o_F aL2
 have hsp:(A6 lN 30).1=[uN]:=by
  have h:=Rj.2;unfold uN;cases hh:(A6 lN 30).1 with
  |nil=>rw[hh]at h;exact absurd h dE
  |cons x r=>
   rw[hh]at h;cases r with
   |nil=>rfl
   |cons y r=>simp at h
 have c5:PC 13 [.agg [zV 0,zV 1,zV 0,.c (.slice none 0 0),.snap [[zV 0,zV 0,.snap [u7]]]],zV 30] (.aK [.snap [[.snap (aB aO uN)]],zV 0]):=by
  have h:PC 13 [.agg [zV 0,zV 1,zV 0,.snap [],.snap [[zV 0,zV 0,.snap [u7]]]],zV 30] (.aK [.snap (aB bY (A6 lN 30).1),zV (A6 lN 30).2]):=aD5 lN 30 Dj (by simp[lN]) (by simp[lN]) (fun w hw=>by simp[lN]at hw;subst hw;simp) Sy.1 (aF8 Sy.2)
  rw[hsp,Rj.1]at h;exact eA.less h (eE (vD (eE (.refl _) (eE (.refl _) (eE (.refl _) (eE .nil (eE (.refl _) mS)))))) (tY _))
 have c6:=W4 uM.1 Sv 2 uN qB W9;rw[aL3]at c6
 have c7:PC 14 [.agg (cP uM.1),zV 1,.snap (aB aO uN)] (.aK [.agg (cP vT.1),.snap (aB aH vT.2.1),zV 0]):=by
  have h:PC 14 [.agg (cP uM.1),zV 1,.snap (aB aO uN)] (.aK [.agg (cP vT.1),.snap (aB aH vT.2.1),zV vT.2.2]):=W4 uM.1 Sv 1 uN qB W9;rw[aL4]at h;exact h
 have c8:PC 12 [.agg (bD QZ.1),.snap (aB aH vT.2.1),zV 0] (.aK [.agg (bD R3.1),bV true]):=WC aV8 o_R aL5
 have c9:PC 15 [.agg (cP vT.1),zV 1,zV 1] (.aK [.agg (cP kC.1),.snap (aB aH kC.2.1),zV 0]):=by
  have h:PC 15 [.agg (cP vT.1),zV 1,zV 1] (.aK [.agg (cP kC.1),.snap (aB aH kC.2.1),zV kC.2.2]):=aR9 vT.1 l_R c_R 1 1;rw[aL6]at h;exact h
 have C5:PC 12 [.agg (bD R3.1),.snap (aB aH kC.2.1),zV 0] (.aK [.agg (bD tM.1),bV true]):=WC aV9 o_S aL7;have wS:PC 12 [.agg (bD tM.1),.snap (aB aH lO.2.1),zV 0] (.aK [.agg (bD vU.1),bV true]):=WC Dg o_A aL8
 have Dh:PC 17 [.agg (cP lO.1)] (.aK [.snap [[.snap [u7,u0,u0,u0]]],zV 1,zV 0]):=by
  have h:=aQ3 lO.1 M4;rw[aL9]at h;exact h
 have WA:=W4 lO.1 M4 1 uN qB W9;rw[aM0]at WA;have WB:=W4 LO.1 l_U 2 uN qB W9;rw[aM1]at WB;have Sz:FC 19 [.snap [[.snap [u7,u0,u0,u0]]],.snap [[.snap [u7,u0,u0,u0]]]] (bV true):=nJ.H3 (Sr [[s7,bS,bS,bS]] (by simp) (by simp)) rfl
 have h2:lO.1.x.items=[⟨1,5,[]⟩]:=by rw[Sx]
 exact aX6 _ _ _ _ _ _ _ _ _ _ _ _ _ _ _ _ _ _ _ _ _ _ _ c1 c2 c3 c4 c5 c6 c7 c8 c9 C5 aY2 wS Dh WA aY3 WB Sz (eL aM2.1) h2
end Go.Proofs.YtpaomccedbjknaaGreatDoor
namespace Go.Proofs.YtpaomccedbjknaaGreatDoor
open Go.Proofs Go.AL Tryz
set_option maxRecDepth 100000
set_option maxHeartbeats 8000000
attribute [local irreducible] bT tN wU tS AW b8 cF dB hold
structure Dk where
 site:Int
 dY:Int
 aR:List Int
 aY6:Int
 PT:qQ
def Dl(x:Dk):List AV:=[zV x.site,zV x.dY,.snap (aB aW x.aR),zV x.aY6,zV x.PT.C7,.snap (aB jY x.PT.rules)]
theorem aY7(a c:Int):(lZ a c).1.j.aR.length<=1000000/\(lZ a c).1.bI=[]:=by
 unfold lZ;split
 ·unfold nM
  split
  ·split
   ·exact⟨by simp,rfl⟩
   ·exact⟨by simp[lB],rfl⟩
  ·exact⟨by simp[lB],rfl⟩
 ·exact⟨by simp[o0,lB],rfl⟩
theorem aY8(l:List Int)(s d n:Int)(hl:l.length<=1000000):(kW l s d n).1.aR.length<=1000000:=by
 unfold kW;split
 ·split
  ·split
   ·exact hl
   ·simp[iK]
  ·simp[iK]
 ·simp[iK]
theorem zS:Dd jV:=⟨by simp[jV,iK],by simp[jV,o0,lB],by simp[jV,o0],fun x hx=>by simp[jV,o0]at hx,⟨by simp[jV,oE],fun x hx=>by simp[jV,oE]at hx,by simp[jV,oE],fun x hx=>by simp[jV,oE]at hx⟩,by simp[jV,Rg]⟩
theorem aY9{pl ep:Int}{sz:List Int}{n:Int}{p:qQ}(hz:sz.length<=1000)(hp:p.rules.length<=1000000):Dd (pZ pl ep sz n p).1:=by
 unfold pZ;split
 ·split
  ·rename_i g
   split
   ·have hs:cZ sz=0:=by
     unfold oH at g;by_cases h:cZ sz=0
     ·exact h
     ·rw[if_neg h]at g;exact absurd g h
    obtain⟨n1,n2⟩:=Cz hs;obtain⟨s1,s2⟩:=aY7 16 n;refine⟨aY8 _ _ _ _ oM,s1,by simp only[];rw[s2];simp,fun x hx=> ?_,⟨n1,n2,by simp,fun x hx=>by simp at hx⟩,hp⟩
    simp only[]at hx;rw[s2]at hx;simp at hx
   ·exact zS
  ·exact zS
 ·exact zS
theorem Ta(n:Int)(h:n<=1000000):(jG n).length<=1000000:=by unfold jG;rw[yG];omega
theorem Tb(a:Int)(p:List Int):∀o∈(nK a p).1,o.2.2.length<=1000000:=fun o ho=>by
 unfold nK at ho;split at ho
 ·simp at ho
 ·split at ho
  ·simp at ho
  ·simp only[dJ,iI,or_false]at ho
   have h1:(tD 1 p).length=8:=by unfold tD;simp
   rcases ho with rfl|rfl|rfl|rfl
   ·simp[TQ]
   ·simp
   ·simp only[];omega
   ·simp
theorem aZ0(a c:Int)(hc:c<=100000):∀o∈(lZ a c).2.1,o.2.2.length<=1000000:=fun o ho=>by
 unfold lZ at ho;split at ho
 ·unfold nM at ho
  split at ho
  ·split at ho
   ·rcases qW.1 ho with h|h
    ·simp only[dJ,iI,or_false]at h
     rcases h with rfl|rfl
     ·exact Ta _ oM
     ·simp
    ·exact Tb _ _ o h
   ·simp at ho
  ·simp at ho
 ·simp at ho
theorem aZ1(l:List Int)(s d n:Int):∀o∈(kW l s d n).2.1,o.2.2.length<=1000000:=fun o ho=>by
 unfold kW at ho;split at ho
 ·rename_i g
  split at ho
  ·split at ho
   ·rcases qW.1 ho with h|h
    ·simp only[dJ,iI,or_false]at h
     have hs:cZ l=0:=by
      unfold rO at g;by_cases h:cZ l=0
      ·exact h
      ·rw[if_neg h]at g;exact absurd g h
     have:=BD hs;rcases h with rfl|rfl
     ·exact Ta _ oM
     ·simp
    ·exact Tb _ _ o h
   ·simp at ho
  ·simp at ho
 ·simp at ho
theorem Tc{pl ep:Int}{sz:List Int}{n:Int}{p:qQ}:(pZ pl ep sz n p).2.1.length<=1000000/\∀o∈(pZ pl ep sz n p).2.1,o.2.2.length<=1000000:=by
 unfold pZ;split
 ·split
  ·rename_i g
   split
   ·have h1:=Cw 16 n
    have h2:=Cx sz 0 (16+n) ep;have h3:=Cy g;simp only[];refine⟨by rw[cU];omega,fun o ho=> ?_⟩
    rcases qW.1 ho with h|h
    ·exact aZ0 _ _ oM o h
    ·exact aZ1 _ _ _ _ o h
   ·exact⟨by simp,fun o ho=>by simp at ho⟩
  ·exact⟨by simp,fun o ho=>by simp at ho⟩
 ·exact⟨by simp,fun o ho=>by simp at ho⟩
theorem aZ2(x:Dk):PC 3 [.agg (Dl x)] (bV true):=by
 refine aZ func3 ntmps3 (.c _) ?_;have c0:=aY4;obtain⟨pl,ep,sz,n,⟨pn,pr⟩⟩:=x;unfold Dl;simp only[];by_cases g1:20<sz.length
 ·have rX:(20:Int)<(sz.length:Int):=oM
  exact zE
 by_cases g2:20<pr.length
 ·have rC:(20:Int)<(pr.length:Int):=oM
  have rX:¬(20:Int)<(sz.length:Int):=oM
  exact zE
 have rX:¬(20:Int)<(sz.length:Int):=oM
 have rC:¬(20:Int)<(pr.length:Int):=oM
 have c1:=VW sz n oM
 have c2:=Rw sz n oM
 have c3:=Se pl ep sz n ⟨pn,pr⟩ oM (by simp only[];omega)
 have c4:=aV2 pl ep sz n ⟨pn,pr⟩ oM (by simp only[];omega)
 have c5:=aU4 (pZ pl ep sz n ⟨pn,pr⟩).1 (aY9 oM (by simp only[];omega))
 have c6:=aq3 (pZ pl ep sz n ⟨pn,pr⟩).2.1 Tc.1 Tc.2;clear g1 g2;generalize pZ pl ep sz n ⟨pn,pr⟩=F at*;generalize oH sz n=S at*;obtain⟨d1,wQ⟩:=jJ S.1;obtain⟨d2,C4⟩:=jJ S.2;obtain⟨d3,I4⟩:=jJ F.2.2;rw[iF]at*;unfold kO at*;exact zE
end Go.Proofs.YtpaomccedbjknaaGreatDoor
namespace Go.Proofs.YtpaomccedbjknaaGreatDoor
open Go.Proofs Go.AL Tryz
open Go.ChangeShapes Go.WideShapes Go.RowKit
def Td:List Sh:=[wT,wT,.sl [wT],wT,wT,.sl [wT,wT]]
theorem aZ3(r:List AV)(h:lT [wT,wT] r):∃x:Int×Int,True/\r=jY x:=by
 obtain⟨a0,r,rfl,h0,g0⟩:=h.DT;obtain⟨a1,r,rfl,h1,g1⟩:=g0.DT;obtain rfl:=g1.Bt;obtain⟨a,rfl⟩:=LL h0;obtain⟨b,rfl⟩:=LL h1;exact⟨(a,b),trivial,rfl⟩
theorem aZ4{a:AV}(h:s5 (.sl [wT,wT]) a):∃l:List (Int×Int),(∀x∈l,True)/\l.length<=maxLen/\a= .snap (aB jY l):=Qe aZ3 h
theorem aZ5(r:List AV)(h:lT Td r):∃x:Dk,r=Dl x:=by
 obtain⟨a0,r,rfl,h0,g0⟩:=h.DT;obtain⟨a1,r,rfl,h1,g1⟩:=g0.DT;obtain⟨a2,r,rfl,h2,g2⟩:=g1.DT;obtain⟨a3,r,rfl,h3,g3⟩:=g2.DT;obtain⟨a4,r,rfl,h4,g4⟩:=g3.DT;obtain⟨a5,r,rfl,h5,g5⟩:=g4.DT;obtain rfl:=g5.Bt;obtain⟨a,rfl⟩:=LL h0;obtain⟨b,rfl⟩:=LL h1;obtain⟨l,-,-,rfl⟩:=open_ints h2;obtain⟨c,rfl⟩:=LL h3;obtain⟨d,rfl⟩:=LL h4;obtain⟨p,-,-,rfl⟩:=aZ4 h5;exact⟨⟨a,b,l,c,⟨d,p⟩⟩,rfl⟩
theorem aZ6:y3 prog 10 27=some Td:=by kernel_rfl
end Go.Proofs.YtpaomccedbjknaaGreatDoor
