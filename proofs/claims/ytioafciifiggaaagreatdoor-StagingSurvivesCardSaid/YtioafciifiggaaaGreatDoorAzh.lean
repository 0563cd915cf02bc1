/- Staging. No condition. -/
import Derived.Test.YtioafciifiggaaaGreatDoorL0
import Derived.Test.YtioafciifiggaaaGreatDoorAzg
import Derived.Test.YtioafciifiggaaaGreatDoorLg
set_option linter.all false
namespace Go.Proofs.YtioafciifiggaaaGreatDoor
open Go.Proofs Go.AL
set_option maxRecDepth 100000
set_option maxHeartbeats 8000000
attribute [local irreducible] cH AW b9 dR eH hold pH
theorem bz9(i j k N:Nat)(G:Nat->Option aI):qD Tryz.prog 213 [.ptr i 0 0,.ptr j 0 0,.ptr k 0 0] ⟨N,G⟩ none (fun H'=>H'=⟨N,G⟩):=by
 refine Aa Tryz.func213 Tryz.ntmps213 ?_;refine aG ?_;exact⟨.inl rfl,⟨_,rfl⟩,rfl⟩
theorem bA0(e:Int)(N:Nat)(hN:3<=N)(G:Nat->Option aI)(x0 x1 x2 a b:AV):
  qD Tryz.prog 213 [.ptr 0 0 0,.ptr 1 0 0,.ptr 2 0 0] ⟨N,fR G [(0,some (.cells 111 3 [[x0,x1,x2]] true false)),(1,some (.cells 3 1 [[a]] true false)),(2,some (.cells 38 1 [[b]] true false))]⟩ (some (yY e))
   (fun H'=>H'.get 0=some (.cells 111 3 [[zV 0,zV 0,.c (.slice none 0 0)]] true false)/\H'.get 1=some (.cells 3 1 [[zV 0]] true false)/\H'.get 2=some (.cells 38 1 [[zV e]] true false)):=by
 refine Aa Tryz.func213 Tryz.ntmps213 ?_;refine aG ?_;refine⟨.inl rfl,⟨_,rfl⟩,?_,?_,?_⟩
 ·simp(maxSteps:=2000000) (disch:=omega) only[go_sem, *]
 ·simp(maxSteps:=2000000) (disch:=omega) only[go_sem, *]
 ·simp(maxSteps:=2000000) (disch:=omega) only[go_sem, *]
theorem wX(e:Int){H:Heap}{x0 x1 x2 a b:AV}(hN:3<=H.next)(h0:H.get 0=some (.cells 111 3 [[x0,x1,x2]] true false))(h1:H.get 1=some (.cells 3 1 [[a]] true false))(h2:H.get 2=some (.cells 38 1 [[b]] true false)):
  qD Tryz.prog 213 [.ptr 0 0 0,.ptr 1 0 0,.ptr 2 0 0] H (some (yY e))
   (fun H'=>H'.get 0=some (.cells 111 3 [[zV 0,zV 0,.c (.slice none 0 0)]] true false)/\H'.get 1=some (.cells 3 1 [[zV 0]] true false)/\H'.get 2=some (.cells 38 1 [[zV e]] true false)):=
 qD.less (bA0 e H.next hN (fun _=>none) x0 x1 x2 a b) ⟨cE _,fun id b' h=>by
  simp only[fR,qB]at h;split at h
  ·rename_i h3;subst h3;rw[h0];simpa using h
  ·split at h
   ·rename_i h3;subst h3;rw[h1];simpa using h
   ·split at h
    ·rename_i h3;subst h3;rw[h2];simpa using h
    ·simp at h⟩
theorem m7(H:Heap):qD Tryz.prog 213 [.ptr 0 0 0,.ptr 1 0 0,.ptr 2 0 0] H none (fun H'=>H'=H):=bz9 0 1 2 H.next H.get
theorem WN(l:List aH)(e:Int)(h:Q8 l e):PC 174 [.snap (aA aS l)] (.aU [.agg (kI iU),zV 0,zV e]):=by
 refine Ak Tryz.func174 Tryz.ntmps174 (by simp only[go_sem,kI]) ?_
 obtain⟨d,hd⟩:=h;have c1:=hd 3;unfold kR at c1
 iterate 4 (refine P4 ?_)
 refine vQ ?_;refine bA1 2 c1 ?_;refine bW ?_;refine wY (wX e (by simp only[];omega) (by simp(maxSteps:=2000000) (disch:=omega) only[go_sem, *]<;>exact rfl) (by simp(maxSteps:=2000000) (disch:=omega) only[go_sem, *]<;>exact rfl) (by simp(maxSteps:=2000000) (disch:=omega) only[go_sem, *]<;>exact rfl)) ?_
 rintro H' ⟨g0,g1,g2⟩;refine⟨_,by simp(maxSteps:=2000000) (disch:=omega) only[go_sem, *]<;>exact rfl,?_⟩
 refine bR ?_;exact aC
theorem al5(l:List aH)(D:List Int)(gs q e:Int)(d1 d2:Nat)(hb:l6 Tryz.prog 214 [.ptr 3 0 0,.snap (aA aS l)] 3 (kR (.c (.slice none 0 0)) 0 0) (some (kR (.snap (aA aN D)) gs q)) (.aU []) d1)(hx:M6 Tryz.prog 215 [.ptr 3 0 0] 3 (kR (.snap (aA aN D)) gs q) (yY e) d2):
  PC 174 [.snap (aA aS l)] (.aU [.agg (kI iU),zV 0,zV e]):=by
 refine Ak Tryz.func174 Tryz.ntmps174 (by simp only[go_sem,kI]) ?_
 unfold kR at hb hx;refine bW ?_;refine al6 9 ?_;refine iL 0 2 (iM (dU 0 ?_) (dU 2 ?_))
 ·refine iL 1 2 (iM (F9 (q:=1) hx ?_) (dU 2 ?_))
  ·refine tY ?_
   refine bR ?_;refine wY (wX e (by simp only[];omega) (by simp(maxSteps:=2000000) (disch:=omega) only[go_sem, *]<;>exact rfl) (by simp(maxSteps:=2000000) (disch:=omega) only[go_sem, *]<;>exact rfl) (by simp(maxSteps:=2000000) (disch:=omega) only[go_sem, *]<;>exact rfl)) ?_
   rintro H' ⟨g0,g1,g2⟩;refine⟨_,by simp(maxSteps:=2000000) (disch:=omega) only[go_sem, *]<;>exact rfl,?_⟩
   refine bR ?_;exact aC
  ·refine iL 1 3 (iM (F9 (q:=1) hx ?_) (dU 3 ?_))
   ·refine tY ?_
    refine bR ?_;refine wY (wX e (by simp only[];omega) (by simp(maxSteps:=2000000) (disch:=omega) only[go_sem, *]<;>exact rfl) (by simp(maxSteps:=2000000) (disch:=omega) only[go_sem, *]<;>exact rfl) (by simp(maxSteps:=2000000) (disch:=omega) only[go_sem, *]<;>exact rfl)) ?_
    rintro H' ⟨g0,g1,g2⟩;refine⟨_,by simp(maxSteps:=2000000) (disch:=omega) only[go_sem, *]<;>exact rfl,?_⟩
    refine bR ?_;exact aC
   ·refine iL 1 4 (iM (F9 (q:=1) hx ?_) (dU 4 ?_))
    ·refine tY ?_
     refine bR ?_;refine wY (wX e (by simp only[];omega) (by simp(maxSteps:=2000000) (disch:=omega) only[go_sem, *]<;>exact rfl) (by simp(maxSteps:=2000000) (disch:=omega) only[go_sem, *]<;>exact rfl) (by simp(maxSteps:=2000000) (disch:=omega) only[go_sem, *]<;>exact rfl)) ?_
     rintro H' ⟨g0,g1,g2⟩;refine⟨_,by simp(maxSteps:=2000000) (disch:=omega) only[go_sem, *]<;>exact rfl,?_⟩
     refine bR ?_;exact aC
    ·refine iL 1 5 (iM (F9 (q:=1) hx ?_) (dU 5 ?_))
     ·refine tY ?_
      refine bR ?_;refine wY (wX e (by simp only[];omega) (by simp(maxSteps:=2000000) (disch:=omega) only[go_sem, *]<;>exact rfl) (by simp(maxSteps:=2000000) (disch:=omega) only[go_sem, *]<;>exact rfl) (by simp(maxSteps:=2000000) (disch:=omega) only[go_sem, *]<;>exact rfl)) ?_
      rintro H' ⟨g0,g1,g2⟩;refine⟨_,by simp(maxSteps:=2000000) (disch:=omega) only[go_sem, *]<;>exact rfl,?_⟩
      refine bR ?_;exact aC
     ·refine WO 1 hx ?_
      refine tY ?_;refine bR ?_;refine wY (wX e (by simp only[];omega) (by simp(maxSteps:=2000000) (disch:=omega) only[go_sem, *]<;>exact rfl) (by simp(maxSteps:=2000000) (disch:=omega) only[go_sem, *]<;>exact rfl) (by simp(maxSteps:=2000000) (disch:=omega) only[go_sem, *]<;>exact rfl)) ?_
      rintro H' ⟨g0,g1,g2⟩;refine⟨_,by simp(maxSteps:=2000000) (disch:=omega) only[go_sem, *]<;>exact rfl,?_⟩
      refine bR ?_;exact aC
 ·refine iL 0 3 (iM (dU 0 ?_) (dU 3 ?_))
  ·refine iL 1 3 (iM (F9 (q:=1) hx ?_) (dU 3 ?_))
   ·refine tY ?_
    refine bR ?_;refine wY (wX e (by simp only[];omega) (by simp(maxSteps:=2000000) (disch:=omega) only[go_sem, *]<;>exact rfl) (by simp(maxSteps:=2000000) (disch:=omega) only[go_sem, *]<;>exact rfl) (by simp(maxSteps:=2000000) (disch:=omega) only[go_sem, *]<;>exact rfl)) ?_
    rintro H' ⟨g0,g1,g2⟩;refine⟨_,by simp(maxSteps:=2000000) (disch:=omega) only[go_sem, *]<;>exact rfl,?_⟩
    refine bR ?_;exact aC
   ·refine iL 1 4 (iM (F9 (q:=1) hx ?_) (dU 4 ?_))
    ·refine tY ?_
     refine bR ?_;refine wY (wX e (by simp only[];omega) (by simp(maxSteps:=2000000) (disch:=omega) only[go_sem, *]<;>exact rfl) (by simp(maxSteps:=2000000) (disch:=omega) only[go_sem, *]<;>exact rfl) (by simp(maxSteps:=2000000) (disch:=omega) only[go_sem, *]<;>exact rfl)) ?_
     rintro H' ⟨g0,g1,g2⟩;refine⟨_,by simp(maxSteps:=2000000) (disch:=omega) only[go_sem, *]<;>exact rfl,?_⟩
     refine bR ?_;exact aC
    ·refine iL 1 5 (iM (F9 (q:=1) hx ?_) (dU 5 ?_))
     ·refine tY ?_
      refine bR ?_;refine wY (wX e (by simp only[];omega) (by simp(maxSteps:=2000000) (disch:=omega) only[go_sem, *]<;>exact rfl) (by simp(maxSteps:=2000000) (disch:=omega) only[go_sem, *]<;>exact rfl) (by simp(maxSteps:=2000000) (disch:=omega) only[go_sem, *]<;>exact rfl)) ?_
      rintro H' ⟨g0,g1,g2⟩;refine⟨_,by simp(maxSteps:=2000000) (disch:=omega) only[go_sem, *]<;>exact rfl,?_⟩
      refine bR ?_;exact aC
     ·refine WO 1 hx ?_
      refine tY ?_;refine bR ?_;refine wY (wX e (by simp only[];omega) (by simp(maxSteps:=2000000) (disch:=omega) only[go_sem, *]<;>exact rfl) (by simp(maxSteps:=2000000) (disch:=omega) only[go_sem, *]<;>exact rfl) (by simp(maxSteps:=2000000) (disch:=omega) only[go_sem, *]<;>exact rfl)) ?_
      rintro H' ⟨g0,g1,g2⟩;refine⟨_,by simp(maxSteps:=2000000) (disch:=omega) only[go_sem, *]<;>exact rfl,?_⟩
      refine bR ?_;exact aC
  ·refine iL 0 4 (iM (dU 0 ?_) (dU 4 ?_))
   ·refine iL 1 4 (iM (F9 (q:=1) hx ?_) (dU 4 ?_))
    ·refine tY ?_
     refine bR ?_;refine wY (wX e (by simp only[];omega) (by simp(maxSteps:=2000000) (disch:=omega) only[go_sem, *]<;>exact rfl) (by simp(maxSteps:=2000000) (disch:=omega) only[go_sem, *]<;>exact rfl) (by simp(maxSteps:=2000000) (disch:=omega) only[go_sem, *]<;>exact rfl)) ?_
     rintro H' ⟨g0,g1,g2⟩;refine⟨_,by simp(maxSteps:=2000000) (disch:=omega) only[go_sem, *]<;>exact rfl,?_⟩
     refine bR ?_;exact aC
    ·refine iL 1 5 (iM (F9 (q:=1) hx ?_) (dU 5 ?_))
     ·refine tY ?_
      refine bR ?_;refine wY (wX e (by simp only[];omega) (by simp(maxSteps:=2000000) (disch:=omega) only[go_sem, *]<;>exact rfl) (by simp(maxSteps:=2000000) (disch:=omega) only[go_sem, *]<;>exact rfl) (by simp(maxSteps:=2000000) (disch:=omega) only[go_sem, *]<;>exact rfl)) ?_
      rintro H' ⟨g0,g1,g2⟩;refine⟨_,by simp(maxSteps:=2000000) (disch:=omega) only[go_sem, *]<;>exact rfl,?_⟩
      refine bR ?_;exact aC
     ·refine WO 1 hx ?_
      refine tY ?_;refine bR ?_;refine wY (wX e (by simp only[];omega) (by simp(maxSteps:=2000000) (disch:=omega) only[go_sem, *]<;>exact rfl) (by simp(maxSteps:=2000000) (disch:=omega) only[go_sem, *]<;>exact rfl) (by simp(maxSteps:=2000000) (disch:=omega) only[go_sem, *]<;>exact rfl)) ?_
      rintro H' ⟨g0,g1,g2⟩;refine⟨_,by simp(maxSteps:=2000000) (disch:=omega) only[go_sem, *]<;>exact rfl,?_⟩
      refine bR ?_;exact aC
   ·refine iL 0 5 (iM (dU 0 ?_) (dU 5 ?_))
    ·refine iL 1 5 (iM (F9 (q:=1) hx ?_) (dU 5 ?_))
     ·refine tY ?_
      refine bR ?_;refine wY (wX e (by simp only[];omega) (by simp(maxSteps:=2000000) (disch:=omega) only[go_sem, *]<;>exact rfl) (by simp(maxSteps:=2000000) (disch:=omega) only[go_sem, *]<;>exact rfl) (by simp(maxSteps:=2000000) (disch:=omega) only[go_sem, *]<;>exact rfl)) ?_
      rintro H' ⟨g0,g1,g2⟩;refine⟨_,by simp(maxSteps:=2000000) (disch:=omega) only[go_sem, *]<;>exact rfl,?_⟩
      refine bR ?_;exact aC
     ·refine WO 1 hx ?_
      refine tY ?_;refine bR ?_;refine wY (wX e (by simp only[];omega) (by simp(maxSteps:=2000000) (disch:=omega) only[go_sem, *]<;>exact rfl) (by simp(maxSteps:=2000000) (disch:=omega) only[go_sem, *]<;>exact rfl) (by simp(maxSteps:=2000000) (disch:=omega) only[go_sem, *]<;>exact rfl)) ?_
      rintro H' ⟨g0,g1,g2⟩;refine⟨_,by simp(maxSteps:=2000000) (disch:=omega) only[go_sem, *]<;>exact rfl,?_⟩
      refine bR ?_;exact aC
    ·refine bO 0 ?_
     refine WO 1 hx ?_;refine tY ?_;refine bR ?_;refine wY (wX e (by simp only[];omega) (by simp(maxSteps:=2000000) (disch:=omega) only[go_sem, *]<;>exact rfl) (by simp(maxSteps:=2000000) (disch:=omega) only[go_sem, *]<;>exact rfl) (by simp(maxSteps:=2000000) (disch:=omega) only[go_sem, *]<;>exact rfl)) ?_
     rintro H' ⟨g0,g1,g2⟩;refine⟨_,by simp(maxSteps:=2000000) (disch:=omega) only[go_sem, *]<;>exact rfl,?_⟩
     refine bR ?_;exact aC
theorem bA2(l:List aH)(D Z P:List Int)(k gs q:Int)(d1 d2:Nat)(hb:l6 Tryz.prog 214 [.ptr 3 0 0,.snap (aA aS l)] 3 (kR (.c (.slice none 0 0)) 0 0) (some (kR (.snap (aA aN D)) gs q)) (.aU []) d1)(hm:l6 Tryz.prog 215 [.ptr 3 0 0] 3 (kR (.snap (aA aN D)) gs q) (some (kR (.snap (aA aN Z)) gs q)) (.agg [zV k,zV gs,.snap (aA aN P)]) d2):
  PC 174 [.snap (aA aS l)] (.aU [.agg (kI ⟨k,gs,P⟩),zV q,zV 0]):=by
 refine Ak Tryz.func174 Tryz.ntmps174 (by simp only[go_sem,kI]) ?_
 unfold kR at hb hm;unfold kI;simp only[];refine bW ?_;refine al6 9 ?_;refine iL 0 2 (iM (dU 0 ?_) (dU 2 ?_))
 ·refine iL 1 2 (iM (FA 1 hm ?_) (dU 2 ?_))
  ·refine iL 2 6 (iM (dU 2 ?_) (dU 6 ?_))
   ·refine iL 3 6 (iM (dU 3 ?_) (dU 6 ?_))
    ·refine iL 4 6 (iM (dU 4 ?_) (dU 6 ?_))
     ·refine iL 5 6 (iM (dU 5 ?_) (dU 6 ?_))
      ·refine bO 6 ?_
       refine bO 7 ?_;refine bO 8 ?_;refine m9 ?_;refine gT ?_;refine kF ?_;refine bR ?_;refine lM (m7 _) ?_;refine bR ?_;exact aC
      ·refine bO 5 ?_
       refine bO 7 ?_;refine bO 8 ?_;refine m9 ?_;refine gT ?_;refine kF ?_;refine bR ?_;refine lM (m7 _) ?_;refine bR ?_;exact aC
     ·refine bO 4 ?_
      refine bO 5 ?_;refine bO 7 ?_;refine bO 8 ?_;refine m9 ?_;refine gT ?_;refine kF ?_;refine bR ?_;refine lM (m7 _) ?_;refine bR ?_;exact aC
    ·refine bO 3 ?_
     refine bO 4 ?_;refine bO 5 ?_;refine bO 7 ?_;refine bO 8 ?_;refine m9 ?_;refine gT ?_;refine kF ?_;refine bR ?_;refine lM (m7 _) ?_;refine bR ?_;exact aC
   ·refine bO 2 ?_
    refine bO 3 ?_;refine bO 4 ?_;refine bO 5 ?_;refine bO 7 ?_;refine bO 8 ?_;refine m9 ?_;refine gT ?_;refine kF ?_;refine bR ?_;refine lM (m7 _) ?_;refine bR ?_;exact aC
  ·refine iL 1 3 (iM (FA 1 hm ?_) (dU 3 ?_))
   ·refine iL 3 6 (iM (dU 3 ?_) (dU 6 ?_))
    ·refine iL 4 6 (iM (dU 4 ?_) (dU 6 ?_))
     ·refine iL 5 6 (iM (dU 5 ?_) (dU 6 ?_))
      ·refine bO 6 ?_
       refine bO 7 ?_;refine bO 8 ?_;refine m9 ?_;refine gT ?_;refine kF ?_;refine bR ?_;refine lM (m7 _) ?_;refine bR ?_;exact aC
      ·refine bO 5 ?_
       refine bO 7 ?_;refine bO 8 ?_;refine m9 ?_;refine gT ?_;refine kF ?_;refine bR ?_;refine lM (m7 _) ?_;refine bR ?_;exact aC
     ·refine bO 4 ?_
      refine bO 5 ?_;refine bO 7 ?_;refine bO 8 ?_;refine m9 ?_;refine gT ?_;refine kF ?_;refine bR ?_;refine lM (m7 _) ?_;refine bR ?_;exact aC
    ·refine bO 3 ?_
     refine bO 4 ?_;refine bO 5 ?_;refine bO 7 ?_;refine bO 8 ?_;refine m9 ?_;refine gT ?_;refine kF ?_;refine bR ?_;refine lM (m7 _) ?_;refine bR ?_;exact aC
   ·refine iL 1 4 (iM (FA 1 hm ?_) (dU 4 ?_))
    ·refine iL 4 6 (iM (dU 4 ?_) (dU 6 ?_))
     ·refine iL 5 6 (iM (dU 5 ?_) (dU 6 ?_))
      ·refine bO 6 ?_
       refine bO 7 ?_;refine bO 8 ?_;refine m9 ?_;refine gT ?_;refine kF ?_;refine bR ?_;refine lM (m7 _) ?_;refine bR ?_;exact aC
      ·refine bO 5 ?_
       refine bO 7 ?_;refine bO 8 ?_;refine m9 ?_;refine gT ?_;refine kF ?_;refine bR ?_;refine lM (m7 _) ?_;refine bR ?_;exact aC
     ·refine bO 4 ?_
      refine bO 5 ?_;refine bO 7 ?_;refine bO 8 ?_;refine m9 ?_;refine gT ?_;refine kF ?_;refine bR ?_;refine lM (m7 _) ?_;refine bR ?_;exact aC
    ·refine iL 1 5 (iM (FA 1 hm ?_) (dU 5 ?_))
     ·refine iL 5 6 (iM (dU 5 ?_) (dU 6 ?_))
      ·refine bO 6 ?_
       refine bO 7 ?_;refine bO 8 ?_;refine m9 ?_;refine gT ?_;refine kF ?_;refine bR ?_;refine lM (m7 _) ?_;refine bR ?_;exact aC
      ·refine bO 5 ?_
       refine bO 7 ?_;refine bO 8 ?_;refine m9 ?_;refine gT ?_;refine kF ?_;refine bR ?_;refine lM (m7 _) ?_;refine bR ?_;exact aC
     ·refine WQ 1 hm ?_
      refine bO 6 ?_;refine bO 7 ?_;refine bO 8 ?_;refine m9 ?_;refine gT ?_;refine kF ?_;refine bR ?_;refine lM (m7 _) ?_;refine bR ?_;exact aC
 ·refine iL 0 3 (iM (dU 0 ?_) (dU 3 ?_))
  ·refine iL 1 3 (iM (FA 1 hm ?_) (dU 3 ?_))
   ·refine iL 3 6 (iM (dU 3 ?_) (dU 6 ?_))
    ·refine iL 4 6 (iM (dU 4 ?_) (dU 6 ?_))
     ·refine iL 5 6 (iM (dU 5 ?_) (dU 6 ?_))
      ·refine bO 6 ?_
       refine bO 7 ?_;refine bO 8 ?_;refine m9 ?_;refine gT ?_;refine kF ?_;refine bR ?_;refine lM (m7 _) ?_;refine bR ?_;exact aC
      ·refine bO 5 ?_
       refine bO 7 ?_;refine bO 8 ?_;refine m9 ?_;refine gT ?_;refine kF ?_;refine bR ?_;refine lM (m7 _) ?_;refine bR ?_;exact aC
     ·refine bO 4 ?_
      refine bO 5 ?_;refine bO 7 ?_;refine bO 8 ?_;refine m9 ?_;refine gT ?_;refine kF ?_;refine bR ?_;refine lM (m7 _) ?_;refine bR ?_;exact aC
    ·refine bO 3 ?_
     refine bO 4 ?_;refine bO 5 ?_;refine bO 7 ?_;refine bO 8 ?_;refine m9 ?_;refine gT ?_;refine kF ?_;refine bR ?_;refine lM (m7 _) ?_;refine bR ?_;exact aC
   ·refine iL 1 4 (iM (FA 1 hm ?_) (dU 4 ?_))
    ·refine iL 4 6 (iM (dU 4 ?_) (dU 6 ?_))
     ·refine iL 5 6 (iM (dU 5 ?_) (dU 6 ?_))
      ·refine bO 6 ?_
       refine bO 7 ?_;refine bO 8 ?_;refine m9 ?_;refine gT ?_;refine kF ?_;refine bR ?_;refine lM (m7 _) ?_;refine bR ?_;exact aC
      ·refine bO 5 ?_
       refine bO 7 ?_;refine bO 8 ?_;refine m9 ?_;refine gT ?_;refine kF ?_;refine bR ?_;refine lM (m7 _) ?_;refine bR ?_;exact aC
     ·refine bO 4 ?_
      refine bO 5 ?_;refine bO 7 ?_;refine bO 8 ?_;refine m9 ?_;refine gT ?_;refine kF ?_;refine bR ?_;refine lM (m7 _) ?_;refine bR ?_;exact aC
    ·refine iL 1 5 (iM (FA 1 hm ?_) (dU 5 ?_))
     ·refine iL 5 6 (iM (dU 5 ?_) (dU 6 ?_))
      ·refine bO 6 ?_
       refine bO 7 ?_;refine bO 8 ?_;refine m9 ?_;refine gT ?_;refine kF ?_;refine bR ?_;refine lM (m7 _) ?_;refine bR ?_;exact aC
      ·refine bO 5 ?_
       refine bO 7 ?_;refine bO 8 ?_;refine m9 ?_;refine gT ?_;refine kF ?_;refine bR ?_;refine lM (m7 _) ?_;refine bR ?_;exact aC
     ·refine WQ 1 hm ?_
      refine bO 6 ?_;refine bO 7 ?_;refine bO 8 ?_;refine m9 ?_;refine gT ?_;refine kF ?_;refine bR ?_;refine lM (m7 _) ?_;refine bR ?_;exact aC
  ·refine iL 0 4 (iM (dU 0 ?_) (dU 4 ?_))
   ·refine iL 1 4 (iM (FA 1 hm ?_) (dU 4 ?_))
    ·refine iL 4 6 (iM (dU 4 ?_) (dU 6 ?_))
     ·refine iL 5 6 (iM (dU 5 ?_) (dU 6 ?_))
      ·refine bO 6 ?_
       refine bO 7 ?_;refine bO 8 ?_;refine m9 ?_;refine gT ?_;refine kF ?_;refine bR ?_;refine lM (m7 _) ?_;refine bR ?_;exact aC
      ·refine bO 5 ?_
       refine bO 7 ?_;refine bO 8 ?_;refine m9 ?_;refine gT ?_;refine kF ?_;refine bR ?_;refine lM (m7 _) ?_;refine bR ?_;exact aC
     ·refine bO 4 ?_
      refine bO 5 ?_;refine bO 7 ?_;refine bO 8 ?_;refine m9 ?_;refine gT ?_;refine kF ?_;refine bR ?_;refine lM (m7 _) ?_;refine bR ?_;exact aC
    ·refine iL 1 5 (iM (FA 1 hm ?_) (dU 5 ?_))
     ·refine iL 5 6 (iM (dU 5 ?_) (dU 6 ?_))
      ·refine bO 6 ?_
       refine bO 7 ?_;refine bO 8 ?_;refine m9 ?_;refine gT ?_;refine kF ?_;refine bR ?_;refine lM (m7 _) ?_;refine bR ?_;exact aC
      ·refine bO 5 ?_
       refine bO 7 ?_;refine bO 8 ?_;refine m9 ?_;refine gT ?_;refine kF ?_;refine bR ?_;refine lM (m7 _) ?_;refine bR ?_;exact aC
     ·refine WQ 1 hm ?_
      refine bO 6 ?_;refine bO 7 ?_;refine bO 8 ?_;refine m9 ?_;refine gT ?_;refine kF ?_;refine bR ?_;refine lM (m7 _) ?_;refine bR ?_;exact aC
   ·refine iL 0 5 (iM (dU 0 ?_) (dU 5 ?_))
    ·refine iL 1 5 (iM (FA 1 hm ?_) (dU 5 ?_))
     ·refine iL 5 6 (iM (dU 5 ?_) (dU 6 ?_))
      ·refine bO 6 ?_
       refine bO 7 ?_;refine bO 8 ?_;refine m9 ?_;refine gT ?_;refine kF ?_;refine bR ?_;refine lM (m7 _) ?_;refine bR ?_;exact aC
      ·refine bO 5 ?_
       refine bO 7 ?_;refine bO 8 ?_;refine m9 ?_;refine gT ?_;refine kF ?_;refine bR ?_;refine lM (m7 _) ?_;refine bR ?_;exact aC
     ·refine WQ 1 hm ?_
      refine bO 6 ?_;refine bO 7 ?_;refine bO 8 ?_;refine m9 ?_;refine gT ?_;refine kF ?_;refine bR ?_;refine lM (m7 _) ?_;refine bR ?_;exact aC
    ·refine bO 0 ?_
     refine WQ 1 hm ?_;refine bO 6 ?_;refine bO 7 ?_;refine bO 8 ?_;refine m9 ?_;refine gT ?_;refine kF ?_;refine bR ?_;refine lM (m7 _) ?_;refine bR ?_;exact aC
end Go.Proofs.YtioafciifiggaaaGreatDoor
