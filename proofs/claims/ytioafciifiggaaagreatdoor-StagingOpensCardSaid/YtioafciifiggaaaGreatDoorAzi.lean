/- Staging. No condition. -/
import Derived.Test.YtioafciifiggaaaGreatDoorL0
import Derived.Test.YtioafciifiggaaaGreatDoorAzg
import Derived.Test.YtioafciifiggaaaGreatDoorAzh
import Derived.Test.YtioafciifiggaaaGreatDoorLg
set_option linter.all false
namespace Go.Proofs.YtioafciifiggaaaGreatDoor
open Go.Proofs Go.AL
set_option maxRecDepth 100000
set_option maxHeartbeats 8000000
attribute [local irreducible] cB AW aX cZ dK hold nM
theorem aF3(i j k N:Nat)(G:Nat->Option aI):o0 Tryz.prog 213 [.ptr i 0 0,.ptr j 0 0,.ptr k 0 0] ⟨N,G⟩ none (fun H'=>H'=⟨N,G⟩):=by
 refine UZ Tryz.func213 Tryz.ntmps213 ?_;refine aD ?_;exact⟨.inl rfl,⟨_,rfl⟩,rfl⟩
theorem aF4(e:Int)(N:Nat)(hN:3<=N)(G:Nat->Option aI)(x0 x1 x2 a b:AV):
  o0 Tryz.prog 213 [.ptr 0 0 0,.ptr 1 0 0,.ptr 2 0 0] ⟨N,iU G [(0,some (.cells 111 3 [[x0,x1,x2]] true false)),(1,some (.cells 3 1 [[a]] true false)),(2,some (.cells 38 1 [[b]] true false))]⟩ (some (wI e))
   (fun H'=>H'.get 0=some (.cells 111 3 [[zV 0,zV 0,.c (.slice none 0 0)]] true false)/\H'.get 1=some (.cells 3 1 [[zV 0]] true false)/\H'.get 2=some (.cells 38 1 [[zV e]] true false)):=by
 refine UZ Tryz.func213 Tryz.ntmps213 ?_;refine aD ?_;refine⟨.inl rfl,⟨_,rfl⟩,?_,?_,?_⟩
 ·simp(maxSteps:=2000000) (disch:=omega) only[go_sem, *]
 ·simp(maxSteps:=2000000) (disch:=omega) only[go_sem, *]
 ·simp(maxSteps:=2000000) (disch:=omega) only[go_sem, *]
theorem tT(e:Int){H:Heap}{x0 x1 x2 a b:AV}(hN:3<=H.next)(h0:H.get 0=some (.cells 111 3 [[x0,x1,x2]] true false))(h1:H.get 1=some (.cells 3 1 [[a]] true false))(h2:H.get 2=some (.cells 38 1 [[b]] true false)):
  o0 Tryz.prog 213 [.ptr 0 0 0,.ptr 1 0 0,.ptr 2 0 0] H (some (wI e))
   (fun H'=>H'.get 0=some (.cells 111 3 [[zV 0,zV 0,.c (.slice none 0 0)]] true false)/\H'.get 1=some (.cells 3 1 [[zV 0]] true false)/\H'.get 2=some (.cells 38 1 [[zV e]] true false)):=
 o0.less (aF4 e H.next hN (fun _=>none) x0 x1 x2 a b) ⟨cA _,fun id b' h=>by
  simp only[iU,tS]at h;split at h
  ·rename_i h3;subst h3;rw[h0];simpa using h
  ·split at h
   ·rename_i h3;subst h3;rw[h1];simpa using h
   ·split at h
    ·rename_i h3;subst h3;rw[h2];simpa using h
    ·simp at h⟩
theorem kR(H:Heap):o0 Tryz.prog 213 [.ptr 0 0 0,.ptr 1 0 0,.ptr 2 0 0] H none (fun H'=>H'=H):=aF3 0 1 2 H.next H.get
theorem R8(l:List aY)(e:Int)(h:MD l e):PC 174 [.snap (aA aQ l)] (.aR [.agg (dN cQ),zV 0,zV e]):=by
 refine V8 Tryz.func174 Tryz.ntmps174 (by simp only[go_sem,dN]) ?_
 obtain⟨d,hd⟩:=h;have c1:=hd 3;unfold jK at c1
 iterate 4 (refine LK ?_)
 refine tC ?_;refine aF5 2 c1 ?_;refine bO ?_;refine tU (tT e (by simp only[];omega) (by simp(maxSteps:=2000000) (disch:=omega) only[go_sem, *]<;>exact rfl) (by simp(maxSteps:=2000000) (disch:=omega) only[go_sem, *]<;>exact rfl) (by simp(maxSteps:=2000000) (disch:=omega) only[go_sem, *]<;>exact rfl)) ?_
 rintro H' ⟨g0,g1,g2⟩;refine⟨_,by simp(maxSteps:=2000000) (disch:=omega) only[go_sem, *]<;>exact rfl,?_⟩
 refine bN ?_;exact aB
theorem Qv(l:List aY)(D:List Int)(gs q e:Int)(d1 d2:Nat)(hb:jZ Tryz.prog 214 [.ptr 3 0 0,.snap (aA aQ l)] 3 (jK (.c (.slice none 0 0)) 0 0) (some (jK (.snap (aA aH D)) gs q)) (.aR []) d1)(hx:IY Tryz.prog 215 [.ptr 3 0 0] 3 (jK (.snap (aA aH D)) gs q) (wI e) d2):
  PC 174 [.snap (aA aQ l)] (.aR [.agg (dN cQ),zV 0,zV e]):=by
 refine V8 Tryz.func174 Tryz.ntmps174 (by simp only[go_sem,dN]) ?_
 unfold jK at hb hx;refine bO ?_;refine Qw 9 ?_;refine gP 0 2 (gQ (dG 0 ?_) (dG 2 ?_))
 ·refine gP 1 2 (gQ (CI (q:=1) hx ?_) (dG 2 ?_))
  ·refine rA ?_
   refine bN ?_;refine tU (tT e (by simp only[];omega) (by simp(maxSteps:=2000000) (disch:=omega) only[go_sem, *]<;>exact rfl) (by simp(maxSteps:=2000000) (disch:=omega) only[go_sem, *]<;>exact rfl) (by simp(maxSteps:=2000000) (disch:=omega) only[go_sem, *]<;>exact rfl)) ?_
   rintro H' ⟨g0,g1,g2⟩;refine⟨_,by simp(maxSteps:=2000000) (disch:=omega) only[go_sem, *]<;>exact rfl,?_⟩
   refine bN ?_;exact aB
  ·refine gP 1 3 (gQ (CI (q:=1) hx ?_) (dG 3 ?_))
   ·refine rA ?_
    refine bN ?_;refine tU (tT e (by simp only[];omega) (by simp(maxSteps:=2000000) (disch:=omega) only[go_sem, *]<;>exact rfl) (by simp(maxSteps:=2000000) (disch:=omega) only[go_sem, *]<;>exact rfl) (by simp(maxSteps:=2000000) (disch:=omega) only[go_sem, *]<;>exact rfl)) ?_
    rintro H' ⟨g0,g1,g2⟩;refine⟨_,by simp(maxSteps:=2000000) (disch:=omega) only[go_sem, *]<;>exact rfl,?_⟩
    refine bN ?_;exact aB
   ·refine gP 1 4 (gQ (CI (q:=1) hx ?_) (dG 4 ?_))
    ·refine rA ?_
     refine bN ?_;refine tU (tT e (by simp only[];omega) (by simp(maxSteps:=2000000) (disch:=omega) only[go_sem, *]<;>exact rfl) (by simp(maxSteps:=2000000) (disch:=omega) only[go_sem, *]<;>exact rfl) (by simp(maxSteps:=2000000) (disch:=omega) only[go_sem, *]<;>exact rfl)) ?_
     rintro H' ⟨g0,g1,g2⟩;refine⟨_,by simp(maxSteps:=2000000) (disch:=omega) only[go_sem, *]<;>exact rfl,?_⟩
     refine bN ?_;exact aB
    ·refine gP 1 5 (gQ (CI (q:=1) hx ?_) (dG 5 ?_))
     ·refine rA ?_
      refine bN ?_;refine tU (tT e (by simp only[];omega) (by simp(maxSteps:=2000000) (disch:=omega) only[go_sem, *]<;>exact rfl) (by simp(maxSteps:=2000000) (disch:=omega) only[go_sem, *]<;>exact rfl) (by simp(maxSteps:=2000000) (disch:=omega) only[go_sem, *]<;>exact rfl)) ?_
      rintro H' ⟨g0,g1,g2⟩;refine⟨_,by simp(maxSteps:=2000000) (disch:=omega) only[go_sem, *]<;>exact rfl,?_⟩
      refine bN ?_;exact aB
     ·refine R9 1 hx ?_
      refine rA ?_;refine bN ?_;refine tU (tT e (by simp only[];omega) (by simp(maxSteps:=2000000) (disch:=omega) only[go_sem, *]<;>exact rfl) (by simp(maxSteps:=2000000) (disch:=omega) only[go_sem, *]<;>exact rfl) (by simp(maxSteps:=2000000) (disch:=omega) only[go_sem, *]<;>exact rfl)) ?_
      rintro H' ⟨g0,g1,g2⟩;refine⟨_,by simp(maxSteps:=2000000) (disch:=omega) only[go_sem, *]<;>exact rfl,?_⟩
      refine bN ?_;exact aB
 ·refine gP 0 3 (gQ (dG 0 ?_) (dG 3 ?_))
  ·refine gP 1 3 (gQ (CI (q:=1) hx ?_) (dG 3 ?_))
   ·refine rA ?_
    refine bN ?_;refine tU (tT e (by simp only[];omega) (by simp(maxSteps:=2000000) (disch:=omega) only[go_sem, *]<;>exact rfl) (by simp(maxSteps:=2000000) (disch:=omega) only[go_sem, *]<;>exact rfl) (by simp(maxSteps:=2000000) (disch:=omega) only[go_sem, *]<;>exact rfl)) ?_
    rintro H' ⟨g0,g1,g2⟩;refine⟨_,by simp(maxSteps:=2000000) (disch:=omega) only[go_sem, *]<;>exact rfl,?_⟩
    refine bN ?_;exact aB
   ·refine gP 1 4 (gQ (CI (q:=1) hx ?_) (dG 4 ?_))
    ·refine rA ?_
     refine bN ?_;refine tU (tT e (by simp only[];omega) (by simp(maxSteps:=2000000) (disch:=omega) only[go_sem, *]<;>exact rfl) (by simp(maxSteps:=2000000) (disch:=omega) only[go_sem, *]<;>exact rfl) (by simp(maxSteps:=2000000) (disch:=omega) only[go_sem, *]<;>exact rfl)) ?_
     rintro H' ⟨g0,g1,g2⟩;refine⟨_,by simp(maxSteps:=2000000) (disch:=omega) only[go_sem, *]<;>exact rfl,?_⟩
     refine bN ?_;exact aB
    ·refine gP 1 5 (gQ (CI (q:=1) hx ?_) (dG 5 ?_))
     ·refine rA ?_
      refine bN ?_;refine tU (tT e (by simp only[];omega) (by simp(maxSteps:=2000000) (disch:=omega) only[go_sem, *]<;>exact rfl) (by simp(maxSteps:=2000000) (disch:=omega) only[go_sem, *]<;>exact rfl) (by simp(maxSteps:=2000000) (disch:=omega) only[go_sem, *]<;>exact rfl)) ?_
      rintro H' ⟨g0,g1,g2⟩;refine⟨_,by simp(maxSteps:=2000000) (disch:=omega) only[go_sem, *]<;>exact rfl,?_⟩
      refine bN ?_;exact aB
     ·refine R9 1 hx ?_
      refine rA ?_;refine bN ?_;refine tU (tT e (by simp only[];omega) (by simp(maxSteps:=2000000) (disch:=omega) only[go_sem, *]<;>exact rfl) (by simp(maxSteps:=2000000) (disch:=omega) only[go_sem, *]<;>exact rfl) (by simp(maxSteps:=2000000) (disch:=omega) only[go_sem, *]<;>exact rfl)) ?_
      rintro H' ⟨g0,g1,g2⟩;refine⟨_,by simp(maxSteps:=2000000) (disch:=omega) only[go_sem, *]<;>exact rfl,?_⟩
      refine bN ?_;exact aB
  ·refine gP 0 4 (gQ (dG 0 ?_) (dG 4 ?_))
   ·refine gP 1 4 (gQ (CI (q:=1) hx ?_) (dG 4 ?_))
    ·refine rA ?_
     refine bN ?_;refine tU (tT e (by simp only[];omega) (by simp(maxSteps:=2000000) (disch:=omega) only[go_sem, *]<;>exact rfl) (by simp(maxSteps:=2000000) (disch:=omega) only[go_sem, *]<;>exact rfl) (by simp(maxSteps:=2000000) (disch:=omega) only[go_sem, *]<;>exact rfl)) ?_
     rintro H' ⟨g0,g1,g2⟩;refine⟨_,by simp(maxSteps:=2000000) (disch:=omega) only[go_sem, *]<;>exact rfl,?_⟩
     refine bN ?_;exact aB
    ·refine gP 1 5 (gQ (CI (q:=1) hx ?_) (dG 5 ?_))
     ·refine rA ?_
      refine bN ?_;refine tU (tT e (by simp only[];omega) (by simp(maxSteps:=2000000) (disch:=omega) only[go_sem, *]<;>exact rfl) (by simp(maxSteps:=2000000) (disch:=omega) only[go_sem, *]<;>exact rfl) (by simp(maxSteps:=2000000) (disch:=omega) only[go_sem, *]<;>exact rfl)) ?_
      rintro H' ⟨g0,g1,g2⟩;refine⟨_,by simp(maxSteps:=2000000) (disch:=omega) only[go_sem, *]<;>exact rfl,?_⟩
      refine bN ?_;exact aB
     ·refine R9 1 hx ?_
      refine rA ?_;refine bN ?_;refine tU (tT e (by simp only[];omega) (by simp(maxSteps:=2000000) (disch:=omega) only[go_sem, *]<;>exact rfl) (by simp(maxSteps:=2000000) (disch:=omega) only[go_sem, *]<;>exact rfl) (by simp(maxSteps:=2000000) (disch:=omega) only[go_sem, *]<;>exact rfl)) ?_
      rintro H' ⟨g0,g1,g2⟩;refine⟨_,by simp(maxSteps:=2000000) (disch:=omega) only[go_sem, *]<;>exact rfl,?_⟩
      refine bN ?_;exact aB
   ·refine gP 0 5 (gQ (dG 0 ?_) (dG 5 ?_))
    ·refine gP 1 5 (gQ (CI (q:=1) hx ?_) (dG 5 ?_))
     ·refine rA ?_
      refine bN ?_;refine tU (tT e (by simp only[];omega) (by simp(maxSteps:=2000000) (disch:=omega) only[go_sem, *]<;>exact rfl) (by simp(maxSteps:=2000000) (disch:=omega) only[go_sem, *]<;>exact rfl) (by simp(maxSteps:=2000000) (disch:=omega) only[go_sem, *]<;>exact rfl)) ?_
      rintro H' ⟨g0,g1,g2⟩;refine⟨_,by simp(maxSteps:=2000000) (disch:=omega) only[go_sem, *]<;>exact rfl,?_⟩
      refine bN ?_;exact aB
     ·refine R9 1 hx ?_
      refine rA ?_;refine bN ?_;refine tU (tT e (by simp only[];omega) (by simp(maxSteps:=2000000) (disch:=omega) only[go_sem, *]<;>exact rfl) (by simp(maxSteps:=2000000) (disch:=omega) only[go_sem, *]<;>exact rfl) (by simp(maxSteps:=2000000) (disch:=omega) only[go_sem, *]<;>exact rfl)) ?_
      rintro H' ⟨g0,g1,g2⟩;refine⟨_,by simp(maxSteps:=2000000) (disch:=omega) only[go_sem, *]<;>exact rfl,?_⟩
      refine bN ?_;exact aB
    ·refine bL 0 ?_
     refine R9 1 hx ?_;refine rA ?_;refine bN ?_;refine tU (tT e (by simp only[];omega) (by simp(maxSteps:=2000000) (disch:=omega) only[go_sem, *]<;>exact rfl) (by simp(maxSteps:=2000000) (disch:=omega) only[go_sem, *]<;>exact rfl) (by simp(maxSteps:=2000000) (disch:=omega) only[go_sem, *]<;>exact rfl)) ?_
     rintro H' ⟨g0,g1,g2⟩;refine⟨_,by simp(maxSteps:=2000000) (disch:=omega) only[go_sem, *]<;>exact rfl,?_⟩
     refine bN ?_;exact aB
theorem aF6(l:List aY)(D Z P:List Int)(k gs q:Int)(d1 d2:Nat)(hb:jZ Tryz.prog 214 [.ptr 3 0 0,.snap (aA aQ l)] 3 (jK (.c (.slice none 0 0)) 0 0) (some (jK (.snap (aA aH D)) gs q)) (.aR []) d1)(hm:jZ Tryz.prog 215 [.ptr 3 0 0] 3 (jK (.snap (aA aH D)) gs q) (some (jK (.snap (aA aH Z)) gs q)) (.agg [zV k,zV gs,.snap (aA aH P)]) d2):
  PC 174 [.snap (aA aQ l)] (.aR [.agg (dN ⟨k,gs,P⟩),zV q,zV 0]):=by
 refine V8 Tryz.func174 Tryz.ntmps174 (by simp only[go_sem,dN]) ?_
 unfold jK at hb hm;unfold dN;simp only[];refine bO ?_;refine Qw 9 ?_;refine gP 0 2 (gQ (dG 0 ?_) (dG 2 ?_))
 ·refine gP 1 2 (gQ (CJ 1 hm ?_) (dG 2 ?_))
  ·refine gP 2 6 (gQ (dG 2 ?_) (dG 6 ?_))
   ·refine gP 3 6 (gQ (dG 3 ?_) (dG 6 ?_))
    ·refine gP 4 6 (gQ (dG 4 ?_) (dG 6 ?_))
     ·refine gP 5 6 (gQ (dG 5 ?_) (dG 6 ?_))
      ·refine bL 6 ?_
       refine bL 7 ?_;refine bL 8 ?_;refine kT ?_;refine gE ?_;refine jA ?_;refine bN ?_;refine kI (kR _) ?_;refine bN ?_;exact aB
      ·refine bL 5 ?_
       refine bL 7 ?_;refine bL 8 ?_;refine kT ?_;refine gE ?_;refine jA ?_;refine bN ?_;refine kI (kR _) ?_;refine bN ?_;exact aB
     ·refine bL 4 ?_
      refine bL 5 ?_;refine bL 7 ?_;refine bL 8 ?_;refine kT ?_;refine gE ?_;refine jA ?_;refine bN ?_;refine kI (kR _) ?_;refine bN ?_;exact aB
    ·refine bL 3 ?_
     refine bL 4 ?_;refine bL 5 ?_;refine bL 7 ?_;refine bL 8 ?_;refine kT ?_;refine gE ?_;refine jA ?_;refine bN ?_;refine kI (kR _) ?_;refine bN ?_;exact aB
   ·refine bL 2 ?_
    refine bL 3 ?_;refine bL 4 ?_;refine bL 5 ?_;refine bL 7 ?_;refine bL 8 ?_;refine kT ?_;refine gE ?_;refine jA ?_;refine bN ?_;refine kI (kR _) ?_;refine bN ?_;exact aB
  ·refine gP 1 3 (gQ (CJ 1 hm ?_) (dG 3 ?_))
   ·refine gP 3 6 (gQ (dG 3 ?_) (dG 6 ?_))
    ·refine gP 4 6 (gQ (dG 4 ?_) (dG 6 ?_))
     ·refine gP 5 6 (gQ (dG 5 ?_) (dG 6 ?_))
      ·refine bL 6 ?_
       refine bL 7 ?_;refine bL 8 ?_;refine kT ?_;refine gE ?_;refine jA ?_;refine bN ?_;refine kI (kR _) ?_;refine bN ?_;exact aB
      ·refine bL 5 ?_
       refine bL 7 ?_;refine bL 8 ?_;refine kT ?_;refine gE ?_;refine jA ?_;refine bN ?_;refine kI (kR _) ?_;refine bN ?_;exact aB
     ·refine bL 4 ?_
      refine bL 5 ?_;refine bL 7 ?_;refine bL 8 ?_;refine kT ?_;refine gE ?_;refine jA ?_;refine bN ?_;refine kI (kR _) ?_;refine bN ?_;exact aB
    ·refine bL 3 ?_
     refine bL 4 ?_;refine bL 5 ?_;refine bL 7 ?_;refine bL 8 ?_;refine kT ?_;refine gE ?_;refine jA ?_;refine bN ?_;refine kI (kR _) ?_;refine bN ?_;exact aB
   ·refine gP 1 4 (gQ (CJ 1 hm ?_) (dG 4 ?_))
    ·refine gP 4 6 (gQ (dG 4 ?_) (dG 6 ?_))
     ·refine gP 5 6 (gQ (dG 5 ?_) (dG 6 ?_))
      ·refine bL 6 ?_
       refine bL 7 ?_;refine bL 8 ?_;refine kT ?_;refine gE ?_;refine jA ?_;refine bN ?_;refine kI (kR _) ?_;refine bN ?_;exact aB
      ·refine bL 5 ?_
       refine bL 7 ?_;refine bL 8 ?_;refine kT ?_;refine gE ?_;refine jA ?_;refine bN ?_;refine kI (kR _) ?_;refine bN ?_;exact aB
     ·refine bL 4 ?_
      refine bL 5 ?_;refine bL 7 ?_;refine bL 8 ?_;refine kT ?_;refine gE ?_;refine jA ?_;refine bN ?_;refine kI (kR _) ?_;refine bN ?_;exact aB
    ·refine gP 1 5 (gQ (CJ 1 hm ?_) (dG 5 ?_))
     ·refine gP 5 6 (gQ (dG 5 ?_) (dG 6 ?_))
      ·refine bL 6 ?_
       refine bL 7 ?_;refine bL 8 ?_;refine kT ?_;refine gE ?_;refine jA ?_;refine bN ?_;refine kI (kR _) ?_;refine bN ?_;exact aB
      ·refine bL 5 ?_
       refine bL 7 ?_;refine bL 8 ?_;refine kT ?_;refine gE ?_;refine jA ?_;refine bN ?_;refine kI (kR _) ?_;refine bN ?_;exact aB
     ·refine RD 1 hm ?_
      refine bL 6 ?_;refine bL 7 ?_;refine bL 8 ?_;refine kT ?_;refine gE ?_;refine jA ?_;refine bN ?_;refine kI (kR _) ?_;refine bN ?_;exact aB
 ·refine gP 0 3 (gQ (dG 0 ?_) (dG 3 ?_))
  ·refine gP 1 3 (gQ (CJ 1 hm ?_) (dG 3 ?_))
   ·refine gP 3 6 (gQ (dG 3 ?_) (dG 6 ?_))
    ·refine gP 4 6 (gQ (dG 4 ?_) (dG 6 ?_))
     ·refine gP 5 6 (gQ (dG 5 ?_) (dG 6 ?_))
      ·refine bL 6 ?_
       refine bL 7 ?_;refine bL 8 ?_;refine kT ?_;refine gE ?_;refine jA ?_;refine bN ?_;refine kI (kR _) ?_;refine bN ?_;exact aB
      ·refine bL 5 ?_
       refine bL 7 ?_;refine bL 8 ?_;refine kT ?_;refine gE ?_;refine jA ?_;refine bN ?_;refine kI (kR _) ?_;refine bN ?_;exact aB
     ·refine bL 4 ?_
      refine bL 5 ?_;refine bL 7 ?_;refine bL 8 ?_;refine kT ?_;refine gE ?_;refine jA ?_;refine bN ?_;refine kI (kR _) ?_;refine bN ?_;exact aB
    ·refine bL 3 ?_
     refine bL 4 ?_;refine bL 5 ?_;refine bL 7 ?_;refine bL 8 ?_;refine kT ?_;refine gE ?_;refine jA ?_;refine bN ?_;refine kI (kR _) ?_;refine bN ?_;exact aB
   ·refine gP 1 4 (gQ (CJ 1 hm ?_) (dG 4 ?_))
    ·refine gP 4 6 (gQ (dG 4 ?_) (dG 6 ?_))
     ·refine gP 5 6 (gQ (dG 5 ?_) (dG 6 ?_))
      ·refine bL 6 ?_
       refine bL 7 ?_;refine bL 8 ?_;refine kT ?_;refine gE ?_;refine jA ?_;refine bN ?_;refine kI (kR _) ?_;refine bN ?_;exact aB
      ·refine bL 5 ?_
       refine bL 7 ?_;refine bL 8 ?_;refine kT ?_;refine gE ?_;refine jA ?_;refine bN ?_;refine kI (kR _) ?_;refine bN ?_;exact aB
     ·refine bL 4 ?_
      refine bL 5 ?_;refine bL 7 ?_;refine bL 8 ?_;refine kT ?_;refine gE ?_;refine jA ?_;refine bN ?_;refine kI (kR _) ?_;refine bN ?_;exact aB
    ·refine gP 1 5 (gQ (CJ 1 hm ?_) (dG 5 ?_))
     ·refine gP 5 6 (gQ (dG 5 ?_) (dG 6 ?_))
      ·refine bL 6 ?_
       refine bL 7 ?_;refine bL 8 ?_;refine kT ?_;refine gE ?_;refine jA ?_;refine bN ?_;refine kI (kR _) ?_;refine bN ?_;exact aB
      ·refine bL 5 ?_
       refine bL 7 ?_;refine bL 8 ?_;refine kT ?_;refine gE ?_;refine jA ?_;refine bN ?_;refine kI (kR _) ?_;refine bN ?_;exact aB
     ·refine RD 1 hm ?_
      refine bL 6 ?_;refine bL 7 ?_;refine bL 8 ?_;refine kT ?_;refine gE ?_;refine jA ?_;refine bN ?_;refine kI (kR _) ?_;refine bN ?_;exact aB
  ·refine gP 0 4 (gQ (dG 0 ?_) (dG 4 ?_))
   ·refine gP 1 4 (gQ (CJ 1 hm ?_) (dG 4 ?_))
    ·refine gP 4 6 (gQ (dG 4 ?_) (dG 6 ?_))
     ·refine gP 5 6 (gQ (dG 5 ?_) (dG 6 ?_))
      ·refine bL 6 ?_
       refine bL 7 ?_;refine bL 8 ?_;refine kT ?_;refine gE ?_;refine jA ?_;refine bN ?_;refine kI (kR _) ?_;refine bN ?_;exact aB
      ·refine bL 5 ?_
       refine bL 7 ?_;refine bL 8 ?_;refine kT ?_;refine gE ?_;refine jA ?_;refine bN ?_;refine kI (kR _) ?_;refine bN ?_;exact aB
     ·refine bL 4 ?_
      refine bL 5 ?_;refine bL 7 ?_;refine bL 8 ?_;refine kT ?_;refine gE ?_;refine jA ?_;refine bN ?_;refine kI (kR _) ?_;refine bN ?_;exact aB
    ·refine gP 1 5 (gQ (CJ 1 hm ?_) (dG 5 ?_))
     ·refine gP 5 6 (gQ (dG 5 ?_) (dG 6 ?_))
      ·refine bL 6 ?_
       refine bL 7 ?_;refine bL 8 ?_;refine kT ?_;refine gE ?_;refine jA ?_;refine bN ?_;refine kI (kR _) ?_;refine bN ?_;exact aB
      ·refine bL 5 ?_
       refine bL 7 ?_;refine bL 8 ?_;refine kT ?_;refine gE ?_;refine jA ?_;refine bN ?_;refine kI (kR _) ?_;refine bN ?_;exact aB
     ·refine RD 1 hm ?_
      refine bL 6 ?_;refine bL 7 ?_;refine bL 8 ?_;refine kT ?_;refine gE ?_;refine jA ?_;refine bN ?_;refine kI (kR _) ?_;refine bN ?_;exact aB
   ·refine gP 0 5 (gQ (dG 0 ?_) (dG 5 ?_))
    ·refine gP 1 5 (gQ (CJ 1 hm ?_) (dG 5 ?_))
     ·refine gP 5 6 (gQ (dG 5 ?_) (dG 6 ?_))
      ·refine bL 6 ?_
       refine bL 7 ?_;refine bL 8 ?_;refine kT ?_;refine gE ?_;refine jA ?_;refine bN ?_;refine kI (kR _) ?_;refine bN ?_;exact aB
      ·refine bL 5 ?_
       refine bL 7 ?_;refine bL 8 ?_;refine kT ?_;refine gE ?_;refine jA ?_;refine bN ?_;refine kI (kR _) ?_;refine bN ?_;exact aB
     ·refine RD 1 hm ?_
      refine bL 6 ?_;refine bL 7 ?_;refine bL 8 ?_;refine kT ?_;refine gE ?_;refine jA ?_;refine bN ?_;refine kI (kR _) ?_;refine bN ?_;exact aB
    ·refine bL 0 ?_
     refine RD 1 hm ?_;refine bL 6 ?_;refine bL 7 ?_;refine bL 8 ?_;refine kT ?_;refine gE ?_;refine jA ?_;refine bN ?_;refine kI (kR _) ?_;refine bN ?_;exact aB
end Go.Proofs.YtioafciifiggaaaGreatDoor
