/- Apply: contracts of its functions (Ah). No condition but those named. -/
import Derived.Test.YtkghiceeegindaaGreatDoorAg
import Derived.Test.YtkghiceeegindaaGreatDoorAe
import Derived.Test.YtkghiceeegindaaGreatDoorAf
import Derived.Test.YtkghiceeegindaaGreatDoorAd
import Derived.Test.YtkghiceeegindaaGreatDoorLe
import Derived.Test.YtkghiceeegindaaGreatDoorLc
import Derived.KernelRfl
namespace Go.Proofs.YtkghiceeegindaaGreatDoor
open Go.Proofs Go.AL
set_option maxRecDepth 100000
set_option maxHeartbeats 1000000
set_option linter.unusedVariables false
set_option linter.unusedSimpArgs false
attribute [local irreducible] endA AW aops thenA blockA hold
theorem zholdsB {σ : AS} {env : List (Nat × Bool × AV)} {N : Nat} {G : Nat → Option Blk} {T : List (Nat × Option Blk)} (w : Holds σ env ⟨N, tabB G T⟩ := by
    ((repeat (refine holds_cons (by first | rfl | (simp (disch := omega) only [go_sem, *]; done) | (simp (disch := omega) only [go_sem, *]; rfl)) ?_)); (refine holds_nil (by simp only []; omega) ?_); (refine subB (by assumption) ?_ ?_); (next => ((repeat (first | refine sB_cons (by first | rfl | (simp (disch := omega) only [go_sem, *]; done) | (simp (disch := omega) only [go_sem, *]; rfl)) ?_ | refine sB_none ?_)); exact sB_nil)); (next => (simp only [keysOK, memK, or_false, false_or, or_true, true_or, and_true, true_and, Nat.le_refl] <;> omega)))) : Holds σ env ⟨N, tabB G T⟩ := w
abbrev nilV : AV := .c (.slice none 0 0)
def HeadM (d : Dsk) (c : List Int) (n : Nat) (env : List (Nat × Bool × AV)) (H : Heap) : Prop :=
  ∃ (j N : Nat) (G : Nat → Option Blk) (es : List (Value × AV)) (ks : List Int) (idf : Int → Nat), n = d.ca.length - j ∧ j ≤ d.ca.length ∧ 3 ≤ N ∧ MapV G N (d.ca.take j) es ks idf ∧ (∀ id, N ≤ id → G id = none) ∧
    env = [(23, true, zV (j : Int)), (22, true, zV (d.ca.length : Int)), (21, true, .snap (encL encCa d.ca)), (6, true, .omap 2), (4, true, .ptr 1 0 0), (2, true, .ptr 0 0 0), (1, true, .snap (encL intRow c))] ∧
    H = ⟨N, tabB G [(0, some (.cells 25 2 [[.snap (encL encSec d.st), .snap (encL encCa d.ca)]] true false)), (1, some (.cells 25 2 [[nilV, nilV]] true false)), (2, some (.map es))]⟩
def HeadCr (d : Dsk) (c sk : List Int) (G : Nat → Option Blk) (N : Nat) (es : List (Value × AV)) (n : Nat) (env : List (Nat × Bool × AV)) (H : Heap) : Prop :=
  ∃ (k N2 : Nat), n = sk.length - k ∧ k ≤ sk.length ∧ N + 3 ≤ N2 ∧
    env = [(48, true, zV (k : Int)), (47, true, zV (sk.length : Int)), (46, true, .snap (encL intRow sk)), (10, true, .snap (encL intRow (crashL d.ca d.st c sk k).2)), (9, true, .ptr (N + 1) 0 0), (6, true, .omap 2), (4, true, .ptr 1 0 0)] ∧
    H = ⟨N2, tabB G [(0, none), (1, some (.cells 25 2 [[nilV, nilV]] true false)), (2, some (.map es)), (N + 1, some (.cells 25 2 [[.own N 0 d.st.length, nilV]] true false)), (N, some (.cells 96 8 (encL encSec (crashL d.ca d.st c sk k).1) true true))]⟩
theorem crash_e (d : Dsk) (c : List Int) (hL : c.length ≤ 1000000) (h1 : d.st.length ≤ 1000000) (h2 : d.ca.length ≤ 1000000) (hc : dskE d ≠ 0) : PC 97 [.agg (encD d), .snap (encL intRow c)] (.tup [.agg (encD (crashS d c).1), .snap (encL intRow (crashS d c).2)]) := by
  refine pstart Tryz.func97 Tryz.ntmps97 (by simp only [go_sem, encD]) ?_
  have hS : crashS d c = (d, c) := if_neg hc
  have c1 := dcheck_p d h1 h2
  rw [hS]
  clear hS
  unfold encD at *
  refine zgo2 ?_
  exact zfin
theorem inAll_of {d : Dsk} (h : dskE d = 0) : (∀ c ∈ d.ca, 0 ≤ c.1 ∧ c.1 < (d.st.length : Int)) ∧ d.st.length ≤ 4096 := ⟨(dskE_ok h).2, (dskE_ok h).1⟩
theorem crash_1 (d : Dsk) (c : List Int) (hne : d.st ≠ []) (hL : c.length ≤ 1000000) (hC : d.ca.length ≤ 900000) (hc : dskE d = 0) : PC 97 [.agg (encD d), .snap (encL intRow c)] (.tup [.agg (encD (crashS d c).1), .snap (encL intRow (crashS d c).2)]) := by
  refine pstart Tryz.func97 Tryz.ntmps97 (by simp only [go_sem, encD]) ?_
  have hin := (inAll_of hc).1
  have hst := (inAll_of hc).2
  have hS : crashS d c = (⟨(crashTo d.ca d.st c d.st.length).1, []⟩, (crashTo d.ca d.st c d.st.length).2) := if_pos hc
  rw [hS]
  have c1 := dcheck_p d (by omega) (by omega)
  rw [hc] at c1
  have hgc := gC d.ca
  have hx0 : ∀ (x : Int) (s : Sec), (encL encCa [(x, s)])[0]? = some (zV x :: encSec s) := fun _ _ => rfl
  have hbs : (IntKind.i64 == IntKind.i64) = true := rfl
  have hx : Lat (∀ r : List AV, (encL encCa [(0, zSec)]).set 0 r = [r]) := ⟨fun _ => rfl⟩
  clear hS hc
  unfold encD at *
  refine zgo2 ?_
  refine w_loop (HeadM d c) d.ca.length ?_ ?_
  · refine ⟨_, _, ⟨0, 1000, fun _ => none, [], [], fun _ => 0, by omega, by omega, by omega, MapV.start, fun _ _ => rfl, rfl, rfl⟩, ?_⟩
    rw [← tabG_B]
    exact zholds
  · rintro n env H ⟨j, N, G, es, ks, idf, rfl, hj, hN, hM, hG, rfl, rfl⟩
    have hk := hM.keys
    simp only [go_sem] at hk
    by_cases hlt : j < d.ca.length
    · have htk : Lat (d.ca.take (j + 1) = d.ca.take j ++ [d.ca.getD j (0, zSec)]) := ⟨by
        rw [List.take_succ_eq_append_getElem hlt]; simp [hlt]⟩
      have hvb : (versS (d.ca.take j) (d.ca.getD j (0, zSec)).1).length ≤ 900000 := Nat.le_trans (vers_len _ _) (by simp; omega)
      have hgj := hgc j hlt
      clear hgc hin
      by_cases hq : (d.ca.getD j (0, zSec)).1 ∈ ks
      · have hl := hM.hit hq
        obtain ⟨w, hm⟩ := hM.get _ hq
        have hr := hM.rng _ hq
        have hinj : Lat (∀ q ∈ ks, idf q = idf (d.ca.getD j (0, zSec)).1 → q = (d.ca.getD j (0, zSec)).1) := ⟨fun q hq' (he : idf q = idf (d.ca.getD j (0, zSec)).1) => hM.inj q hq' _ hq he⟩
        generalize idf (d.ca.getD j (0, zSec)).1 = m at hl hm hr hinj
        have hM' : Lat (MapV G N (d.ca.take j) es ks idf) := ⟨hM⟩
        clear hM
        refine zgo2 ?_
        have hx1 := hx.out
        refine zgo2 ?_
        obtain ⟨ks', idf', hM''⟩ := hM'.out.put (d.ca.getD j (0, zSec)) (m := N + 1 + 1 + 10) (N' := N + 1000) (w := w) (G' := tabB G [(m, none), (N + 1 + 1 + 10, some (.cells 96 8 (encL encSec (versS (d.ca.take j) (d.ca.getD j (0, zSec)).1 ++ [(d.ca.getD j (0, zSec)).2])) w true))])
          (by omega) (by omega) (by omega) (by simp only [tabB, lookB]; rw [if_neg (by omega), if_pos trivial]) (fun q hq1 hq2 => by
            have h1 := hM'.out.rng q hq1
            have h2 : idf q ≠ m := fun e => hq2 (hinj.out q hq1 e)
            simp only [tabB, lookB]; rw [if_neg h2, if_neg (by omega)])
        refine ⟨d.ca.length - (j + 1), by omega, _, _, ⟨j + 1, N + 1000, _, _, ks', idf', rfl, by omega, by omega, by rw [htk.out]; exact hM'', tabB_free hG (by omega) (by simp only [keysLt, and_true] <;> omega), rfl, rfl⟩, ?_⟩
        rw [tabB_tabB]
        simp only [List.cons_append, List.nil_append]
        exact zholdsB
      · have hl := hM.miss hq
        have h0 : versS (d.ca.take j) (d.ca.getD j (0, zSec)).1 = [] := by
          have := mt (hM.mem (d.ca.getD j (0, zSec)).1).2 hq
          simpa using this
        have hM' : Lat (MapV G N (d.ca.take j) es ks idf) := ⟨hM⟩
        clear hM
        refine zgo2 ?_
        have hx1 := hx.out
        refine zgo2 ?_
        obtain ⟨ks', idf', hM''⟩ := hM'.out.put (d.ca.getD j (0, zSec)) (m := N + 1 + 1 + 10) (N' := N + 1000) (w := true) (G' := tabB G [(N + 1 + 1 + 10, some (.cells 96 8 (encL encSec [(d.ca.getD j (0, zSec)).2]) true true))])
          (by omega) (by omega) (by omega) (by rw [h0]; simp only [tabB, lookB]; rw [if_pos trivial]; rfl) (fun q hq1 hq2 => by
            have h1 := hM'.out.rng q hq1
            simp only [tabB, lookB]; rw [if_neg (by omega)])
        rw [h0] at hM''
        simp only [List.length_nil, Nat.zero_add] at hM''
        refine ⟨d.ca.length - (j + 1), by omega, _, _, ⟨j + 1, N + 1000, _, _, ks', idf', rfl, by omega, by omega, by rw [htk.out]; exact hM'', tabB_free hG (by omega) (by simp only [keysLt, and_true] <;> omega), rfl, rfl⟩, ?_⟩
        rw [tabB_tabB]
        simp only [List.cons_append, List.nil_append]
        exact zholdsB
    · obtain rfl : j = d.ca.length := by omega
      rw [List.take_length] at hM
      have hfst := hM.fst
      have hesl : es.length = ks.length := by rw [hM.es]; simp
      have hkrng : ∀ q ∈ ks, 0 ≤ q ∧ q < d.st.length := fun q hq => keys_rng hin hM.nodup hM.mem hq
      have hkl : ks.length ≤ d.st.length := keys_len hin hM.nodup hM.mem
      have cS := cloneS_o d.st hne (by omega)
      have hM' : Lat (MapV G N d.ca es ks idf) := ⟨hM⟩
      clear hgc hM
      refine zgo2 ?_
      refine zin Tryz.func136 Tryz.ntmps136 ?_
      refine zgo2 ?_
      refine w_callA (args := [.fn (.func 166) [] [.ptr (N + 3) 0 0]]) (n := 135) rfl rfl ?hc (sorted_a (bid := N + 3) (id := 2) (w := true) (a := false) (es := es) (ks := ks) ?ha ?hb hfst ?hd (by omega)) ?hrest
      case hc => simp (maxSteps := 2000000) (disch := omega) only [go_sem, *] <;> rfl
      case ha => simp (maxSteps := 2000000) (disch := omega) only [go_sem, *] <;> rfl
      case hb => simp (maxSteps := 2000000) (disch := omega) only [go_sem, *] <;> rfl
      case hd => exact fun q hq => by have := hkrng q hq; unfold InI; omega
      case hrest =>
        rintro r H' ⟨rfl, rfl⟩
        have hskl := sort_len ks
        have hskm : Lat (∀ k, k < (ks.mergeSort leI).length → (ks.mergeSort leI).getD k 0 ∈ ks) := ⟨fun k h => sort_mem (ks := ks) h⟩
        have hall : Lat (_ = _) := ⟨crashL_all c hin hM'.out.nodup hM'.out.mem⟩
        have hkr2 : Lat (∀ q ∈ ks, 0 ≤ q ∧ q < (d.st.length : Int)) := ⟨hkrng⟩
        clear hkrng hin
        generalize ks.mergeSort leI = sk at hskl hskm hall
        have hsk3 : sk.length ≤ 4096 := by omega
        have hskl' := Lat.mk hskl
        clear hskl
        have hgi := gI sk
        have hgs := gS
        refine zgo2 ?_
        refine w_loop (HeadCr d c sk G N es) sk.length ?_ ?_
        · refine ⟨_, _, ⟨0, N + 1000, by omega, by omega, by omega, rfl, rfl⟩, ?_⟩
          exact zholdsB
        · rintro n env H ⟨k, N2, rfl, hk2, hN2, rfl, rfl⟩
          have hlen := crashL_len d.ca d.st c sk k hk2
          have hch := crashL_ch d.ca d.st c sk k hk2
          by_cases hlt : k < sk.length
          · have hq := hskm.out k hlt
            have hqr := hkr2.out _ hq
            have hl := hM'.out.hit hq
            obtain ⟨w, hm⟩ := hM'.out.get _ hq
            have hr := hM'.out.rng _ hq
            have hvn := (hM'.out.mem _).1 hq
            have hvb := vers_len d.ca (sk.getD k 0)
            have hsu := crashL_succ (ca := d.ca) (st := d.st) (c := c) hlt
            have hqn : (((sk.getD k 0).toNat : Nat) : Int) = sk.getD k 0 := by omega
            unfold crashStep at hsu
            rw [hqn] at hsu
            have hv0 : ¬ (versS d.ca (sk.getD k 0)).length = 0 := fun h => hvn (List.eq_nil_of_length_eq_zero h)
            rw [if_neg hv0] at hsu
            generalize idf (sk.getD k 0) = m at hl hm hr
            generalize versS d.ca (sk.getD k 0) = V at *
            have hdr := decN_rng (crashL d.ca d.st c sk k).2 (n := (V.length : Int) + 1) (by omega)
            have hdl := decN_len (crashL d.ca d.st c sk k).2 ((V.length : Int) + 1)
            have hd := decide_p (crashL d.ca d.st c sk k).2 ((V.length : Int) + 1) (by omega) (by omega) (by omega)
            generalize decN (crashL d.ca d.st c sk k).2 ((V.length : Int) + 1) = q at hdr hdl hd hsu
            have hgk := hgi k hlt
            clear hgi hv0 hvn hq hqn
            obtain ⟨q1, q2⟩ := q
            simp only [] at hdr hdl hd hsu
            obtain ⟨S, hS⟩ : ∃ S : Nat, sk.getD k 0 = (S : Int) := Int.eq_ofNat_of_zero_le hqr.1
            rw [hS] at hgk hsu hqr hl
            rw [Int.toNat_natCast] at hsu
            have hS' := Lat.mk hS
            clear hS
            by_cases hn : 0 < q1
            · rw [if_pos hn] at hsu
              obtain ⟨Q, rfl⟩ : ∃ Q : Nat, q1 = (Q : Int) + 1 := ⟨(q1 - 1).toNat, by omega⟩
              have e1 : (Q : Int) + 1 - 1 = (Q : Int) := by omega
              rw [e1, Int.toNat_natCast] at hsu
              have hsu' := Lat.mk hsu
              have w1 : IntKind.i64.wrap ((Q : Int) + 1 - 1) = (Q : Int) := by rw [e1]; exact IntWalk.i64_in _ (by omega)
              have hgv := hgs V Q (by omega)
              have hSl : S < (crashL d.ca d.st c sk k).1.length := by omega
              have hgw := hgs _ S hSl
              clear hsu hgs
              refine zgo2 ?_
              refine ⟨sk.length - (k + 1), by omega, _, _, ⟨k + 1, N2 + 1000, rfl, by omega, by omega, rfl, rfl⟩, ?_⟩
              rw [hsu'.out]
              exact zholdsB
            · rw [if_neg hn] at hsu
              have hsu' := Lat.mk hsu
              clear hsu hgs
              refine zgo2 ?_
              refine ⟨sk.length - (k + 1), by omega, _, _, ⟨k + 1, N2 + 1000, rfl, by omega, by omega, rfl, rfl⟩, ?_⟩
              rw [hsu'.out]
              exact zholdsB
          · obtain rfl : k = sk.length := by omega
            have htk : (crashL d.ca d.st c sk sk.length).1.take d.st.length = (crashL d.ca d.st c sk sk.length).1 := List.take_of_length_le (by omega)
            have cI := cloneI_p (crashL d.ca d.st c sk sk.length).2 (by omega)
            rw [← hall.out]
            clear hgi hgs
            have hem : encL encCa [] = [] := rfl
            refine zgo2 ?_
            exact zfin
end Go.Proofs.YtkghiceeegindaaGreatDoor
namespace Go.Proofs.YtkghiceeegindaaGreatDoor
open Go.Proofs Go.AL
set_option maxRecDepth 100000
set_option maxHeartbeats 1000000
set_option linter.unusedVariables false
set_option linter.unusedSimpArgs false
attribute [local irreducible] endA AW aops thenA blockA hold
theorem crash_0 (c : List Int) (hL : c.length ≤ 1000000) : PC 97 [.agg (encD ⟨[], []⟩), .snap (encL intRow c)] (.tup [.agg (encD (crashS ⟨[], []⟩ c).1), .snap (encL intRow (crashS ⟨[], []⟩ c).2)]) := by
  refine pstart Tryz.func97 Tryz.ntmps97 (by simp only [go_sem, encD]) ?_
  have hS : crashS ⟨[], []⟩ c = (⟨[], []⟩, c) := rfl
  rw [hS]
  have c1 := dcheck_p ⟨[], []⟩ (Nat.zero_le _) (Nat.zero_le _)
  have h0 : dskE ⟨[], []⟩ = 0 := rfl
  rw [h0] at c1
  have e1 : encL encSec [] = [] := rfl
  have e2 : encL encCa [] = [] := rfl
  have hbs : (IntKind.i64 == IntKind.i64) = true := rfl
  unfold encD at *
  have cS := cloneS_p [] (Nat.zero_le _)
  simp only [e1, e2] at *
  refine zgo2 ?_
  refine w_rounds 1 ?_
  refine zgo2 ?_
  refine zin Tryz.func136 Tryz.ntmps136 ?_
  refine zgo2 ?_
  refine w_callA (args := [.fn (.func 166) [] [.ptr 5 0 0]]) (n := 135) rfl rfl ?hc (sorted_a (bid := 5) (id := 2) (w := true) (a := false) (es := []) (ks := []) ?ha ?hb rfl (fun q hq => by cases hq) (by simp)) ?hrest
  case hc => simp (maxSteps := 2000000) (disch := omega) only [go_sem, *] <;> rfl
  case ha => simp (maxSteps := 2000000) (disch := omega) only [go_sem, *] <;> rfl
  case hb => simp (maxSteps := 2000000) (disch := omega) only [go_sem, *] <;> rfl
  case hrest =>
    rintro r H' ⟨rfl, rfl⟩
    have h9 : ([] : List Int).mergeSort leI = [] := by simp
    rw [h9]
    have cI := cloneI_p c (by omega)
    have e3 : encL intRow [] = [] := rfl
    refine zgo2 ?_
    refine w_rounds 1 ?_
    refine zgo2 ?_
    exact zfin
theorem dcrash_p (d : Dsk) (c : List Int) (hL : c.length ≤ 1000000) (h1 : d.st.length ≤ 1000000) (hC : d.ca.length ≤ 900000) : PC 97 [.agg (encD d), .snap (encL intRow c)] (.tup [.agg (encD (crashS d c).1), .snap (encL intRow (crashS d c).2)]) := by
  by_cases hc : dskE d = 0
  · by_cases hs : d.st = []
    · have hca : d.ca = [] := by
        have h := (inAll_of hc).1
        rw [hs] at h
        cases hd : d.ca with
        | nil => rfl
        | cons x l => have := h x (by rw [hd]; simp); simp at this; omega
      obtain ⟨st, ca⟩ := d
      simp only at hs hca
      subst hca hs
      exact crash_0 c hL
    · exact crash_1 d c hs hL hC hc
  · exact crash_e d c hL h1 (by omega) hc
end Go.Proofs.YtkghiceeegindaaGreatDoor
namespace Go.Proofs.YtkghiceeegindaaGreatDoor
open Go.Proofs Go.AL
set_option maxRecDepth 100000
set_option maxHeartbeats 1000000
set_option linter.unusedVariables false
set_option linter.unusedSimpArgs false
attribute [local irreducible] endA AW aops thenA blockA hold
def interE (d : Dsk) (ops : List Opr) (a : Int) (c : List Int) : Dsk × List Int × Int :=
  if dskE d = 0 then
    if a < 0 ∨ (ops.length : Int) < a then (dsk0, [], 2)
    else if (runE d (ops.take a.toNat)).2.2 = 0 then ((crashS (runE d (ops.take a.toNat)).1 c).1, (crashS (runE d (ops.take a.toNat)).1 c).2, 0)
    else (dsk0, [], (runE d (ops.take a.toNat)).2.2)
  else (dsk0, [], dskE d)
theorem inter_p (d : Dsk) (ops : List Opr) (a : Int) (c : List Int) (hL : c.length ≤ 1000000) (h1 : d.st.length ≤ 1000000) (ho : ops.length ≤ 1000000) (h2 : d.ca.length + ops.length * 4096 ≤ 900000) (h3 : (runE d (ops.take a.toNat)).1.st.length ≤ 1000000 ∧ (runE d (ops.take a.toNat)).1.ca.length ≤ 900000) : PC 42 [.agg (encD d), .snap (encL opRow ops), zV a, .snap (encL intRow c)] (.tup [.agg (encD (interE d ops a c).1), .snap (encL intRow (interE d ops a c).2.1), zV (interE d ops a c).2.2]) := by
  refine pstart Tryz.func42 Tryz.ntmps42 (by simp only [go_sem, encD]) ?_
  have c1 := dcheck_p d h1 (by omega)
  obtain ⟨M, hM⟩ : ∃ M, interE d ops a c = M := ⟨_, rfl⟩
  rw [hM]
  unfold interE at hM
  by_cases g1 : dskE d = 0
  · rw [if_pos g1] at hM
    rw [g1] at c1
    clear g1
    by_cases g2 : a < 0
    · rw [if_pos (by omega)] at hM
      subst hM
      unfold dsk0 encD at *
      simp only [] at *
      refine zgo2 ?_
      exact zfin
    by_cases g3 : (ops.length : Int) < a
    · rw [if_pos (by omega)] at hM
      subst hM
      unfold dsk0 encD at *
      simp only [] at *
      refine zgo2 ?_
      exact zfin
    rw [if_neg (by omega)] at hM
    obtain ⟨A, rfl⟩ := Int.eq_ofNat_of_zero_le (by omega : 0 ≤ a)
    have hA : A ≤ ops.length := by omega
    rw [Int.toNat_natCast] at hM
    have hlt : (ops.take A).length ≤ ops.length := by rw [List.length_take]; omega
    have c2 := drun_p d (ops.take A) h1 (by omega)
    rw [Int.toNat_natCast] at h3
    obtain ⟨h4, h5⟩ := h3
    have et : (encL opRow ops).take A = encL opRow (ops.take A) := by unfold encL; rw [List.map_take]
    generalize runE d (ops.take A) = R at *
    obtain ⟨x, n, e⟩ := R
    simp only [] at *
    have c3 := dcrash_p x c hL h4 h5
    generalize crashS x c = Y at *
    clear hlt
    by_cases g4 : e = 0
    · rw [if_pos g4] at hM
      subst hM
      have g5 : (e == 0) = true := by simp [g4]
      have g6 := Lat.mk g4
      rw [g4] at c2
      clear g4 g5
      unfold encD at *
      refine zgo2 ?_
      exact zfin
    · rw [if_neg g4] at hM
      subst hM
      unfold dsk0 encD at *
      simp only [] at *
      refine zgo2 ?_
      exact zfin
  · rw [if_neg g1] at hM
    subst hM
    generalize dskE d = e at *
    unfold dsk0 encD at *
    simp only [] at *
    refine zgo2 ?_
    exact zfin
def newE2 (n : Int) : Dsk × Int := if n < 0 ∨ 4096 < n then (dsk0, 2) else (⟨zeros n, []⟩, 0)
theorem dnew_p (n : Int) : PC 46 [zV n] (.tup [.agg (encD (newE2 n).1), zV (newE2 n).2]) := by
  refine pstart Tryz.func46 Tryz.ntmps46 (by simp only [go_sem, encD]) ?_
  obtain ⟨M, hM⟩ : ∃ M, newE2 n = M := ⟨_, rfl⟩
  rw [hM]
  unfold newE2 at hM
  by_cases g2 : n < 0
  · rw [if_pos (by omega)] at hM
    subst hM
    unfold dsk0 encD at *
    simp only [] at *
    refine zgo2 ?_
    exact zfin
  by_cases g3 : 4096 < n
  · rw [if_pos (by omega)] at hM
    subst hM
    unfold dsk0 encD at *
    simp only [] at *
    refine zgo2 ?_
    exact zfin
  rw [if_neg (by omega)] at hM
  subst hM
  obtain ⟨A, rfl⟩ := Int.eq_ofNat_of_zero_le (by omega : 0 ≤ n)
  have hA : A ≤ 4096 := by omega
  have hAl : (List.replicate A zSec).length = A := List.length_replicate ..
  have hAt : (List.replicate A zSec).take A = List.replicate A zSec := List.take_of_length_le (by simp)
  have e2 : encL encCa [] = [] := rfl
  unfold zeros encD at *
  rw [Int.toNat_natCast]
  simp only [e2] at *
  refine zgo2 ?_
  exact zfin
end Go.Proofs.YtkghiceeegindaaGreatDoor
namespace Go.Proofs.YtkghiceeegindaaGreatDoor
open Go.Proofs Go.AL
set_option maxRecDepth 100000
set_option maxHeartbeats 1000000
set_option linter.unusedVariables false
set_option linter.unusedSimpArgs false
attribute [local irreducible] endA AW aops thenA blockA hold
theorem guardSec : Tryz.prog.eqGuardType Tryz.prog.depth 96 = false := by kernel_rfl
theorem eqA_sec (d : Nat) (s t : Sec) : eqA Tryz.prog (d + 2) 96 (.agg (encSec s)) (.agg (encSec t)) = some (decide (s = t)) := by
  have h5 : Tryz.prog.underlying 5 = some (.int .u8) := Tryz.underlying5
  simp only [eqA, Tryz.underlying96, szT5, eqIs, partA, isAggT5, encSec, List.range_succ, List.range_zero, List.nil_append, List.cons_append, Nat.zero_mul, Nat.mul_one, List.getElem?_cons_zero, List.getElem?_cons_succ, h5, if_true]
  obtain ⟨⟨a, b, c, e⟩, ⟨f, g, h, i⟩⟩ := s
  obtain ⟨⟨a', b', c', e'⟩, ⟨f', g', h', i'⟩⟩ := t
  simp only [Option.some.injEq, Prod.mk.injEq]
  rw [Bool.eq_iff_iff]
  simp only [Bool.and_eq_true, beq_iff_eq, decide_eq_true_eq, Bool.and_true, and_assoc]
@[go_sem] theorem eqs_sec (s : Sec) : eqTop Tryz.prog 96 (.agg (encSec s)) (.agg (encSec s)) = some true := by
  unfold eqTop
  rw [guardSec, if_neg (by simp)]
  exact (eqA_sec 9998 s s).trans (by simp)
theorem sameInts_p (l : List Int) (hl : l.length ≤ 1000000) : PC 65 [.snap (encL intRow l), .snap (encL intRow l)] (bV true) := by
  refine pstart Tryz.func65 Tryz.ntmps65 (.c _) ?_
  have hg := gI l
  refine zgo2 ?_
  refine zfor1 l.length 0 [] (fun k => [(5, true, zV k), (0, true, .snap (encL intRow l)), (1, true, .snap (encL intRow l))]) zholds (fun k m hlt hm => ?_) (fun m hm => ?_)
  · have hgk := hg k hlt
    clear hg
    refine zgo2 ?_
    refine ⟨m + 200, by omega, zholds⟩
  · clear hg
    refine zgo2 ?_
    exact zfin
theorem eqSl_p (l : List Sec) (hl : l.length ≤ 1000000) : PC 96 [.snap (encL encSec l), .snap (encL encSec l)] (bV true) := by
  refine pstart Tryz.func96 Tryz.ntmps96 (.c _) ?_
  have hg := gS l
  refine zgo2 ?_
  refine zfor1 l.length 0 [] (fun k => [(13, true, zV k), (12, true, zV l.length), (0, true, .snap (encL encSec l)), (1, true, .snap (encL encSec l))]) zholds (fun k m hlt hm => ?_) (fun m hm => ?_)
  · have hgk := hg k hlt
    clear hg
    refine zgo2 ?_
    refine ⟨m + 200, by omega, zholds⟩
  · clear hg
    refine zgo2 ?_
    exact zfin
theorem gVol (l : List (List Sec)) (k : Nat) (h : k < l.length) : (encL volRow l)[k]? = some (volRow (l.getD k [])) := encL_get [] h
theorem eqF_p (l : List (List Sec)) (hl : l.length ≤ 1000000) (hs : ∀ v ∈ l, v.length ≤ 1000000) : PC 95 [.snap (encL volRow l), .snap (encL volRow l), .fn (.func 96) [] []] (bV true) := by
  refine pstart Tryz.func95 Tryz.ntmps95 (.c _) ?_
  have hg := gVol l
  refine zgo2 ?_
  refine zfor1 l.length 0 [] (fun k => [(17, true, zV k), (16, true, zV l.length), (15, true, .snap (encL volRow l)), (1, true, .snap (encL volRow l)), (2, true, .fn (.func 96) [] [])]) zholds (fun k m hlt hm => ?_) (fun m hm => ?_)
  · have hgk := hg k hlt
    clear hg
    have hm1 : l.getD k [] ∈ l := getD_mem' [] hlt
    have c1 := eqSl_p (l.getD k []) (hs _ hm1)
    have hgk2 : (encL volRow l)[k]? = some [.snap (encL encSec (l.getD k []))] := hgk
    clear hgk
    refine zgo2 ?_
    refine ⟨m + 200, by omega, zholds⟩
  · clear hg
    refine zgo2 ?_
    exact zfin
theorem imsame_p (l : List (List Sec)) (hl : l.length ≤ 1000000) (hs : ∀ v ∈ l, v.length ≤ 1000000) : PC 40 [.snap (encL volRow l), .snap (encL volRow l)] (bV true) := by
  refine pstart Tryz.func40 Tryz.ntmps40 (.c _) ?_
  have c1 := eqF_p l hl hs
  refine zgo2 ?_
  exact zfin
theorem same35_p (r : Rep) (hl : r.sizes.length ≤ 1000000) : PC 16 [.agg (encR r), .agg (encR r)] (bV true) := by
  refine pstart Tryz.func16 Tryz.ntmps16 (.c _) ?_
  have c1 := sameInts_p r.sizes hl
  obtain ⟨sz, sp, dt, ep, ap, ag⟩ := r
  unfold encR at *
  refine zgo2 ?_
  exact zfin
end Go.Proofs.YtkghiceeegindaaGreatDoor
namespace Go.Proofs.YtkghiceeegindaaGreatDoor
open Go.Proofs Go.AL
set_option maxRecDepth 100000
set_option maxHeartbeats 1000000
set_option linter.unusedVariables false
set_option linter.unusedSimpArgs false
attribute [local irreducible] endA AW aops thenA blockA hold
def bigW (w : Wrt) : Bool := decide (24 < w.2.2.length)
def fewW (l : List Wrt) : Bool := !((l.take 60).any bigW) && decide (l.length ≤ 40)
theorem fewW_bad {l : List Wrt} {k : Nat} (h1 : k < l.length) (h2 : k < 60) (h : bigW (l.getD k zWr) = true) : fewW l = false := by
  have hm : l.getD k zWr ∈ l.take 60 := by
    rw [List.getD_eq_getElem?_getD, List.getElem?_eq_getElem h1, Option.getD_some]
    exact List.mem_take_iff_getElem.2 ⟨k, by omega, rfl⟩
  have : (l.take 60).any bigW = true := List.any_eq_true.2 ⟨_, hm, h⟩
  unfold fewW
  rw [this]
  rfl
theorem fewW_ok {l : List Wrt} (h : ∀ i, i < l.length → i < 60 → bigW (l.getD i zWr) = false) : fewW l = decide (l.length ≤ 40) := by
  have : (l.take 60).any bigW = false := by
    rw [List.any_eq_false]
    intro x hx
    obtain ⟨i, hi, rfl⟩ := List.mem_take_iff_getElem.1 hx
    have := h i (by omega) (by omega)
    rw [List.getD_eq_getElem?_getD, List.getElem?_eq_getElem (by omega), Option.getD_some] at this
    simp [this]
  unfold fewW
  rw [this]
  rfl
theorem fewW_p (l : List Wrt) (hl : l.length ≤ 9223372036854775807) (hs : ∀ w ∈ l, w.2.2.length ≤ 9223372036854775807) : PC 67 [.snap (encL opRow l)] (bV (fewW l)) := by
  refine pstart Tryz.func67 Tryz.ntmps67 (.c _) ?_
  obtain ⟨M, hM⟩ : ∃ M, fewW l = M := ⟨_, rfl⟩
  have hbad := fun k h1 h2 => fewW_bad (l := l) (k := k) h1 h2
  have hok := fewW_ok (l := l)
  rw [hM] at hok hbad ⊢
  clear hM
  have hbad' := Lat.mk hbad
  have hok' := Lat.mk hok
  have hs' := Lat.mk hs
  clear hbad hok hs
  refine zgo2 ?_
  refine zfor (α := Unit) (min l.length 60) (fun k _ => [(3, true, zV k), (0, true, .snap (encL opRow l))]) (fun _ _ => []) (fun k m _ => ∀ i, i < k → bigW (l.getD i zWr) = false) ⟨0, (), fun i hi => by omega, zholds⟩ (fun k m _ hk hR => ?_) (fun m _ hR => ?_)
  · have hR' := Lat.mk hR
    have hk2 : k < l.length := by omega
    have hk3 : k < 60 := by omega
    have hgk : (encL opRow l)[k]? = some [zV (l.getD k zWr).1, zV (l.getD k zWr).2.1, .snap (encL encSec (l.getD k zWr).2.2)] := gO l k hk2
    have hsk := hs'.out _ (getD_mem' zWr hk2)
    clear hR hk
    by_cases g1 : 24 < (l.getD k zWr).2.2.length
    · obtain rfl := hbad'.out k hk2 hk3 (by unfold bigW; rw [decide_eq_true g1])
      refine zgo2 ?_
      exact zfin
    · have h9 : bigW (l.getD k zWr) = false := by unfold bigW; rw [decide_eq_false g1]
      have h9' := Lat.mk h9
      clear h9
      refine zgo2 ?_
      refine ⟨m + 60, (), fun i hi => ?_, zholds⟩
      by_cases hik : i = k
      · subst hik; exact h9'.out
      · exact hR'.out i (by omega)
  · have hok := hok'.out fun i h1 h2 => hR i (by omega)
    clear hR
    by_cases g1 : l.length ≤ 40
    · obtain rfl : M = true := by rw [hok]; simp [g1]
      have g4 : min l.length 60 = l.length := by omega
      rw [g4]
      clear g4 hok
      refine zgo2 ?_
      exact zfin
    · obtain rfl : M = false := by rw [hok]; simp [g1]
      by_cases g2 : l.length ≤ 60
      · have g4 : min l.length 60 = l.length := by omega
        rw [g4]
        clear g4 hok
        refine zgo2 ?_
        exact zfin
      · have g4 : min l.length 60 = 60 := by omega
        rw [g4]
        clear g4 hok
        refine zgo2 ?_
        exact zfin
theorem step_p (d : Dsk) (ops : List Opr) (h1 : d.st.length ≤ 1000000) (h2 : d.ca.length + ops.length * 4096 ≤ 900000) : PC 38 [.agg (encD d), .snap (encL opRow ops)] (.agg (encD (runE d ops).1)) := by
  refine pstart Tryz.func38 Tryz.ntmps38 (by simp only [go_sem, encD]) ?_
  have c1 := drun_p d ops h1 h2
  generalize runE d ops = R at *
  obtain ⟨x, n, e⟩ := R
  unfold encD at *
  simp only [] at *
  refine zgo2 ?_
  exact zfin
end Go.Proofs.YtkghiceeegindaaGreatDoor
namespace Go.Proofs.YtkghiceeegindaaGreatDoor
open Go.Proofs Go.AL
def byteB (x : Int) : Bool := decide (0 ≤ x) && decide (x < 256)
theorem byteB_ok {x : Int} (h : byteB x = true) : ByteOK x := by
  unfold byteB at h
  rw [Bool.and_eq_true] at h
  exact ⟨of_decide_eq_true h.1, of_decide_eq_true h.2⟩
def secB (s : Sec) : Bool := byteB s.1.1 && byteB s.1.2.1 && byteB s.1.2.2.1 && byteB s.1.2.2.2 && (d4 s).all byteB
theorem secB_ok {s : Sec} (h : secB s = true) : SecOK s := by
  unfold secB at h
  simp only [Bool.and_eq_true, List.all_eq_true] at h
  obtain ⟨⟨⟨⟨a, b⟩, c⟩, d⟩, e⟩ := h
  exact ⟨⟨byteB_ok a, byteB_ok b, byteB_ok c, byteB_ok d⟩, fun x hx => byteB_ok (e x hx)⟩
def dskB (d : Dsk) : Bool := d.st.all secB && d.ca.all fun c => secB c.2
theorem dskB_ok {d : Dsk} (h : dskB d = true) : DskOK d := by
  unfold dskB at h
  simp only [Bool.and_eq_true, List.all_eq_true] at h
  exact ⟨fun s hs => secB_ok (h.1 s hs), fun c hc => secB_ok (h.2 c hc)⟩
def s1 : Sec := ((1, 0, 0, 0), (0, 0, 0, 0))
def s2 : Sec := ((2, 0, 0, 0), (0, 0, 0, 0))
def aD : Dsk := (newE2 20).1
def aF := fmtE [4] 0 16 3
def aX : Dsk := (runE aD aF.2.1).1
def aC : Cyc := ⟨0, 1, 0, [], [(0, 1, [s1, s2])]⟩
def aA := applyE aX aF.1 aC
def aI := interE aX aA.2.1 3 [1, 0]
def aL := loadE aI.1 [4] 0 16
def aM := imgE aI.1 aL.1
def aK := copyE aL.1 aC
def aY : Dsk := (runE aI.1 aK.1).1
def aE := endE aY aL.1
def aZ : Dsk := (runE aY aE.2.1).1
def aN := imgE aZ aE.1
def aO : Opr := aF.2.1.getD 0 zOp
def aP : Opr := aA.2.1.getD 2 zOp
theorem fN : (newE2 20).2 = 0 := by kernel_rfl
theorem fF1 : aF.2.2 = 0 := by kernel_rfl
theorem fF2 : aF.2.1.length = 6 := by kernel_rfl
theorem fO1 : aO.2.1 = 16 := by kernel_rfl
theorem fO2 : aO.2.2.length = 4 := by kernel_rfl
theorem fA1 : aA.2.2 = 0 := by kernel_rfl
theorem fA2 : aA.2.1.length = 6 := by kernel_rfl
theorem fP1 : aP.2.1 = 17 := by kernel_rfl
theorem fA3 : aA.1.applied = 1 := by kernel_rfl
theorem fA4 : aA.1.applying = 0 := by kernel_rfl
theorem fI : aI.2.2 = 0 := by kernel_rfl
theorem fL1 : aL.2 = 0 := by kernel_rfl
theorem fL2 : aL.1.applied = 0 := by kernel_rfl
theorem fL3 : aL.1.applying = 1 := by kernel_rfl
theorem fL4 : aL.1.epoch = 3 := by kernel_rfl
theorem fM : aM.2 = 12 := by kernel_rfl
theorem fK : aK.2 = 0 := by kernel_rfl
theorem fE : aE.2.2 = 0 := by kernel_rfl
theorem fN2 : aN.2 = 0 := by kernel_rfl
theorem fN1 : aN.1 = [[zSec, s1, s2, zSec]] := by kernel_rfl
theorem dX : dskB aX = true := by kernel_rfl
theorem dI : dskB aI.1 = true := by kernel_rfl
theorem dY : dskB aY = true := by kernel_rfl
def lenB (d : Dsk) : Bool := decide (d.st.length ≤ 1000) && decide (d.ca.length ≤ 1000)
theorem lenB_ok {d : Dsk} (h : lenB d = true) : d.st.length ≤ 1000 ∧ d.ca.length ≤ 1000 := by
  unfold lenB at h
  rw [Bool.and_eq_true] at h
  exact ⟨of_decide_eq_true h.1, of_decide_eq_true h.2⟩
theorem lD : lenB aD = true := by kernel_rfl
theorem lX : lenB aX = true := by kernel_rfl
theorem lI : lenB aI.1 = true := by kernel_rfl
theorem lY : lenB aY = true := by kernel_rfl
theorem lZ : lenB aZ = true := by kernel_rfl
theorem lR : lenB (runE aX (aA.2.1.take (3 : Int).toNat)).1 = true := by kernel_rfl
theorem lF : aF.1.sizes.length = 1 := by kernel_rfl
theorem lL : aL.1.sizes.length = 1 := by kernel_rfl
theorem lE : aE.1.sizes.length = 1 := by kernel_rfl
theorem lK : aK.1.length = 2 := by kernel_rfl
theorem lE2 : aE.2.1.length = 2 := by kernel_rfl
end Go.Proofs.YtkghiceeegindaaGreatDoor
namespace Go.Proofs.YtkghiceeegindaaGreatDoor
open Go.Proofs Go.AL
set_option maxRecDepth 100000
set_option maxHeartbeats 2000000
set_option linter.unusedVariables false
set_option linter.unusedSimpArgs false
attribute [local irreducible] endA AW aops thenA blockA hold
theorem k_new : PC 46 [zV 20] (.tup [.agg (encD aD), zV 0]) := by
  have h := dnew_p 20
  rw [fN] at h
  exact h
theorem k_fmt : PC 12 [.snap [[zV 4]], zV 0, zV 16, zV 3] (.tup [.agg (encR aF.1), .snap (encL opRow aF.2.1), zV 0]) := by
  have h := format_p [4] 0 16 3 (by decide)
  rw [show (fmtE [4] 0 16 3).2.2 = 0 from fF1] at h
  exact h
theorem k_step : PC 38 [.agg (encD aD), .snap (encL opRow aF.2.1)] (.agg (encD aX)) :=
  step_p aD aF.2.1 (by have := lenB_ok lD; omega) (by have := lenB_ok lD; have := fF2; omega)
theorem ok_C : CycLen aC := ⟨by decide, by decide, by decide⟩
theorem ok_W : ∀ w ∈ aC.writes, ∀ s ∈ w.2.2, SecOK s := by
  intro w hw s hs
  have : (aC.writes.all fun w => w.2.2.all secB) = true := by kernel_rfl
  rw [List.all_eq_true] at this
  have := this w hw
  rw [List.all_eq_true] at this
  exact secB_ok (this s hs)
abbrev nilS : AV := .c (.slice none 0 0)
abbrev cycV : AV := .agg [zV 0, zV 1, zV 0, nilS, .snap [[zV 0, zV 1, .snap [[uV 1, uV 0, uV 0, uV 0, uV 0, uV 0, uV 0, uV 0], [uV 2, uV 0, uV 0, uV 0, uV 0, uV 0, uV 0, uV 0]]]]]
theorem wk_cyc : Wk cycV (.agg (encC aC)) := by
  refine wk_agg ?_
  refine wks_cons (.refl _) (wks_cons (.refl _) (wks_cons (.refl _) (wks_cons .nil (wks_cons (.refl _) wks_nil))))
theorem k_app : PC 21 [.agg (encD aX), .agg (encR aF.1), cycV] (.tup [.agg (encR aA.1), .snap (encL opRow aA.2.1), zV 0]) := by
  have h := apply_p aX aF.1 aC (by rw [lF]; decide) ok_C (by have := lenB_ok lX; omega) (by have := lenB_ok lX; have h : aC.writes.length = 1 := rfl; omega) (dskB_ok dX) ok_W
  unfold ansV at h
  rw [show (applyE aX aF.1 aC).2.2 = 0 from fA1] at h
  exact h.less (wks_cons (.refl _) (wks_cons (.refl _) (wks_cons wk_cyc wks_nil)))
theorem k_int : PC 42 [.agg (encD aX), .snap (encL opRow aA.2.1), zV 3, .snap [[zV 1], [zV 0]]] (.tup [.agg (encD aI.1), .snap (encL intRow aI.2.1), zV 0]) := by
  have h := inter_p aX aA.2.1 3 [1, 0] (by decide) (by have := lenB_ok lX; omega) (by rw [fA2]; decide) (by have := lenB_ok lX; have := fA2; omega) (by have := lenB_ok lR; omega)
  rw [show (interE aX aA.2.1 3 [1, 0]).2.2 = 0 from fI] at h
  exact h
theorem k_load : PC 14 [.agg (encD aI.1), .snap [[zV 4]], zV 0, zV 16] (.tup [.agg (encR aL.1), zV 0]) := by
  have h := aload_p aI.1 [4] 0 16 (by decide) (by have := lenB_ok lI; omega) (by have := lenB_ok lI; omega) (dskB_ok dI).new
  rw [show (loadE aI.1 [4] 0 16).2 = 0 from fL1] at h
  exact h
theorem k_im1 : PC 23 [.agg (encD aI.1), .agg (encR aL.1)] (.tup [.snap (encL volRow aM.1), zV 12]) := by
  have h := image_p aI.1 aL.1 (by rw [lL]; decide) (by have := lenB_ok lI; omega) (by have := lenB_ok lI; omega)
  rw [show (imgE aI.1 aL.1).2 = 12 from fM] at h
  exact h
theorem k_copy : PC 19 [.agg (encR aL.1), cycV] (.tup [.snap (encL opRow aK.1), zV 0]) := by
  have h := copy_p aL.1 aC (by rw [lL]; decide) ok_C
  rw [show (copyE aL.1 aC).2 = 0 from fK] at h
  exact h.less (wks_cons (.refl _) (wks_cons wk_cyc wks_nil))
theorem k_step2 : PC 38 [.agg (encD aI.1), .snap (encL opRow aK.1)] (.agg (encD aY)) :=
  step_p aI.1 aK.1 (by have := lenB_ok lI; omega) (by have := lenB_ok lI; have := lK; omega)
theorem k_end : PC 30 [.agg (encD aY), .agg (encR aL.1)] (.tup [.agg (encR aE.1), .snap (encL opRow aE.2.1), zV 0]) := by
  have h := end_pp aY aL.1 (by rw [lL]; decide) (by have := lenB_ok lY; omega) (by have := lenB_ok lY; omega) (dskB_ok dY).new
  unfold ansV at h
  rw [show (endE aY aL.1).2.2 = 0 from fE] at h
  exact h
theorem k_step3 : PC 38 [.agg (encD aY), .snap (encL opRow aE.2.1)] (.agg (encD aZ)) :=
  step_p aY aE.2.1 (by have := lenB_ok lY; omega) (by have := lenB_ok lY; have := lE2; omega)
theorem k_im2 : PC 23 [.agg (encD aZ), .agg (encR aE.1)] (.tup [.snap (encL volRow aN.1), zV 0]) := by
  have h := image_p aZ aE.1 (by rw [lE]; decide) (by have := lenB_ok lZ; omega) (by have := lenB_ok lZ; omega)
  rw [show (imgE aZ aE.1).2 = 0 from fN2] at h
  exact h
abbrev zR : List AV := [uV 0, uV 0, uV 0, uV 0, uV 0, uV 0, uV 0, uV 0]
theorem k_same : FC 40 [.snap (encL volRow aN.1), .snap [[.snap [zR, [uV 1, uV 0, uV 0, uV 0, uV 0, uV 0, uV 0, uV 0], [uV 2, uV 0, uV 0, uV 0, uV 0, uV 0, uV 0, uV 0], zR]]]] (bV true) := by
  have h := imsame_p aN.1 (by rw [fN1]; decide) (by rw [fN1]; decide)
  have e : encL volRow aN.1 = [[.snap [zR, [uV 1, uV 0, uV 0, uV 0, uV 0, uV 0, uV 0, uV 0], [uV 2, uV 0, uV 0, uV 0, uV 0, uV 0, uV 0, uV 0], zR]]] := by rw [fN1]; rfl
  rw [e] at h ⊢
  exact FCall.ofK h rfl
theorem fzrow {id n : Nat} {rows : List (List AV)} {xs : List AV} (hn : n = rows.length) : FzRows id rows [xs ++ [.own id 0 n]] [xs ++ [.snap rows]] := by
  subst hn
  refine ⟨rfl, fun i r r' hr hr' => ?_⟩
  cases i with
  | succ i => simp at hr
  | zero =>
    simp only [List.getElem?_cons_zero, Option.some.injEq] at hr hr'
    subst hr; subst hr'
    refine ⟨by simp, fun k x y hx hy => ?_⟩
    by_cases hk : k < xs.length
    · rw [List.getElem?_append_left hk] at hx hy
      rw [hx] at hy
      injection hy with hy
      exact .inl hy
    · rw [List.getElem?_append_right (by omega)] at hx hy
      cases h9 : k - xs.length with
      | succ j => rw [h9] at hx; simp at hx
      | zero =>
        rw [h9] at hx hy
        simp only [List.getElem?_cons_zero, Option.some.injEq] at hx hy
        subst hx; subst hy
        exact .inr ⟨0, rows.length, rfl, by omega, by simp⟩
abbrev R1 : List AV := [uV 1, uV 0, uV 0, uV 0, uV 0, uV 0, uV 0, uV 0]
abbrev R2 : List AV := [uV 2, uV 0, uV 0, uV 0, uV 0, uV 0, uV 0, uV 0]
theorem awake_p : PC 11 [] (bV true) := by
  refine pstart Tryz.func11 Tryz.ntmps11 (.c _) ?_
  have d1 := Lat.mk k_new
  have d2 := Lat.mk k_fmt
  have d3 := Lat.mk k_step
  have d4 := Lat.mk k_app
  have d5 := Lat.mk k_int
  have d6 := Lat.mk k_load
  have d7 := Lat.mk k_im1
  have d8 := Lat.mk k_copy
  have d9 := Lat.mk k_step2
  have d10 := Lat.mk k_end
  have d11 := Lat.mk k_step3
  have d12 := Lat.mk k_im2
  have d13 := Lat.mk k_same
  have hz : encSec zSec = [uV 0, uV 0, uV 0, uV 0, uV 0, uV 0, uV 0, uV 0] := rfl
  have hO : (encL opRow aF.2.1)[0]? = some [zV aO.1, zV aO.2.1, .snap (encL encSec aO.2.2)] := gO aF.2.1 0 (by rw [fF2]; decide)
  have hP : (encL opRow aA.2.1)[2]? = some [zV aP.1, zV aP.2.1, .snap (encL encSec aP.2.2)] := gO aA.2.1 2 (by rw [fA2]; decide)
  have e1 := fF2
  have e2 := fO1
  have e3 := fO2
  have e4 := fA2
  have e5 := fP1
  have e6 := fA3
  have e7 := fA4
  have e8 := fL2
  have e9 := fL3
  have e10 := fL4
  generalize aO = O at *
  generalize aP = P at *
  generalize aD = D at *
  generalize aX = X at *
  generalize aY = Y at *
  generalize aZ = Z at *
  generalize aF = F at *
  generalize aA = A at *
  generalize aI = I at *
  generalize aL = L at *
  generalize aM = M at *
  generalize aK = K at *
  generalize aE = E at *
  generalize aN = N at *
  obtain ⟨F, Fo, Fe⟩ := F
  obtain ⟨A, Ao, Ae⟩ := A
  obtain ⟨E, Eo, Ee⟩ := E
  obtain ⟨L, Le⟩ := L
  obtain ⟨I, Ic, Ie⟩ := I
  obtain ⟨o1, o2, o3⟩ := O
  obtain ⟨p1, p2, p3⟩ := P
  unfold encD encR at *
  simp only [] at *
  have c1 := d1.out
  refine zgo2 ?_
  clear c1
  have c2 := d2.out
  refine zgo2 ?_
  clear c2
  have c3 := d3.out
  refine zcallH ?_
  clear c3
  repeat (first | refine aw_seq ?_ | refine w_nil ?_ | refine w_hold ?_ | refine w_hold2 ?_ | refine w_then ?_ | refine w_thenR ?_ | refine w_thenE ?_)
  refine zregion ?_
  repeat (first | refine aw_seq ?_ | refine w_nil ?_ | refine w_hold ?_ | refine w_hold2 ?_ | refine w_then ?_ | refine w_thenR ?_ | refine w_thenE ?_)
  refine aw_fz 6 7 [[zV 0, zV 1, .snap [R1, R2]]] zeq zeq (by decide) (fzrow (xs := [zV 0, zV 1]) rfl) ?_
  refine aw_less (env := [(6, true, .ptr 8 0 0), (3, true, .ptr 3 0 0), (1, true, .ptr 0 0 0)]) (H := ⟨40, tabG [(0, some (.cells 25 2 [[.snap (encL encSec X.st), .snap (encL encCa X.ca)]] true false)), (3, some (.cells 31 6 [[.snap (encL intRow F.sizes), zV F.super, zV F.data, zV F.epoch, zV F.applied, zV F.applying]] true false)), (7, some (.cells 98 3 [[zV 0, zV 1, .snap [R1, R2]]] true true)), (8, some (.cells 48 5 [[zV 0, zV 1, zV 0, nilS, .own 7 0 1]] true false))]⟩) zholds ?_
  clear hO e1 e2 e3
  have c4 := d4.out
  refine zgo2 ?_
  clear c4
  have c5 := d5.out
  refine zgo2 ?_
  clear c5
  have c6 := d6.out
  refine zgo2 ?_
  clear c6
  have c7 := d7.out
  rw [e8, e9, e10] at c7
  refine zgo2 ?_
  clear c7
  have c8 := d8.out
  rw [e8, e9, e10] at c8
  refine zgo2 ?_
  clear c8
  have c9 := d9.out
  refine zgo2 ?_
  clear c9
  have c10 := d10.out
  rw [e8, e9, e10] at c10
  refine zgo2 ?_
  clear c10
  have c11 := d11.out
  have c12 := d12.out
  refine zgo2 ?_
  clear c11 c12
  have c13 := d13.out
  refine zcallFG ?_
  refine zgo2 ?_
  exact zfin
end Go.Proofs.YtkghiceeegindaaGreatDoor
namespace Go.Proofs.YtkghiceeegindaaGreatDoor
open Go.Proofs Go.AL
set_option linter.unusedVariables false
set_option linter.unusedSimpArgs false
def OpsL (l : List Opr) (n : Nat) : Prop := l.length ≤ n ∧ ∀ o ∈ l, o.2.2.length ≤ 1000000
theorem OpsL.app {a b : List Opr} {n m : Nat} (h : OpsL a n) (k : OpsL b m) : OpsL (a ++ b) (n + m) := by
  refine ⟨by rw [List.length_append]; have := h.1; have := k.1; omega, fun o ho => ?_⟩
  rcases List.mem_append.1 ho with ho | ho
  · exact h.2 o ho
  · exact k.2 o ho
theorem OpsL.mono {a : List Opr} {n m : Nat} (h : OpsL a n) (k : n ≤ m) : OpsL a m := ⟨Nat.le_trans h.1 k, h.2⟩
theorem fewW_len {l : List Wrt} (h : fewW l = true) : l.length ≤ 40 ∧ ∀ w ∈ l, w.2.2.length ≤ 24 := by
  unfold fewW at h
  rw [Bool.and_eq_true] at h
  have h2 : l.length ≤ 40 := of_decide_eq_true h.2
  refine ⟨h2, fun w hw => ?_⟩
  have h3 : (l.take 60).any bigW = false := by
    cases hh : (l.take 60).any bigW with
    | false => rfl
    | true => rw [hh] at h; exact absurd h.1 (by decide)
  rw [List.take_of_length_le (by omega), List.any_eq_false] at h3
  have h4 : ¬ bigW w = true := h3 w hw
  unfold bigW at h4
  rw [decide_eq_true_eq] at h4
  omega
end Go.Proofs.YtkghiceeegindaaGreatDoor
namespace Go.Proofs.YtkghiceeegindaaGreatDoor
open Go.Proofs Go.AL
set_option maxRecDepth 100000
set_option maxHeartbeats 2000000
set_option linter.unusedVariables false
set_option linter.unusedSimpArgs false
attribute [local irreducible] endA AW aops thenA blockA hold
abbrev BIG : Nat := 9223372036854775807
end Go.Proofs.YtkghiceeegindaaGreatDoor
namespace Go.Proofs.YtkghiceeegindaaGreatDoor
open Go.Proofs Go.AL
open Go.ChangeShapes Go.WideShapes Go.RowKit
set_option linter.unusedVariables false
set_option linter.unusedSimpArgs false
theorem u8_of {n : Int} (h : (Lit.int .u8 n).wf = true) : ByteOK n := by
  have := Go.bounds_u8 h
  exact ⟨by omega, by omega⟩
abbrev shI : Sh := .int .i64
abbrev shU : Sh := .int .u8
def shSec : List Sh := [shU, shU, shU, shU, shU, shU, shU, shU]
def shOp : List Sh := [shI, shI, .sl shSec]
theorem open_sec (r : List AV) (h : CfR shSec r) : ∃ s : Sec, SecOK s ∧ r = encSec s := by
  obtain ⟨a0, r, rfl, h0, g0⟩ := h.uncons
  obtain ⟨a1, r, rfl, h1, g1⟩ := g0.uncons
  obtain ⟨a2, r, rfl, h2, g2⟩ := g1.uncons
  obtain ⟨a3, r, rfl, h3, g3⟩ := g2.uncons
  obtain ⟨a4, r, rfl, h4, g4⟩ := g3.uncons
  obtain ⟨a5, r, rfl, h5, g5⟩ := g4.uncons
  obtain ⟨a6, r, rfl, h6, g6⟩ := g5.uncons
  obtain ⟨a7, r, rfl, h7, g7⟩ := g6.uncons
  obtain rfl := g7.unnil
  obtain ⟨n0, rfl, w0⟩ := h0.unint
  obtain ⟨n1, rfl, w1⟩ := h1.unint
  obtain ⟨n2, rfl, w2⟩ := h2.unint
  obtain ⟨n3, rfl, w3⟩ := h3.unint
  obtain ⟨n4, rfl, w4⟩ := h4.unint
  obtain ⟨n5, rfl, w5⟩ := h5.unint
  obtain ⟨n6, rfl, w6⟩ := h6.unint
  obtain ⟨n7, rfl, w7⟩ := h7.unint
  refine ⟨((n0, n1, n2, n3), (n4, n5, n6, n7)), ⟨⟨u8_of w0, u8_of w1, u8_of w2, u8_of w3⟩, fun x hx => ?_⟩, rfl⟩
  simp only [d4, List.mem_cons, List.not_mem_nil, or_false] at hx
  rcases hx with rfl | rfl | rfl | rfl
  · exact u8_of w4
  · exact u8_of w5
  · exact u8_of w6
  · exact u8_of w7
theorem open_secs {a : AV} (h : CfS (.sl shSec) a) : ∃ l : List Sec, (∀ s ∈ l, SecOK s) ∧ l.length ≤ maxLen ∧ a = .snap (encL encSec l) := sl_enc open_sec h
theorem open_int1 (r : List AV) (h : CfR [shI] r) : ∃ x : Int, True ∧ r = intRow x := by
  obtain ⟨a0, r, rfl, h0, g0⟩ := h.uncons
  obtain rfl := g0.unnil
  obtain ⟨n, rfl, hn⟩ := h0.unint
  exact ⟨n, trivial, rfl⟩
theorem open_ints {a : AV} (h : CfS (.sl [shI]) a) : ∃ l : List Int, (∀ x ∈ l, True) ∧ l.length ≤ maxLen ∧ a = .snap (encL intRow l) := sl_enc open_int1 h
theorem open_opr (r : List AV) (h : CfR shOp r) : ∃ o : Opr, ((∀ s ∈ o.2.2, SecOK s) ∧ o.2.2.length ≤ maxLen) ∧ r = opRow o := by
  obtain ⟨a0, r, rfl, h0, g0⟩ := h.uncons
  obtain ⟨a1, r, rfl, h1, g1⟩ := g0.uncons
  obtain ⟨a2, r, rfl, h2, g2⟩ := g1.uncons
  obtain rfl := g2.unnil
  obtain ⟨n0, rfl, w0⟩ := h0.unint
  obtain ⟨n1, rfl, w1⟩ := h1.unint
  obtain ⟨l, w2, w3, rfl⟩ := open_secs h2
  exact ⟨(n0, n1, l), ⟨w2, w3⟩, rfl⟩
theorem open_ops {a : AV} (h : CfS (.sl shOp) a) : ∃ l : List Opr, (∀ o ∈ l, (∀ s ∈ o.2.2, SecOK s) ∧ o.2.2.length ≤ maxLen) ∧ l.length ≤ maxLen ∧ a = .snap (encL opRow l) := sl_enc open_opr h
end Go.Proofs.YtkghiceeegindaaGreatDoor
