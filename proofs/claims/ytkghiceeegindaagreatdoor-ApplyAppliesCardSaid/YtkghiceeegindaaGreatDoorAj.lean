/- Apply: contracts of its functions. No condition but those named. -/
import Derived.Test.YtkghiceeegindaaGreatDoorAi
import Derived.Shelf.SlIterI.Nil
import Derived.Shelf.SortM.Plain
import Derived.Shelf.SortM.SortNone
import Derived.Ground.GgzProg
import Derived.Ground.SlgmProg
import Derived.Test.YtkghiceeegindaaGreatDoorLc
import Derived.Test.YtkghiceeegindaaGreatDoorAf
/- Decisions and crashes. -/
namespace Go.Proofs.YtkghiceeegindaaGreatDoor
open Go.Proofs Go.AL
set_option maxRecDepth 100000
set_option maxHeartbeats 1000000
set_option linter.unusedVariables false
set_option linter.unusedSimpArgs false
attribute [local irreducible] endA AW aops thenA blockA hold

theorem dec1 {x n : Int} (hn : 0 < n) : (x.tmod n + n).tmod n = x % n := by
  have h0 := Int.emod_nonneg x (show n ≠ 0 by omega)
  have h1 := Int.emod_lt_of_pos x hn
  by_cases h : 0 ≤ x
  · rw [Int.tmod_eq_emod_of_nonneg h, Int.tmod_eq_emod_of_nonneg (by omega), Int.add_emod_right, Int.emod_emod_of_dvd _ (Int.dvd_refl n)]
  · have h2 := Int.tmod_eq_emod_of_nonneg (a := -x) (b := n) (by omega)
    have h3 : x.tmod n = -((-x) % n) := by rw [← h2, Int.neg_tmod]; omega
    have h4 := Int.emod_nonneg (-x) (show n ≠ 0 by omega)
    have h5 := Int.emod_lt_of_pos (-x) hn
    rw [Int.tmod_eq_emod_of_nonneg (by omega), Int.add_emod_right, h3]
    have : -((-x) % n) % n = x % n := by
      rw [Int.emod_def (-x) n, show -(-x - n * (-x / n)) = x + n * (-x / n) by omega, Int.add_mul_emod_self_left]
    exact this


theorem tm_lo {x n : Int} (hn : 0 < n) : -n < x.tmod n ∧ x.tmod n < n := by
  have h := Int.lt_tmod_of_pos x hn
  have h2 := Int.tmod_lt_of_pos x hn
  exact ⟨h, h2⟩

/-- A decision: the next choice, modulo n. -/
def decN (c : List Int) (n : Int) : Int × List Int := if c.length = 0 then (0, []) else (c.getD 0 0 % n, c.drop 1)
theorem dec2 {x n : Int} (hn : 0 < n) : (x.tmod n + n) % n = x % n := by
  have h := dec1 (x := x) hn
  have h2 := tm_lo (x := x) hn
  rwa [Int.tmod_eq_emod_of_nonneg (by omega)] at h
theorem dec3 {x n : Int} (hn : 0 < n) (h : x.tmod n < 0) : x.tmod n + n = x % n := by
  have h1 := dec2 (x := x) hn
  have h2 := tm_lo (x := x) hn
  rw [← h1, Int.emod_eq_of_lt (by omega) (by omega)]
theorem dec4 {x n : Int} (hn : 0 < n) (h : ¬ x.tmod n < 0) : x.tmod n = x % n := by
  have h1 := dec2 (x := x) hn
  have h2 := tm_lo (x := x) hn
  rw [← h1, Int.add_emod_right, Int.emod_eq_of_lt (by omega) (by omega)]
/-- The versions of a sector in the cache. -/
def versS (ca : List (Int × Sec)) (i : Int) : List Sec := (ca.filter fun c => c.1 == i).map (·.2)
def crashStep (ca : List (Int × Sec)) (s : List Sec × List Int) (i : Nat) : List Sec × List Int :=
  if (versS ca i).length = 0 then s else
    (if 0 < (decN s.2 ((versS ca i).length + 1)).1 then s.1.set i ((versS ca i).getD ((decN s.2 ((versS ca i).length + 1)).1 - 1).toNat zSec) else s.1, (decN s.2 ((versS ca i).length + 1)).2)
def crashTo (ca : List (Int × Sec)) (st : List Sec) (c : List Int) (k : Nat) : List Sec × List Int := (List.range k).foldl (crashStep ca) (st, c)
/-- A disk after a crash, and the choices that are left. -/
def crashS (d : Dsk) (c : List Int) : Dsk × List Int := if dskE d = 0 then (⟨(crashTo d.ca d.st c d.st.length).1, []⟩, (crashTo d.ca d.st c d.st.length).2) else (d, c)
theorem crashTo_succ (ca : List (Int × Sec)) (st : List Sec) (c : List Int) (k : Nat) : crashTo ca st c (k + 1) = crashStep ca (crashTo ca st c k) k := by
  simp [crashTo, List.range_succ]
theorem crashStep_len (ca : List (Int × Sec)) (s : List Sec × List Int) (i : Nat) : (crashStep ca s i).1.length = s.1.length := by
  unfold crashStep
  split
  · rfl
  · dsimp only
    split
    · rw [List.length_set]
    · rfl
theorem crashTo_len (ca : List (Int × Sec)) (st : List Sec) (c : List Int) : ∀ k, (crashTo ca st c k).1.length = st.length
  | 0 => rfl
  | k + 1 => by rw [crashTo_succ, crashStep_len, crashTo_len ca st c k]
theorem decN_len (c : List Int) (n : Int) : (decN c n).2.length ≤ c.length := by
  unfold decN
  split
  · simp
  · simp
theorem decN_rng (c : List Int) {n : Int} (hn : 0 < n) : 0 ≤ (decN c n).1 ∧ (decN c n).1 < n := by
  unfold decN
  split
  · exact ⟨Int.le_refl _, hn⟩
  · exact ⟨Int.emod_nonneg _ (by omega), Int.emod_lt_of_pos _ hn⟩
theorem crashStep_ch (ca : List (Int × Sec)) (s : List Sec × List Int) (i : Nat) : (crashStep ca s i).2.length ≤ s.2.length := by
  unfold crashStep
  split
  · exact Nat.le_refl _
  · exact decN_len _ _
theorem crashTo_ch (ca : List (Int × Sec)) (st : List Sec) (c : List Int) : ∀ k, (crashTo ca st c k).2.length ≤ c.length
  | 0 => Nat.le_refl _
  | k + 1 => by rw [crashTo_succ]; exact Nat.le_trans (crashStep_ch _ _ _) (crashTo_ch ca st c k)
theorem vers_len (ca : List (Int × Sec)) (i : Int) : (versS ca i).length ≤ ca.length := by
  unfold versS; rw [List.length_map]; exact List.length_filter_le _ _
theorem vers_hit {ca : List (Int × Sec)} {i : Int} {j : Nat} (hj : j < ca.length) (h : (ca.getD j (0, zSec)).1 = i) : versS (ca.take j) i ++ [(ca.getD j (0, zSec)).2] = versS (ca.take (j + 1)) i := by
  unfold versS
  have h' : ca[j].1 = i := by simpa [hj] using h
  rw [List.take_succ_eq_append_getElem hj, List.filter_append, List.map_append]
  congr 1
  simp [hj, h']
theorem vers_miss {ca : List (Int × Sec)} {i : Int} {j : Nat} (hj : j < ca.length) (h : (ca.getD j (0, zSec)).1 ≠ i) : versS (ca.take (j + 1)) i = versS (ca.take j) i := by
  unfold versS
  have h' : ca[j].1 ≠ i := by simpa [hj] using h
  rw [List.take_succ_eq_append_getElem hj, List.filter_append, List.map_append]
  simp [h']
theorem decide_p (c : List Int) (n : Int) (hn : 0 < n) (hn2 : n ≤ 1000000) (hL : c.length ≤ 1000000) : PC 137 [.snap (encL intRow c), zV n] (.tup [zV (decN c n).1, .snap (encL intRow (decN c n).2)]) := by
  refine pstart Tryz.func137 Tryz.ntmps137 (by simp only [go_sem]) ?_
  unfold decN
  by_cases h0 : c.length = 0
  · rw [if_pos h0]
    have h1 : (c.length : Int) = 0 := by omega
    refine zgo2 ?_
    exact zfin
  · rw [if_neg h0]
    have h1 : ¬ (c.length : Int) = 0 := by omega
    have hg := gI c 0 (by omega)
    have hb := tm_lo (x := c.getD 0 0) hn
    have h2 := dec1 (x := c.getD 0 0) hn
    have htk : (c.drop 1).take (c.length - 1) = c.drop 1 := List.take_of_length_le (by simp)
    generalize c.getD 0 0 = x at *
    obtain ⟨hb1, hb2⟩ := hb
    have hn0 : ¬ n = 0 := by omega
    have w1 : IntKind.i64.wrap (x.tmod n) = x.tmod n := IntWalk.i64_in _ (by omega)
    have w2 : IntKind.i64.wrap (x.tmod n + n) = x.tmod n + n := IntWalk.i64_in _ (by omega)
    have w3 : IntKind.i64.wrap (x % n) = x % n := by
      have := Int.emod_nonneg x (show n ≠ 0 by omega)
      have := Int.emod_lt_of_pos x hn
      exact IntWalk.i64_in _ (by omega)
    refine zgo2 ?_
    exact zfin
end Go.Proofs.YtkghiceeegindaaGreatDoor

namespace Go.Proofs.YtkghiceeegindaaGreatDoor
open Go.Proofs Go.AL Go.RowKit Go.Maps Go.Sort Go.Shelf

shelf_lay_g SlLaysZI.n7 Ggz 7 at Tryz 136 as Tryz.keysA
shelf_lay_g SlLaysZI.n6 Ggz 6 at Tryz 135 as Tryz.sortedA
shelf_lay_g SlLaysM.n5 Slgm 5 at Tryz 165 as Tryz.sortA

/-- slices.Sort's two contracts at this program. -/
theorem sortsA (m : Nat) : AnyZI.SortsIn Tryz.prog Tryz.sortedA_ren Fence.wide m :=
  ⟨fun blk off cap ss W hH hblk hsz => callsIn_wide.2 (AnyM.slices_Sort_int Tryz.sortA blk off cap ss W hH hblk hsz),
   fun p cap W => callsIn_wide.2 (AnyM.slices_Sort_int_none Tryz.sortA p cap W)⟩

set_option maxHeartbeats 1000000 in
/-- slices.Sorted against the keys of a map. -/
theorem sorted_w {H : Type} (Bm b nn : Nat) (D0 : DataW H) (R : Value → Option (DataW H × List MemPlace)) (w : World) (hBm : Bm < w.heap.size) (hm : w.cell? ⟨Bm, 0, none⟩ = some (.map (some b))) (hown : w.ownsMap Tryz.prog 3 R b nn D0) (hmax : Maps.size D0 ≤ maxLen) (hbytes : Maps.size D0 * 8 ≤ 140737488355328) :
    Calls Tryz.prog 135 #[.func (.func 166) #[] #[.pointer (some ⟨Bm, 0, none⟩)]] w fun e w' => ∃ (v : Value) (ss : List Int), e = .returned v ∧ ss.Perm (intKeys D0) ∧
      w'.ownsRow w.heap.size 3 1 v ss.length ((ss.mergeSort (fun x y => decide (x ≤ y))).map encZ) ∧ (v = .slice none 0 0 ↔ ss = []) ∧ Below w.heap.size w w' := by
  refine (callsIn_wide (n := 5)).1 ?_
  have hseq : SeqGives Fence.wide 2 Tryz.prog 166 #[.pointer (some ⟨Bm, 0, none⟩)] encZ (fun ss => ss.Perm (intKeys D0)) (Maps.size D0) w :=
    AnyZI.keys_gives (ρ := Tryz.keysA_ren) { Tryz.keysA with } Fence.wide _ trivial rfl (by omega) Bm b nn D0 _ hBm hm hown
  exact AnyZI.sorted_in Tryz.sortedA Fence.wide 5 trivial trivial trivial trivial rfl (by omega) (sortsA _) (enters_of Tryz.func165 (by kernel_rfl) rfl) 166 #[.pointer (some ⟨Bm, 0, none⟩)] trivial (enters_of Tryz.func166 (by kernel_rfl) rfl) _ _ hmax hbytes _ hseq

end Go.Proofs.YtkghiceeegindaaGreatDoor

/- The sorted keys of the versions; the crash over them. -/
namespace Go.Proofs.YtkghiceeegindaaGreatDoor
open Go.Proofs Go.AL Go.RowKit Go.Maps
open Go.WideElems (Fit rd rg pl)
set_option linter.unusedVariables false
set_option linter.unusedSimpArgs false

/-- Numbers as a map's keys. -/
def keyZ (n : Int) : Value := .int .i64 n
def InI (n : Int) : Prop := -9223372036854775808 ≤ n ∧ n ≤ 9223372036854775807

theorem sorted_ownsMap {E : Env} {W : World} {es : List (Value × AV)} {ks : List Int} {b : Nat} {ms : Array MapEntry} {clock : Nat} (hb : W.heap[b]? = some (.map ms clock)) (hs : MapKept.Stamped ms clock) (hl : ms.size = es.length)
    (hc : ∀ (i : Nat) k x, es[i]? = some (k, x) → ∃ e, ms[i]? = some e ∧ e.key = k ∧ RV E W x e.val) (hks : es.map (·.1) = ks.map keyZ) (hr : ∀ n ∈ ks, InI n) (hmax : es.length ≤ 1000000) :
    ∃ D0 : DataW Unit, W.ownsMap Tryz.prog 3 (fun _ => some (.nil, [])) b es.length D0 ∧ (intKeys D0).Perm ks ∧ Maps.size D0 = ks.length := by
  have hkl : ks.length = es.length := by have := congrArg List.length hks; simpa using this.symm
  have hkeys : ms.toList.map (·.key) = ks.map keyZ := by
    rw [← hks]
    apply List.ext_getElem?
    intro i
    rw [List.getElem?_map, List.getElem?_map, Array.getElem?_toList]
    cases hi : es[i]? with
    | none =>
      have h1 : es.length ≤ i := List.getElem?_eq_none_iff.1 hi
      rw [Array.getElem?_eq_none (by omega)]; rfl
    | some p =>
      obtain ⟨e, h1, h2, _⟩ := hc i p.1 p.2 hi
      rw [h1]; simp [h2]
  have hu : Tryz.prog.underlying 3 = some (.int .i64) := by kernel_rfl
  have hread : ∀ x ∈ ms.toList, ∃ n, x.key = keyZ n ∧ rd Tryz.prog 3 (fun _ => some ((.nil : DataW Unit), [])) x = some (.int .i64 n, .nil) := fun x hx => by
    have hm : x.key ∈ ks.map keyZ := by rw [← hkeys]; exact List.mem_map.2 ⟨x, hx, rfl⟩
    obtain ⟨n, hn, hk⟩ := List.mem_map.1 hm
    have hwf : (Lit.int .i64 n).wf = true := by
      have := hr n hn
      unfold InI at this
      simp [Lit.wf]
      exact ⟨this.1, this.2⟩
    refine ⟨n, hk.symm, ?_⟩
    have := Maps.keyOf_int_mk hu hwf
    unfold rd
    rw [← hk]
    unfold keyZ
    rw [this]; rfl
  have hrg : ms.toList.map (rg Tryz.prog 3 (fun _ => some ((.nil : DataW Unit), []))) = ks.map fun n => (.int .i64 n, .nil) := by
    have h1 : ms.toList.map (rg Tryz.prog 3 (fun _ => some ((.nil : DataW Unit), []))) = (ms.toList.map (·.key)).map fun k => ((match k with | .int _ n => Lit.int .i64 n | _ => .bool false), (.nil : DataW Unit)) := by
      rw [List.map_map]
      refine List.map_congr_left fun x hx => ?_
      obtain ⟨n, h2, h3⟩ := hread x hx
      rw [Go.WideElems.rg_of h3]
      simp [h2, keyZ]
    rw [h1, hkeys, List.map_map]
    exact List.map_congr_left fun n _ => rfl
  refine ⟨.map ((ms.toList.map (rg Tryz.prog 3 (fun _ => some ((.nil : DataW Unit), [])))).foldr DataW.insert []), ⟨ms, clock, hb, ⟨by unfold maxLen; omega, hs, fun x hx => ?_⟩, by omega, rfl⟩, ?_, ?_⟩
  · obtain ⟨n, _, h⟩ := hread x hx; exact ⟨_, h⟩
  · rw [hrg]
    unfold intKeys
    refine ((Go.WideShapes.sorted_perm _).map _).trans ?_
    rw [List.map_map]
    have : (fun p : Lit × DataW Unit => Go.intOf p.1) ∘ (fun n : Int => (Lit.int .i64 n, (DataW.nil : DataW Unit))) = id := by funext n; rfl
    rw [this, List.map_id]
  · rw [hrg]
    simp [Maps.size, length_sorted]

theorem sorted_a {N : Nat} {G : Nat → Option Blk} {bid id : Nat} {w a : Bool} {es : List (Value × AV)} {ks : List Int} (hb : G bid = some (.cells 209 1 [[.omap id]] w a)) (hm : G id = some (.map es)) (hks : es.map (·.1) = ks.map keyZ) (hr : ∀ n ∈ ks, InI n) (hmax : es.length ≤ 1000000) :
    ACall Tryz.prog 135 [.fn (.func 166) [] [.ptr bid 0 0]] ⟨N, G⟩ (fun r H' => H' = ⟨N, G⟩ ∧ r = .snap (encL intRow (ks.mergeSort leI))) := by
  refine acallB (by kernel_rfl) fun E W vs hH hvs => ?_
  obtain ⟨v, rfl⟩ : ∃ v, vs = [v] := by
    match vs, hvs.1 with
    | [v], _ => exact ⟨v, rfl⟩
  have hv := hvs.2 0 _ v rfl rfl
  cases hv with
  | fn _ _ _ vf vc hl hl2 h1 h2 =>
  obtain rfl : vf = #[] := by apply Array.eq_empty_of_size_eq_zero; simpa using hl.symm
  obtain ⟨u, rfl⟩ : ∃ u, vc = #[u] := by
    obtain ⟨l⟩ := vc
    match l, hl2 with
    | [u], _ => exact ⟨u, rfl⟩
  have hu := h2 0 _ u rfl rfl
  cases hu with
  | ptr _ _ _ hU =>
  obtain ⟨_, hsz, _, ⟨cur, hcur, _, hcells⟩, _⟩ := hH.core.ok bid _ hb
  obtain ⟨mv, hmv1, hmv2⟩ := hcells 0 0 _ _ rfl rfl
  cases hmv2
  obtain ⟨_, ⟨ms, clock, hms, hst, hlen, hent⟩, _⟩ := hH.core.ok id _ hm
  obtain ⟨D0, hown, hperm, hsize⟩ := sorted_ownsMap hms hst hlen hent hks hr hmax
  have hkl : ks.length = es.length := by have := congrArg List.length hks; simpa using this.symm
  have hcell : W.cell? ⟨E.ι bid, 0, none⟩ = some (.map (some (E.ι id))) := by
    rw [cell_of_row W _ 0 cur 209 (0, 0) hcur]; simpa using hmv1
  have hw := sorted_w (E.ι bid) (E.ι id) es.length D0 _ W (hH.core.inW bid hU) hcell hown (by rw [hsize]; unfold maxLen; omega) (by rw [hsize]; omega)
  simp only [Nat.zero_mul, Nat.add_zero]
  refine hw.mono fun e W' ⟨v, ss, he, hp, hrow, hnil, hbel⟩ => ?_
  have hso : ss.mergeSort leI = ks.mergeSort leI := mergeSort_of_perm_i (hp.trans hperm)
  have hsl : ss.length = (ks.mergeSort leI).length := by rw [← hso]; simp
  obtain ⟨hxl, hrow⟩ := hrow
  rcases hrow with ⟨rfl, h0⟩ | ⟨g, cap, cur', rfl, hbase, hg, hnc, hcm, hcs, hxs⟩
  · refine ⟨_, he, .snap (encL intRow (ks.mergeSort leI)), E.L, hbel, fun _ _ => rfl, fun b hb' => hH.core.lim b (Nat.le_trans hbel.size hb'), ?_, trivial, rfl⟩
    have : ks.mergeSort leI = [] := List.eq_nil_of_length_eq_zero (by omega)
    rw [this]
    exact .snap0 none 0
  · refine ⟨_, he, .snap (encL intRow (ks.mergeSort leI)), fun b => if b = g then ss.length else E.L b, hbel, fun b hb' => if_neg (by omega), fun b hb' => ?_, ?_, trivial, rfl⟩
    · have hgl : g < W'.heap.size := (Array.getElem?_eq_some_iff.1 hg).1
      simp only []
      rw [if_neg (by omega)]
      exact hH.core.lim b (Nat.le_trans hbel.size hb')
    · rw [hsl]
      refine .snap _ g 0 1 _ cap (fun i j => .int .i64 ((ks.mergeSort leI).getD i 0)) (by simp [encL]) (by omega) ?_ ?_ ?_ ?_
      · intro i row hrow
        simp only [encL, List.getElem?_map] at hrow
        cases hk : (ks.mergeSort leI)[i]? with
        | none => rw [hk] at hrow; cases hrow
        | some q => rw [hk] at hrow; injection hrow with hrow; subst hrow; rfl
      · simp [encL, hsl]
      · intro i j row x h3 h4
        simp only [encL, List.getElem?_map] at h3
        cases hk : (ks.mergeSort leI)[i]? with
        | none => rw [hk] at h3; cases h3
        | some q =>
          rw [hk] at h3
          injection h3 with h3
          subst h3
          have hj : j = 0 := by have := (List.getElem?_eq_some_iff.1 h4).1; simp [intRow] at this; exact this
          subst hj
          rw [cell_of_row W' _ _ cur' 3 (0, 0) hg]
          have h5 : (cur'.toList.take (ss.length * 1))[i]? = some (encZ q) := by rw [hxs, hso, List.getElem?_map, hk]; rfl
          have h6 : i < ss.length * 1 := by have := (List.getElem?_eq_some_iff.1 h5).1; simp at this; omega
          rw [List.getElem?_take, if_pos h6, Array.getElem?_toList] at h5
          simpa [hk] using h5
      · intro i j row x h3 h4
        simp only [encL, List.getElem?_map] at h3
        cases hk : (ks.mergeSort leI)[i]? with
        | none => rw [hk] at h3; cases h3
        | some q =>
          rw [hk] at h3
          injection h3 with h3
          subst h3
          have hj : j = 0 := by have := (List.getElem?_eq_some_iff.1 h4).1; simp [intRow] at this; exact this
          subst hj
          simp only [intRow, List.getElem?_cons_zero, Option.some.injEq] at h4
          subst h4
          have : (ks.mergeSort leI).getD i 0 = q := by simp [hk]
          rw [this]
          exact .c _ rfl

/-- The map of the versions: what the entries and the blocks behind them hold. -/
structure MapV (G : Nat → Option Blk) (N : Nat) (ca : List (Int × Sec)) (es : List (Value × AV)) (ks : List Int) (idf : Int → Nat) : Prop where
  es : es = ks.map fun q => (keyZ q, .own (idf q) 0 (versS ca q).length)
  nodup : ks.Nodup
  mem : ∀ q, q ∈ ks ↔ versS ca q ≠ []
  get : ∀ q ∈ ks, ∃ w, G (idf q) = some (.cells 96 8 (encL encSec (versS ca q)) w true)
  inj : ∀ q ∈ ks, ∀ q' ∈ ks, idf q = idf q' → q = q'
  rng : ∀ q ∈ ks, 3 ≤ idf q ∧ idf q < N

theorem sameK_z (a b : Int) : sameK (keyZ a) (keyZ b) = (a == b) := by simp [keyZ, sameK]

theorem lookM_ks {x : Int → AV} (q : Int) : ∀ ks : List Int, lookM (keyZ q) (ks.map fun k => (keyZ k, x k)) = if q ∈ ks then some (x q) else none
  | [] => rfl
  | k :: r => by
    simp only [List.map_cons, lookM, sameK_z, lookM_ks q r]
    by_cases h : k = q
    · subst h; simp
    · simp [h, Ne.symm h]

theorem putM_ks {x : Int → AV} {y : AV} (q : Int) : ∀ ks : List Int, ks.Nodup → putM (keyZ q) y (ks.map fun k => (keyZ k, x k)) = if q ∈ ks then ks.map fun k => (keyZ k, if k = q then y else x k) else (ks.map fun k => (keyZ k, x k)) ++ [(keyZ q, y)]
  | [], _ => rfl
  | k :: r, h => by
    have hr := List.nodup_cons.1 h
    simp only [List.map_cons, putM, sameK_z, putM_ks q r hr.2]
    by_cases hk : k = q
    · subst hk
      simp
      intro a ha hak
      subst hak
      exact absurd ha hr.1
    · simp only [beq_iff_eq, hk, if_false, List.mem_cons, Ne.symm hk, false_or]
      split <;> rfl

theorem keysB_ks {x : Int → AV} (ks : List Int) : keysB (.int .i64) (ks.map fun k => (keyZ k, x k)) = true := by
  simp [keysB, keyZ, isKeyB]

section
variable {G : Nat → Option Blk} {N : Nat} {ca : List (Int × Sec)} {es : List (Value × AV)} {ks : List Int} {idf : Int → Nat}
theorem MapV.start : MapV G N [] [] [] idf := ⟨rfl, List.nodup_nil, fun q => by simp [versS], fun q h => by simp at h, fun q h => by simp at h, fun q h => by simp at h⟩
theorem MapV.keys (h : MapV G N ca es ks idf) : keysB (.int .i64) es = true := by rw [h.es]; exact keysB_ks ks
theorem MapV.fst (h : MapV G N ca es ks idf) : es.map (·.1) = ks.map keyZ := by rw [h.es, List.map_map]; rfl
theorem MapV.hit (h : MapV G N ca es ks idf) {q : Int} (hq : q ∈ ks) : lookM (.int .i64 q) es = some (.own (idf q) 0 (versS ca q).length) := by rw [h.es]; exact (lookM_ks q ks).trans (if_pos hq)
theorem MapV.miss (h : MapV G N ca es ks idf) {q : Int} (hq : q ∉ ks) : lookM (.int .i64 q) es = none := by rw [h.es]; exact (lookM_ks q ks).trans (if_neg hq)

theorem vers_app (ca : List (Int × Sec)) (p : Int × Sec) (q : Int) : versS (ca ++ [p]) q = if p.1 = q then versS ca q ++ [p.2] else versS ca q := by
  unfold versS
  rw [List.filter_append, List.map_append]
  by_cases h : p.1 = q <;> simp [h]

/-- A version more. -/
theorem MapV.put (h : MapV G N ca es ks idf) (p : Int × Sec) {m N' : Nat} {w : Bool} {G' : Nat → Option Blk} (hm : 3 ≤ m) (hN : N ≤ m) (hm' : m < N') (hnew : G' m = some (.cells 96 8 (encL encSec (versS ca p.1 ++ [p.2])) w true))
    (hold : ∀ q ∈ ks, q ≠ p.1 → G' (idf q) = G (idf q)) : ∃ ks' idf', MapV G' N' (ca ++ [p]) (putM (.int .i64 p.1) (.own m 0 ((versS ca p.1).length + 1)) es) ks' idf' := by
  have hv : ∀ q, versS (ca ++ [p]) q = if p.1 = q then versS ca q ++ [p.2] else versS ca q := vers_app ca p
  have hput := putM_ks (x := fun q => .own (idf q) 0 (versS ca q).length) (y := .own m 0 ((versS ca p.1).length + 1)) p.1 ks h.nodup
  refine ⟨if p.1 ∈ ks then ks else ks ++ [p.1], fun q => if q = p.1 then m else idf q, ?_⟩
  have hmem : ∀ q, q ∈ (if p.1 ∈ ks then ks else ks ++ [p.1]) ↔ q ∈ ks ∨ q = p.1 := fun q => by
    split
    · rename_i hin
      exact ⟨.inl, fun h => h.elim id fun h => h ▸ hin⟩
    · simp
  have hget : ∀ q, q ∈ ks ∨ q = p.1 → q ≠ p.1 → q ∈ ks := fun q h hne => h.resolve_right hne
  refine ⟨?_, ?_, fun q => ?_, fun q hq => ?_, fun q hq q' hq' he => ?_, fun q hq => ?_⟩
  · rw [h.es]
    refine hput.trans ?_
    by_cases hin : p.1 ∈ ks
    · simp only [hin, if_true]
      refine List.map_congr_left fun q _ => ?_
      rw [hv q]
      by_cases hq : q = p.1
      · subst hq; simp
      · simp [hq, Ne.symm hq]
    · simp only [hin, if_false, List.map_append, List.map_cons, List.map_nil]
      congr 1
      · refine List.map_congr_left fun q hq => ?_
        rw [hv q]
        have : q ≠ p.1 := fun e => hin (e ▸ hq)
        simp [this, Ne.symm this]
      · rw [hv]; simp
  · split
    · exact h.nodup
    · rename_i hin
      exact List.nodup_append.2 ⟨h.nodup, by simp, fun a ha b hb => by simp at hb; subst hb; rintro rfl; exact hin ha⟩
  · rw [hmem, hv, h.mem q]
    by_cases hq : p.1 = q
    · subst hq; simp
    · simp [hq, Ne.symm hq]
  · rw [hmem] at hq
    rw [hv]
    by_cases he : q = p.1
    · subst he
      simp only [if_true]
      exact ⟨w, hnew⟩
    · simp only [he, if_false, Ne.symm he]
      rw [hold q (hget q hq he) he]
      exact h.get q (hget q hq he)
  · rw [hmem] at hq hq'
    by_cases h1 : q = p.1 <;> by_cases h2 : q' = p.1
    · rw [h1, h2]
    · simp only [h1, h2, if_true, if_false] at he
      have := h.rng q' (hget q' hq' h2)
      omega
    · simp only [h1, h2, if_true, if_false] at he
      have := h.rng q (hget q hq h1)
      omega
    · simp only [h1, h2, if_false] at he
      exact h.inj q (hget q hq h1) q' (hget q' hq' h2) he
  · rw [hmem] at hq
    by_cases h1 : q = p.1
    · simp only [h1, if_true]; omega
    · simp only [h1, if_false]
      have := h.rng q (hget q hq h1)
      omega
end

def crashK (ca : List (Int × Sec)) (s : List Sec × List Int) (q : Int) : List Sec × List Int := crashStep ca s q.toNat
/-- The crash over the first k of some keys. -/
def crashL (ca : List (Int × Sec)) (st : List Sec) (c : List Int) (sk : List Int) (k : Nat) : List Sec × List Int := (sk.take k).foldl (crashK ca) (st, c)
theorem crashL_succ {ca : List (Int × Sec)} {st : List Sec} {c sk : List Int} {k : Nat} (h : k < sk.length) : crashL ca st c sk (k + 1) = crashStep ca (crashL ca st c sk k) (sk.getD k 0).toNat := by
  unfold crashL
  rw [List.take_succ_eq_append_getElem h, List.foldl_append]
  simp [h, crashK]
theorem crashL_len (ca : List (Int × Sec)) (st : List Sec) (c sk : List Int) : ∀ k, k ≤ sk.length → (crashL ca st c sk k).1.length = st.length
  | 0, _ => rfl
  | k + 1, h => by rw [crashL_succ (by omega), crashStep_len, crashL_len ca st c sk k (by omega)]
theorem crashL_ch (ca : List (Int × Sec)) (st : List Sec) (c sk : List Int) : ∀ k, k ≤ sk.length → (crashL ca st c sk k).2.length ≤ c.length
  | 0, _ => Nat.le_refl _
  | k + 1, h => by rw [crashL_succ (by omega)]; exact Nat.le_trans (crashStep_ch _ _ _) (crashL_ch ca st c sk k (by omega))

theorem leI_pw (n : Nat) (p : Nat → Bool) : (((List.range n).filter p).map fun (i : Nat) => (i : Int)).Pairwise fun a b => leI a b = true := by
  rw [List.pairwise_map]
  refine List.Pairwise.filter _ ?_
  refine (List.pairwise_lt_range (n := n)).imp fun {a b} h => ?_
  simp only [leI, decide_eq_true_eq]; omega

theorem sorted_eq {ca : List (Int × Sec)} {n : Nat} {ks : List Int} (hin : ∀ c ∈ ca, 0 ≤ c.1 ∧ c.1 < (n : Int)) (hnd : ks.Nodup) (hmem : ∀ q, q ∈ ks ↔ versS ca q ≠ []) :
    ks.mergeSort leI = ((List.range n).filter fun (i : Nat) => decide (versS ca (i : Int) ≠ [])).map fun (i : Nat) => (i : Int) := by
  have hp : ks.Perm (((List.range n).filter fun (i : Nat) => decide (versS ca (i : Int) ≠ [])).map fun (i : Nat) => (i : Int)) := by
    refine (List.perm_ext_iff_of_nodup hnd ?_).2 fun q => ?_
    · exact List.pairwise_map.2 ((List.Pairwise.filter _ List.nodup_range).imp fun {a b} h h2 => h (Int.ofNat.inj h2))
    · rw [hmem]
      simp only [List.mem_map, List.mem_filter, List.mem_range, decide_eq_true_eq]
      constructor
      · intro h
        have h0 : 0 ≤ q ∧ q < (n : Int) := by
          cases hf : ca.filter (fun c => c.1 == q) with
          | nil => exact absurd (by unfold versS; rw [hf]; rfl) h
          | cons x r =>
            have hx : x ∈ ca.filter (fun c => c.1 == q) := by rw [hf]; simp
            rw [List.mem_filter] at hx
            have h1 := hin x hx.1
            have h2 : x.1 = q := by simpa using hx.2
            omega
        refine ⟨q.toNat, ⟨by omega, ?_⟩, by omega⟩
        rw [show ((q.toNat : Nat) : Int) = q by omega]; exact h
      · rintro ⟨i, ⟨_, h⟩, rfl⟩; exact h
  rw [mergeSort_of_perm_i hp]
  have tr : ∀ a b c : Int, leI a b = true → leI b c = true → leI a c = true := fun a b c h1 h2 => by simp only [leI, decide_eq_true_eq] at *; exact Int.le_trans h1 h2
  exact List.mergeSort_of_pairwise (leI_pw n _)

theorem crashL_all {ca : List (Int × Sec)} {st : List Sec} (c : List Int) {ks : List Int} (hin : ∀ c ∈ ca, 0 ≤ c.1 ∧ c.1 < (st.length : Int)) (hnd : ks.Nodup) (hmem : ∀ q, q ∈ ks ↔ versS ca q ≠ []) :
    crashL ca st c (ks.mergeSort leI) (ks.mergeSort leI).length = crashTo ca st c st.length := by
  unfold crashL crashTo
  rw [List.take_length, sorted_eq hin hnd hmem, List.foldl_map, List.foldl_filter]
  congr 1
  funext s i
  simp only [crashK, Int.toNat_natCast, decide_eq_true_eq]
  split
  · rfl
  · rename_i h
    have h0 : versS ca (i : Int) = [] := by simpa using h
    unfold crashStep
    rw [if_pos (by rw [h0]; rfl)]

theorem sort_mem {ks : List Int} {k : Nat} (h : k < (ks.mergeSort leI).length) : (ks.mergeSort leI).getD k 0 ∈ ks :=
  (List.mergeSort_perm ks leI).mem_iff.1 (getD_mem' 0 h)
theorem sort_len (ks : List Int) : (ks.mergeSort leI).length = ks.length := (List.mergeSort_perm ks leI).length_eq

theorem keys_rng {ca : List (Int × Sec)} {n : Nat} {ks : List Int} (hin : ∀ c ∈ ca, 0 ≤ c.1 ∧ c.1 < (n : Int)) (hnd : ks.Nodup) (hmem : ∀ q, q ∈ ks ↔ versS ca q ≠ []) {q : Int} (hq : q ∈ ks) : 0 ≤ q ∧ q < (n : Int) := by
  have h : q ∈ ks.mergeSort leI := (List.mergeSort_perm ks leI).mem_iff.2 hq
  rw [sorted_eq hin hnd hmem] at h
  simp only [List.mem_map, List.mem_filter, List.mem_range] at h
  obtain ⟨i, ⟨h1, _⟩, rfl⟩ := h
  omega
theorem keys_len {ca : List (Int × Sec)} {n : Nat} {ks : List Int} (hin : ∀ c ∈ ca, 0 ≤ c.1 ∧ c.1 < (n : Int)) (hnd : ks.Nodup) (hmem : ∀ q, q ∈ ks ↔ versS ca q ≠ []) : ks.length ≤ n := by
  rw [← sort_len, sorted_eq hin hnd hmem, List.length_map]
  exact Nat.le_trans (List.length_filter_le _ _) (by simp)
theorem tabG_B (l : List (Nat × Option Blk)) : tabG l = tabB (fun _ => none) l := by
  funext k
  show lookT k l = lookB (fun _ => none) k l
  induction l with
  | nil => rfl
  | cons p r ih =>
    obtain ⟨i, x⟩ := p
    simp only [lookT, lookB]
    rw [ih]
end Go.Proofs.YtkghiceeegindaaGreatDoor

/- A crash. -/
namespace Go.Proofs.YtkghiceeegindaaGreatDoor
open Go.Proofs Go.AL
set_option maxRecDepth 100000
set_option maxHeartbeats 1000000
set_option linter.unusedVariables false
set_option linter.unusedSimpArgs false
attribute [local irreducible] endA AW aops thenA blockA hold

theorem zholdsB {σ : AS} {env : List (Nat × Bool × AV)} {N : Nat} {G : Nat → Option Blk} {T : List (Nat × Option Blk)} (w : Holds σ env ⟨N, tabB G T⟩ := by
    ((repeat (refine holds_cons (by first | rfl | (simp (disch := omega) only [go_sem, *]; done) | (simp (disch := omega) only [go_sem, *]; rfl)) ?_)); (refine holds_nil (by simp only []; omega) ?_); (refine subB (by assumption) ?_ ?_); (next => ((repeat (first | refine sB_cons (by first | rfl | (simp (disch := omega) only [go_sem, *]; done) | (simp (disch := omega) only [go_sem, *]; rfl)) ?_ | refine sB_none ?_)); exact sB_nil)); (next => (simp only [keysOK, memK, or_false, false_or, or_true, true_or, and_true, true_and, Nat.le_refl] <;> omega)))) : Holds σ env ⟨N, tabB G T⟩ := w
abbrev nilV : AV := .c (.slice none 0 0)
def HeadM (d : Dsk) (c : List Int) (n : Nat) (env : List (Nat × Bool × AV)) (H : Heap) : Prop :=
  ∃ (j N : Nat) (G : Nat → Option Blk) (es : List (Value × AV)) (ks : List Int) (idf : Int → Nat), n = d.ca.length - j ∧ j ≤ d.ca.length ∧ 3 ≤ N ∧ MapV G N (d.ca.take j) es ks idf ∧ (∀ id, N ≤ id → G id = none) ∧
    env = [(23, true, zV (j : Int)), (22, true, zV (d.ca.length : Int)), (21, true, .snap (encL encCa d.ca)), (6, true, .omap 2), (4, true, .ptr 1 0 0), (2, true, .ptr 0 0 0), (1, true, .snap (encL intRow c))] ∧
    H = ⟨N, tabB G [(0, some (.cells 25 2 [[.snap (encL encSec d.st), .snap (encL encCa d.ca)]] true false)), (1, some (.cells 25 2 [[nilV, nilV]] true false)), (2, some (.map es))]⟩
def HeadCr (d : Dsk) (c sk : List Int) (G : Nat → Option Blk) (N : Nat) (es : List (Value × AV)) (n : Nat) (env : List (Nat × Bool × AV)) (H : Heap) : Prop :=
  ∃ (k N2 : Nat), n = sk.length - k ∧ k ≤ sk.length ∧ N + 3 ≤ N2 ∧
    env = [(48, true, zV (k : Int)), (47, true, zV (sk.length : Int)), (46, true, .snap (encL intRow sk)), (10, true, .snap (encL intRow (crashL d.ca d.st c sk k).2)), (9, true, .ptr (N + 1) 0 0), (6, true, .omap 2), (4, true, .ptr 1 0 0)] ∧
    H = ⟨N2, tabB G [(0, none), (1, some (.cells 25 2 [[nilV, nilV]] true false)), (2, some (.map es)), (N + 1, some (.cells 25 2 [[.own N 0 d.st.length, nilV]] true false)), (N, some (.cells 96 8 (encL encSec (crashL d.ca d.st c sk k).1) true true))]⟩
theorem crash_e (d : Dsk) (c : List Int) (hL : c.length ≤ 1000000) (h1 : d.st.length ≤ 1000000) (h2 : d.ca.length ≤ 1000000) (hc : dskE d ≠ 0) : PC 97 [.agg (encD d), .snap (encL intRow c)] (.tup [.agg (encD (crashS d c).1), .snap (encL intRow (crashS d c).2)]) := by
  refine pstart Tryz.func97 Tryz.ntmps97 (by simp only [go_sem, encD]) ?_
  have hS : crashS d c = (d, c) := if_neg hc
  have c1 := dcheck_p d h1 h2
  rw [hS]
  clear hS
  unfold encD at *
  refine zgo2 ?_
  exact zfin
theorem inAll_of {d : Dsk} (h : dskE d = 0) : (∀ c ∈ d.ca, 0 ≤ c.1 ∧ c.1 < (d.st.length : Int)) ∧ d.st.length ≤ 4096 := ⟨(dskE_ok h).2, (dskE_ok h).1⟩
theorem crash_1 (d : Dsk) (c : List Int) (hne : d.st ≠ []) (hL : c.length ≤ 1000000) (hC : d.ca.length ≤ 400000) (hc : dskE d = 0) : PC 97 [.agg (encD d), .snap (encL intRow c)] (.tup [.agg (encD (crashS d c).1), .snap (encL intRow (crashS d c).2)]) := by
  refine pstart Tryz.func97 Tryz.ntmps97 (by simp only [go_sem, encD]) ?_
  have hin := (inAll_of hc).1
  have hst := (inAll_of hc).2
  have hS : crashS d c = (⟨(crashTo d.ca d.st c d.st.length).1, []⟩, (crashTo d.ca d.st c d.st.length).2) := if_pos hc
  rw [hS]
  have c1 := dcheck_p d (by omega) (by omega)
  rw [hc] at c1
  have hgc := gC d.ca
  have hx0 : ∀ (x : Int) (s : Sec), (encL encCa [(x, s)])[0]? = some (zV x :: encSec s) := fun _ _ => rfl
  have hbs : (IntKind.i64 == IntKind.i64) = true := rfl
  have hx : Lat (∀ r : List AV, (encL encCa [(0, zSec)]).set 0 r = [r]) := ⟨fun _ => rfl⟩
  clear hS hc
  unfold encD at *
  refine zgo2 ?_
  refine w_loop (HeadM d c) d.ca.length ?_ ?_
  · refine ⟨_, _, ⟨0, 1000, fun _ => none, [], [], fun _ => 0, by omega, by omega, by omega, MapV.start, fun _ _ => rfl, rfl, rfl⟩, ?_⟩
    rw [← tabG_B]
    exact zholds
  · rintro n env H ⟨j, N, G, es, ks, idf, rfl, hj, hN, hM, hG, rfl, rfl⟩
    have hk := hM.keys
    simp only [go_sem] at hk
    by_cases hlt : j < d.ca.length
    · have htk : Lat (d.ca.take (j + 1) = d.ca.take j ++ [d.ca.getD j (0, zSec)]) := ⟨by
        rw [List.take_succ_eq_append_getElem hlt]; simp [hlt]⟩
      have hvb : (versS (d.ca.take j) (d.ca.getD j (0, zSec)).1).length ≤ 500000 := Nat.le_trans (vers_len _ _) (by simp; omega)
      have hgj := hgc j hlt
      clear hgc hin
      by_cases hq : (d.ca.getD j (0, zSec)).1 ∈ ks
      · have hl := hM.hit hq
        obtain ⟨w, hm⟩ := hM.get _ hq
        have hr := hM.rng _ hq
        have hinj : Lat (∀ q ∈ ks, idf q = idf (d.ca.getD j (0, zSec)).1 → q = (d.ca.getD j (0, zSec)).1) := ⟨fun q hq' (he : idf q = idf (d.ca.getD j (0, zSec)).1) => hM.inj q hq' _ hq he⟩
        generalize idf (d.ca.getD j (0, zSec)).1 = m at hl hm hr hinj
        have hM' : Lat (MapV G N (d.ca.take j) es ks idf) := ⟨hM⟩
        clear hM
        refine zgo2 ?_
        have hx1 := hx.out
        refine zgo2 ?_
        obtain ⟨ks', idf', hM''⟩ := hM'.out.put (d.ca.getD j (0, zSec)) (m := N + 1 + 1 + 10) (N' := N + 1000) (w := w) (G' := tabB G [(m, none), (N + 1 + 1 + 10, some (.cells 96 8 (encL encSec (versS (d.ca.take j) (d.ca.getD j (0, zSec)).1 ++ [(d.ca.getD j (0, zSec)).2])) w true))])
          (by omega) (by omega) (by omega) (by simp only [tabB, lookB]; rw [if_neg (by omega), if_pos trivial]) (fun q hq1 hq2 => by
            have h1 := hM'.out.rng q hq1
            have h2 : idf q ≠ m := fun e => hq2 (hinj.out q hq1 e)
            simp only [tabB, lookB]; rw [if_neg h2, if_neg (by omega)])
        refine ⟨d.ca.length - (j + 1), by omega, _, _, ⟨j + 1, N + 1000, _, _, ks', idf', rfl, by omega, by omega, by rw [htk.out]; exact hM'', tabB_free hG (by omega) (by simp only [keysLt, and_true] <;> omega), rfl, rfl⟩, ?_⟩
        rw [tabB_tabB]
        simp only [List.cons_append, List.nil_append]
        exact zholdsB
      · have hl := hM.miss hq
        have h0 : versS (d.ca.take j) (d.ca.getD j (0, zSec)).1 = [] := by
          have := mt (hM.mem (d.ca.getD j (0, zSec)).1).2 hq
          simpa using this
        have hM' : Lat (MapV G N (d.ca.take j) es ks idf) := ⟨hM⟩
        clear hM
        refine zgo2 ?_
        have hx1 := hx.out
        refine zgo2 ?_
        obtain ⟨ks', idf', hM''⟩ := hM'.out.put (d.ca.getD j (0, zSec)) (m := N + 1 + 1 + 10) (N' := N + 1000) (w := true) (G' := tabB G [(N + 1 + 1 + 10, some (.cells 96 8 (encL encSec [(d.ca.getD j (0, zSec)).2]) true true))])
          (by omega) (by omega) (by omega) (by rw [h0]; simp only [tabB, lookB]; rw [if_pos trivial]; rfl) (fun q hq1 hq2 => by
            have h1 := hM'.out.rng q hq1
            simp only [tabB, lookB]; rw [if_neg (by omega)])
        rw [h0] at hM''
        simp only [List.length_nil, Nat.zero_add] at hM''
        refine ⟨d.ca.length - (j + 1), by omega, _, _, ⟨j + 1, N + 1000, _, _, ks', idf', rfl, by omega, by omega, by rw [htk.out]; exact hM'', tabB_free hG (by omega) (by simp only [keysLt, and_true] <;> omega), rfl, rfl⟩, ?_⟩
        rw [tabB_tabB]
        simp only [List.cons_append, List.nil_append]
        exact zholdsB
    · obtain rfl : j = d.ca.length := by omega
      rw [List.take_length] at hM
      have hfst := hM.fst
      have hesl : es.length = ks.length := by rw [hM.es]; simp
      have hkrng : ∀ q ∈ ks, 0 ≤ q ∧ q < d.st.length := fun q hq => keys_rng hin hM.nodup hM.mem hq
      have hkl : ks.length ≤ d.st.length := keys_len hin hM.nodup hM.mem
      have cS := cloneS_o d.st hne (by omega)
      have hM' : Lat (MapV G N d.ca es ks idf) := ⟨hM⟩
      clear hgc hM
      refine zgo2 ?_
      refine zin Tryz.func136 Tryz.ntmps136 ?_
      refine zgo2 ?_
      refine w_callA (args := [.fn (.func 166) [] [.ptr (N + 3) 0 0]]) (n := 135) rfl rfl ?hc (sorted_a (bid := N + 3) (id := 2) (w := true) (a := false) (es := es) (ks := ks) ?ha ?hb hfst ?hd (by omega)) ?hrest
      case hc => simp (maxSteps := 2000000) (disch := omega) only [go_sem, *] <;> rfl
      case ha => simp (maxSteps := 2000000) (disch := omega) only [go_sem, *] <;> rfl
      case hb => simp (maxSteps := 2000000) (disch := omega) only [go_sem, *] <;> rfl
      case hd => exact fun q hq => by have := hkrng q hq; unfold InI; omega
      case hrest =>
        rintro r H' ⟨rfl, rfl⟩
        have hskl := sort_len ks
        have hskm : Lat (∀ k, k < (ks.mergeSort leI).length → (ks.mergeSort leI).getD k 0 ∈ ks) := ⟨fun k h => sort_mem (ks := ks) h⟩
        have hall : Lat (_ = _) := ⟨crashL_all c hin hM'.out.nodup hM'.out.mem⟩
        have hkr2 : Lat (∀ q ∈ ks, 0 ≤ q ∧ q < (d.st.length : Int)) := ⟨hkrng⟩
        clear hkrng hin
        generalize ks.mergeSort leI = sk at hskl hskm hall
        have hsk3 : sk.length ≤ 4096 := by omega
        have hskl' := Lat.mk hskl
        clear hskl
        have hgi := gI sk
        have hgs := gS
        refine zgo2 ?_
        refine w_loop (HeadCr d c sk G N es) sk.length ?_ ?_
        · refine ⟨_, _, ⟨0, N + 1000, by omega, by omega, by omega, rfl, rfl⟩, ?_⟩
          exact zholdsB
        · rintro n env H ⟨k, N2, rfl, hk2, hN2, rfl, rfl⟩
          have hlen := crashL_len d.ca d.st c sk k hk2
          have hch := crashL_ch d.ca d.st c sk k hk2
          by_cases hlt : k < sk.length
          · have hq := hskm.out k hlt
            have hqr := hkr2.out _ hq
            have hl := hM'.out.hit hq
            obtain ⟨w, hm⟩ := hM'.out.get _ hq
            have hr := hM'.out.rng _ hq
            have hvn := (hM'.out.mem _).1 hq
            have hvb := vers_len d.ca (sk.getD k 0)
            have hsu := crashL_succ (ca := d.ca) (st := d.st) (c := c) hlt
            have hqn : (((sk.getD k 0).toNat : Nat) : Int) = sk.getD k 0 := by omega
            unfold crashStep at hsu
            rw [hqn] at hsu
            have hv0 : ¬ (versS d.ca (sk.getD k 0)).length = 0 := fun h => hvn (List.eq_nil_of_length_eq_zero h)
            rw [if_neg hv0] at hsu
            generalize idf (sk.getD k 0) = m at hl hm hr
            generalize versS d.ca (sk.getD k 0) = V at *
            have hdr := decN_rng (crashL d.ca d.st c sk k).2 (n := (V.length : Int) + 1) (by omega)
            have hdl := decN_len (crashL d.ca d.st c sk k).2 ((V.length : Int) + 1)
            have hd := decide_p (crashL d.ca d.st c sk k).2 ((V.length : Int) + 1) (by omega) (by omega) (by omega)
            generalize decN (crashL d.ca d.st c sk k).2 ((V.length : Int) + 1) = q at hdr hdl hd hsu
            have hgk := hgi k hlt
            clear hgi hv0 hvn hq hqn
            obtain ⟨q1, q2⟩ := q
            simp only [] at hdr hdl hd hsu
            obtain ⟨S, hS⟩ : ∃ S : Nat, sk.getD k 0 = (S : Int) := Int.eq_ofNat_of_zero_le hqr.1
            rw [hS] at hgk hsu hqr hl
            rw [Int.toNat_natCast] at hsu
            have hS' := Lat.mk hS
            clear hS
            by_cases hn : 0 < q1
            · rw [if_pos hn] at hsu
              obtain ⟨Q, rfl⟩ : ∃ Q : Nat, q1 = (Q : Int) + 1 := ⟨(q1 - 1).toNat, by omega⟩
              have e1 : (Q : Int) + 1 - 1 = (Q : Int) := by omega
              rw [e1, Int.toNat_natCast] at hsu
              have hsu' := Lat.mk hsu
              have w1 : IntKind.i64.wrap ((Q : Int) + 1 - 1) = (Q : Int) := by rw [e1]; exact IntWalk.i64_in _ (by omega)
              have hgv := hgs V Q (by omega)
              have hSl : S < (crashL d.ca d.st c sk k).1.length := by omega
              have hgw := hgs _ S hSl
              clear hsu hgs
              refine zgo2 ?_
              refine ⟨sk.length - (k + 1), by omega, _, _, ⟨k + 1, N2 + 1000, rfl, by omega, by omega, rfl, rfl⟩, ?_⟩
              rw [hsu'.out]
              exact zholdsB
            · rw [if_neg hn] at hsu
              have hsu' := Lat.mk hsu
              clear hsu hgs
              refine zgo2 ?_
              refine ⟨sk.length - (k + 1), by omega, _, _, ⟨k + 1, N2 + 1000, rfl, by omega, by omega, rfl, rfl⟩, ?_⟩
              rw [hsu'.out]
              exact zholdsB
          · obtain rfl : k = sk.length := by omega
            have htk : (crashL d.ca d.st c sk sk.length).1.take d.st.length = (crashL d.ca d.st c sk sk.length).1 := List.take_of_length_le (by omega)
            have cI := cloneI_p (crashL d.ca d.st c sk sk.length).2 (by omega)
            rw [← hall.out]
            clear hgi hgs
            have hem : encL encCa [] = [] := rfl
            refine zgo2 ?_
            exact zfin
end Go.Proofs.YtkghiceeegindaaGreatDoor

/- A crash, joined; an interruption. -/
namespace Go.Proofs.YtkghiceeegindaaGreatDoor
open Go.Proofs Go.AL
set_option maxRecDepth 100000
set_option maxHeartbeats 1000000
set_option linter.unusedVariables false
set_option linter.unusedSimpArgs false
attribute [local irreducible] endA AW aops thenA blockA hold

theorem crash_0 (c : List Int) (hL : c.length ≤ 1000000) : PC 97 [.agg (encD ⟨[], []⟩), .snap (encL intRow c)] (.tup [.agg (encD (crashS ⟨[], []⟩ c).1), .snap (encL intRow (crashS ⟨[], []⟩ c).2)]) := by
  refine pstart Tryz.func97 Tryz.ntmps97 (by simp only [go_sem, encD]) ?_
  have hS : crashS ⟨[], []⟩ c = (⟨[], []⟩, c) := rfl
  rw [hS]
  have c1 := dcheck_p ⟨[], []⟩ (Nat.zero_le _) (Nat.zero_le _)
  have h0 : dskE ⟨[], []⟩ = 0 := rfl
  rw [h0] at c1
  have e1 : encL encSec [] = [] := rfl
  have e2 : encL encCa [] = [] := rfl
  have hbs : (IntKind.i64 == IntKind.i64) = true := rfl
  unfold encD at *
  have cS := cloneS_p [] (Nat.zero_le _)
  simp only [e1, e2] at *
  refine zgo2 ?_
  refine w_rounds 1 ?_
  refine zgo2 ?_
  refine zin Tryz.func136 Tryz.ntmps136 ?_
  refine zgo2 ?_
  trace_state
  refine w_callA (args := [.fn (.func 166) [] [.ptr 5 0 0]]) (n := 135) rfl rfl ?hc (sorted_a (bid := 5) (id := 2) (w := true) (a := false) (es := []) (ks := []) ?ha ?hb rfl (fun q hq => by cases hq) (by simp)) ?hrest
  case hc => simp (maxSteps := 2000000) (disch := omega) only [go_sem, *] <;> rfl
  case ha => simp (maxSteps := 2000000) (disch := omega) only [go_sem, *] <;> rfl
  case hb => simp (maxSteps := 2000000) (disch := omega) only [go_sem, *] <;> rfl
  case hrest =>
    rintro r H' ⟨rfl, rfl⟩
    have h9 : ([] : List Int).mergeSort leI = [] := by simp
    rw [h9]
    have cI := cloneI_p c (by omega)
    have e3 : encL intRow [] = [] := rfl
    refine zgo2 ?_
    refine w_rounds 1 ?_
    refine zgo2 ?_
    exact zfin
theorem dcrash_p (d : Dsk) (c : List Int) (hL : c.length ≤ 1000000) (h1 : d.st.length ≤ 1000000) (hC : d.ca.length ≤ 400000) : PC 97 [.agg (encD d), .snap (encL intRow c)] (.tup [.agg (encD (crashS d c).1), .snap (encL intRow (crashS d c).2)]) := by
  by_cases hc : dskE d = 0
  · by_cases hs : d.st = []
    · have hca : d.ca = [] := by
        have h := (inAll_of hc).1
        rw [hs] at h
        cases hd : d.ca with
        | nil => rfl
        | cons x l => have := h x (by rw [hd]; simp); simp at this; omega
      obtain ⟨st, ca⟩ := d
      simp only at hs hca
      subst hca hs
      exact crash_0 c hL
    · exact crash_1 d c hs hL hC hc
  · exact crash_e d c hL h1 (by omega) hc
end Go.Proofs.YtkghiceeegindaaGreatDoor

/- An interruption; a new disk. -/
namespace Go.Proofs.YtkghiceeegindaaGreatDoor
open Go.Proofs Go.AL
set_option maxRecDepth 100000
set_option maxHeartbeats 1000000
set_option linter.unusedVariables false
set_option linter.unusedSimpArgs false
attribute [local irreducible] endA AW aops thenA blockA hold

/-- What an interruption leaves, the choices left over, the error. -/
def interE (d : Dsk) (ops : List Opr) (a : Int) (c : List Int) : Dsk × List Int × Int :=
  if dskE d = 0 then
    if a < 0 ∨ (ops.length : Int) < a then (dsk0, [], 2)
    else if (runE d (ops.take a.toNat)).2.2 = 0 then ((crashS (runE d (ops.take a.toNat)).1 c).1, (crashS (runE d (ops.take a.toNat)).1 c).2, 0)
    else (dsk0, [], (runE d (ops.take a.toNat)).2.2)
  else (dsk0, [], dskE d)
theorem inter_p (d : Dsk) (ops : List Opr) (a : Int) (c : List Int) (hL : c.length ≤ 1000000) (h1 : d.st.length ≤ 1000000) (ho : ops.length ≤ 1000000) (h2 : d.ca.length + ops.length * 4096 ≤ 400000) (h3 : (runE d (ops.take a.toNat)).1.st.length ≤ 1000000 ∧ (runE d (ops.take a.toNat)).1.ca.length ≤ 400000) : PC 42 [.agg (encD d), .snap (encL opRow ops), zV a, .snap (encL intRow c)] (.tup [.agg (encD (interE d ops a c).1), .snap (encL intRow (interE d ops a c).2.1), zV (interE d ops a c).2.2]) := by
  refine pstart Tryz.func42 Tryz.ntmps42 (by simp only [go_sem, encD]) ?_
  have c1 := dcheck_p d h1 (by omega)
  obtain ⟨M, hM⟩ : ∃ M, interE d ops a c = M := ⟨_, rfl⟩
  rw [hM]
  unfold interE at hM
  by_cases g1 : dskE d = 0
  · rw [if_pos g1] at hM
    rw [g1] at c1
    clear g1
    by_cases g2 : a < 0
    · rw [if_pos (by omega)] at hM
      subst hM
      unfold dsk0 encD at *
      simp only [] at *
      refine zgo2 ?_
      exact zfin
    by_cases g3 : (ops.length : Int) < a
    · rw [if_pos (by omega)] at hM
      subst hM
      unfold dsk0 encD at *
      simp only [] at *
      refine zgo2 ?_
      exact zfin
    rw [if_neg (by omega)] at hM
    obtain ⟨A, rfl⟩ := Int.eq_ofNat_of_zero_le (by omega : 0 ≤ a)
    have hA : A ≤ ops.length := by omega
    rw [Int.toNat_natCast] at hM
    have hlt : (ops.take A).length ≤ ops.length := by rw [List.length_take]; omega
    have c2 := drun_p d (ops.take A) h1 (by omega)
    rw [Int.toNat_natCast] at h3
    obtain ⟨h4, h5⟩ := h3
    have et : (encL opRow ops).take A = encL opRow (ops.take A) := by unfold encL; rw [List.map_take]
    generalize runE d (ops.take A) = R at *
    obtain ⟨x, n, e⟩ := R
    simp only [] at *
    have c3 := dcrash_p x c hL h4 h5
    generalize crashS x c = Y at *
    clear hlt
    by_cases g4 : e = 0
    · rw [if_pos g4] at hM
      subst hM
      have g5 : (e == 0) = true := by simp [g4]
      have g6 := Lat.mk g4
      rw [g4] at c2
      clear g4 g5
      unfold encD at *
      refine zgo2 ?_
      exact zfin
    · rw [if_neg g4] at hM
      subst hM
      unfold dsk0 encD at *
      simp only [] at *
      refine zgo2 ?_
      exact zfin
  · rw [if_neg g1] at hM
    subst hM
    generalize dskE d = e at *
    unfold dsk0 encD at *
    simp only [] at *
    refine zgo2 ?_
    exact zfin
/-- A new disk. -/
def newE2 (n : Int) : Dsk × Int := if n < 0 ∨ 4096 < n then (dsk0, 2) else (⟨zeros n, []⟩, 0)
theorem dnew_p (n : Int) : PC 46 [zV n] (.tup [.agg (encD (newE2 n).1), zV (newE2 n).2]) := by
  refine pstart Tryz.func46 Tryz.ntmps46 (by simp only [go_sem, encD]) ?_
  obtain ⟨M, hM⟩ : ∃ M, newE2 n = M := ⟨_, rfl⟩
  rw [hM]
  unfold newE2 at hM
  by_cases g2 : n < 0
  · rw [if_pos (by omega)] at hM
    subst hM
    unfold dsk0 encD at *
    simp only [] at *
    refine zgo2 ?_
    exact zfin
  by_cases g3 : 4096 < n
  · rw [if_pos (by omega)] at hM
    subst hM
    unfold dsk0 encD at *
    simp only [] at *
    refine zgo2 ?_
    exact zfin
  rw [if_neg (by omega)] at hM
  subst hM
  obtain ⟨A, rfl⟩ := Int.eq_ofNat_of_zero_le (by omega : 0 ≤ n)
  have hA : A ≤ 4096 := by omega
  have hAl : (List.replicate A zSec).length = A := List.length_replicate ..
  have hAt : (List.replicate A zSec).take A = List.replicate A zSec := List.take_of_length_le (by simp)
  have e2 : encL encCa [] = [] := rfl
  unfold zeros encD at *
  rw [Int.toNat_natCast]
  simp only [e2] at *
  refine zgo2 ?_
  exact zfin
end Go.Proofs.YtkghiceeegindaaGreatDoor
