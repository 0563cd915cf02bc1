/- What an event keeps; events as they are handed in. No condition. -/
import Derived.Test.YtelkpeoilneikaaWc
import Derived.Test.YtelkpeoilneikaaLc
import Derived.KernelRfl
import Derived.Deep.Slices
import Derived.Deep.Fields
import Derived.ChangeSame
/- An event, whole: what it answers and what it keeps. -/
namespace Go.Proofs.Ytelkpeoilneikaa
open Go.Proofs Go.AL
set_option linter.unusedVariables false
set_option linter.unusedSimpArgs false

def Vals (ms : List Msg) : Prop := ∀ m ∈ ms, 0 ≤ m.value ∧ m.value ≤ 20
theorem Vals.app {a b : List Msg} (h : Vals a) (k : Vals b) : Vals (a ++ b) := fun m hm => (List.mem_append.1 hm).elim (h m) (k m)
theorem vals_nil : Vals [] := fun m hm => by cases hm
theorem vals_one {m : Msg} (h : 0 ≤ m.value ∧ m.value ≤ 20) : Vals [m] := fun x hx => by rw [List.mem_singleton.1 hx]; exact h

theorem award_keep : ∀ (l : List Msg) (s : St), (l.foldl St.award s).flight = s.flight ∧ (l.foldl St.award s).sent = s.sent
  | [], s => ⟨rfl, rfl⟩
  | x :: l, s => by
    rw [List.foldl_cons]
    obtain ⟨h1, h2⟩ := award_keep l (s.award x)
    rw [h1, h2]
    unfold St.award
    split <;> exact ⟨rfl, rfl⟩

theorem recv_flight {N : Int} {st : St} {m : Msg} (h : Inv N st) (hm : IsReq N st m ∨ IsAns st m) : ∃ l, (st.receive m).flight = st.flight ++ l ∧ l.length ≤ 1 ∧ Vals l ∧ (st.receive m).sent = st.sent := by
  rcases hm with hm | hm
  · have hk : m.kind = 15 ∨ m.kind = 17 ∨ m.kind = 18 := by have := hm.kind; omega
    have hc := handle_cases (st.req m) (ok_req h hm) rfl h.u1 hk
    have hrec : st.receive m = (handleQ (st.req m)).2.foldl St.award (st.handled m) := by unfold St.receive; rw [if_pos hm.to]
    rw [hrec, (award_keep _ _).1, (award_keep _ _).2]
    refine ⟨(handleQ (st.req m)).2, rfl, ?_, ?_, rfl⟩
    · rcases hc with ⟨_, _, _, h4, _⟩ | ⟨_, _, _, h4⟩ | ⟨_, _, _, h4, _⟩ | ⟨_, _, _, h4⟩ <;> rw [h4] <;> simp
    · rcases hc with ⟨_, _, _, h4, _⟩ | ⟨_, _, _, h4⟩ | ⟨_, _, _, h4, _⟩ | ⟨_, _, _, h4⟩ <;> rw [h4]
      · exact vals_one ⟨by simp, by simp⟩
      · exact vals_one ⟨by simp, by simp⟩
      · exact vals_nil
      · exact vals_nil
  · have hn := hm.num
    have ht := hm.to
    have hrec : st.receive m = st.learned m := by
      unfold St.receive
      rw [if_neg (by omega), if_neg (by omega)]
    rw [hrec]
    exact ⟨[], by simp [St.learned, St.setL], by simp, vals_nil, rfl⟩

/-- After n events. -/
structure Big (n : Nat) (st : St) : Prop where
  inv : Inv (3 * (n : Int)) st
  now : st.now ≤ 8 * (n : Int)
  sent : st.sent.length ≤ n
  fl : st.flight.length ≤ n
  vals : Vals st.flight

theorem big_begin : Big 0 St.begin := ⟨inv_begin, by simp [St.begin], by simp [St.begin], by simp [St.begin], vals_nil⟩

def Grow (st st' : St) : Prop := st'.sent.length ≤ st.sent.length + 1 ∧ st'.flight.length ≤ st.flight.length + 1 ∧ (Vals st.flight → Vals st'.flight)
theorem grow_refl (st : St) : Grow st st := ⟨by omega, by omega, fun h => h⟩
theorem grow_request {st st0 : St} {m : Msg} (h1 : st0.sent = st.sent) (h2 : st0.flight = st.flight) (hv : 0 ≤ m.value ∧ m.value ≤ 20) : Grow st (st0.request m) :=
  ⟨by simp [St.request, h1], by simp [St.request, h2], fun h => by simp only [St.request, h2]; exact h.app (vals_one hv)⟩
theorem vals_drop {st : St} (h : Vals st.flight) (k : Nat) : Vals (st.drop k).flight := fun m hm => by
  simp only [St.drop, List.mem_append] at hm
  rcases hm with hm | hm
  · exact h m (List.mem_of_mem_take hm)
  · exact h m (List.mem_of_mem_drop hm)
theorem len_drop {st : St} {k : Nat} (h : k < st.flight.length) : (st.drop k).flight.length + 1 = st.flight.length := by
  simp only [St.drop, List.length_append, List.length_take, List.length_drop]
  omega
theorem drop_msg {N : Int} {st : St} {m : Msg} (h : IsReq N st m ∨ IsAns st m) (k : Nat) : IsReq N (st.drop k) m ∨ IsAns (st.drop k) m :=
  h.imp (fun r => ⟨r.to, r.frm, r.num, r.ep, r.kind⟩) (fun a => ⟨a.to, a.num, a.ep, a.kind⟩)

theorem grow_flight {N : Int} {st : St} (h : Inv N st) (kind which : Nat) : Grow st (st.flightEv kind which) := by
  unfold St.flightEv
  by_cases h0 : st.flight.length = 0
  · rw [if_pos h0]; exact grow_refl st
  · rw [if_neg h0]
    have hk : which % st.flight.length < st.flight.length := Nat.mod_lt _ (by omega)
    have hm := h.fl _ (getD_mem st.flight _ Msg.zero hk)
    have hl := len_drop hk
    by_cases h5 : kind = 5
    · rw [if_pos h5]; exact ⟨by simp [St.drop], by omega, fun hv => vals_drop hv _⟩
    · rw [if_neg h5]
      by_cases h4 : kind = 4
      · rw [if_pos h4]
        obtain ⟨l, h1, h2, h3, h6⟩ := recv_flight h hm
        exact ⟨by rw [h6]; omega, by rw [h1, List.length_append]; omega, fun hv => by rw [h1]; exact hv.app h3⟩
      · rw [if_neg h4]
        obtain ⟨l, h1, h2, h3, h6⟩ := recv_flight (inv_drop h (which % st.flight.length)) (drop_msg hm _)
        exact ⟨by rw [h6]; simp [St.drop], by rw [h1, List.length_append]; omega, fun hv => by rw [h1]; exact (vals_drop hv _).app h3⟩

theorem askM_value (s e u ep : Int) : 0 ≤ (askM s e u ep).value ∧ (askM s e u ep).value ≤ 20 := by
  unfold askM; repeat' split
  all_goals exact ⟨by simp [Msg.zero], by simp [Msg.zero]⟩
theorem renewM_value (s e u : Int) : 0 ≤ (renewM s e u).value ∧ (renewM s e u).value ≤ 20 := by
  unfold renewM; repeat' split
  all_goals exact ⟨by simp [Msg.zero], by simp [Msg.zero]⟩
theorem giveM_value (s e u : Int) : 0 ≤ (giveM s e u).value ∧ (giveM s e u).value ≤ 20 := by
  unfold giveM; repeat' split
  all_goals exact ⟨by simp [Msg.zero], by simp [Msg.zero]⟩

theorem grow_step {N : Int} {st : St} (h : Inv N st) (kind i which : Nat) : Grow st (st.step kind i which) := by
  unfold St.step
  split
  · split
    · exact grow_request rfl rfl (askM_value _ _ _ _)
    · exact grow_refl st
  · split
    · split
      · exact grow_request rfl rfl (renewM_value _ _ _)
      · exact grow_refl st
    · split
      · exact grow_request rfl rfl (giveM_value _ _ _)
      · split
        · exact ⟨by simp, by simp, fun h => h⟩
        · exact grow_flight h kind which

theorem big_step {n : Nat} {st : St} (h : Big n st) (hn : n < 66) {i : Nat} (hi : i < 3) (kind which : Nat) : Big (n + 1) (st.step kind i which) := by
  obtain ⟨g1, g2, g3⟩ := grow_step h.inv kind i which
  have h1 := inv_step h.inv (by omega) (by have := h.now; omega) hi kind which
  have h2 := step_now (st := st) kind i which
  have := h.now
  have := h.sent
  have := h.fl
  refine ⟨?_, by omega, by omega, by omega, g3 h.vals⟩
  rw [show 3 * ((n + 1 : Nat) : Int) = 3 * (n : Int) + 3 by omega]
  exact h1

theorem flight_p {n : Nat} {st : St} (h : Big n st) (hn : n ≤ 100) (K S Y : Nat) (hK : K < 256) (hS : S < 256) (hY : Y < 256) :
    PCall Try.prog 31 [.agg (encSt st), eV K S Y] (· = .agg (encSt (st.flightEv (K % 7) Y))) := by
  have hs : st.sent.length ≤ 1000 := by have := h.sent; omega
  have hf : st.flight.length ≤ 1000 := by have := h.fl; omega
  unfold St.flightEv
  by_cases h0 : st.flight.length = 0
  · rw [if_pos h0]; exact flight_e st K S Y hK hS hY hs hf h0
  · rw [if_neg h0]
    have hk : Y % st.flight.length < st.flight.length := Nat.mod_lt _ (by omega)
    have hmem := getD_mem st.flight _ Msg.zero hk
    have hm := h.inv.fl _ hmem
    have hv := h.vals _ hmem
    have hl := len_drop hk
    by_cases h5 : K % 7 = 5
    · rw [if_pos h5]; exact flight_5 st K S Y hK hS hY hs hf hk h5
    · rw [if_neg h5]
      by_cases h4 : K % 7 = 4
      · rw [if_pos h4]
        exact flight_4 st K S Y hK hS hY hs hf hk h4 _ (receive_p h.inv hm ⟨by omega, by omega⟩ hs hf)
      · rw [if_neg h4]
        exact flight_3 st K S Y hK hS hY hs hf hk h4 h5 _ (receive_p (inv_drop h.inv _) (drop_msg hm _) ⟨by omega, by omega⟩ (by simpa [St.drop] using hs) (by omega))

theorem step_p {n : Nat} {st : St} (h : Big n st) (hn : n ≤ 60) (K S Y : Nat) (hK : K < 256) (hS : S < 256) (hY : Y < 256) :
    PCall Try.prog 28 [.agg (encSt st), eV K S Y] (· = .agg (encSt (st.step (K % 7) (S % 3) Y))) := by
  have hs : st.sent.length ≤ 1000 := by have := h.sent; omega
  have hf : st.flight.length ≤ 1000 := by have := h.fl; omega
  have hE : 0 ≤ st.E ∧ st.E ≤ 200 := ⟨h.inv.e0, by have := h.inv.e1; omega⟩
  have hN : 0 ≤ st.now ∧ st.now ≤ 100000 := ⟨h.inv.now0, by have := h.inv.now1; omega⟩
  have hl : ∀ i, i < 3 → 0 ≤ (st.l i).e ∧ (st.l i).e ≤ 200 := fun i hi => ⟨(h.inv.le i hi).1, by have := (h.inv.le i hi).2; omega⟩
  have l0 := hl 0 (by omega)
  have l1 := hl 1 (by omega)
  have l2 := hl 2 (by omega)
  have h3 : S % 3 = 0 ∨ S % 3 = 1 ∨ S % 3 = 2 := by omega
  unfold St.step
  by_cases k0 : K % 7 = 0
  · rw [if_pos k0]
    have hk : (K : Int) % 7 = 0 := by omega
    rcases h3 with h3 | h3 | h3 <;> rw [h3] <;> split <;> rename_i ha
    · exact step0a0 st K S Y hK hS hY hs hf hE hN (by omega) l0 hk ha
    · exact step0n0 st K S Y hK hS hY hs hf hE hN (by omega) l0 hk ha
    · exact step0a1 st K S Y hK hS hY hs hf hE hN (by omega) l1 hk ha
    · exact step0n1 st K S Y hK hS hY hs hf hE hN (by omega) l1 hk ha
    · exact step0a2 st K S Y hK hS hY hs hf hE hN (by omega) l2 hk ha
    · exact step0n2 st K S Y hK hS hY hs hf hE hN (by omega) l2 hk ha
  · rw [if_neg k0]
    by_cases k1 : K % 7 = 1
    · rw [if_pos k1]
      have hk : (K : Int) % 7 = 1 := by omega
      rcases h3 with h3 | h3 | h3 <;> rw [h3] <;> split <;> rename_i ha
      · exact step1a0 st K S Y hK hS hY hs hf hE hN (by omega) l0 hk ha
      · exact step1n0 st K S Y hK hS hY hs hf hE hN (by omega) l0 hk ha
      · exact step1a1 st K S Y hK hS hY hs hf hE hN (by omega) l1 hk ha
      · exact step1n1 st K S Y hK hS hY hs hf hE hN (by omega) l1 hk ha
      · exact step1a2 st K S Y hK hS hY hs hf hE hN (by omega) l2 hk ha
      · exact step1n2 st K S Y hK hS hY hs hf hE hN (by omega) l2 hk ha
    · rw [if_neg k1]
      by_cases k2 : K % 7 = 2
      · rw [if_pos k2]
        have hk : (K : Int) % 7 = 2 := by omega
        rcases h3 with h3 | h3 | h3 <;> rw [h3]
        · exact step2a0 st K S Y hK hS hY hs hf hE hN (by omega) l0 hk
        · exact step2a1 st K S Y hK hS hY hs hf hE hN (by omega) l1 hk
        · exact step2a2 st K S Y hK hS hY hs hf hE hN (by omega) l2 hk
      · rw [if_neg k2]
        by_cases k6 : K % 7 = 6
        · rw [if_pos k6]
          exact step6 st K S Y hK hS hY hs hf hE hN (by omega)
        · rw [if_neg k6]
          exact step3 st K S Y hK hS hY hs hf hE hN (by omega) (by omega) (by omega) (by omega) _ (flight_p h (by omega) K S Y hK hS hY)
end Go.Proofs.Ytelkpeoilneikaa

namespace Go.Proofs.Ytelkpeoilneikaa
open Go.Proofs Go.AL
set_option maxRecDepth 100000
set_option maxHeartbeats 1000000
set_option linter.unusedVariables false
set_option linter.unusedSimpArgs false


abbrev Ev := Nat × Nat × Nat
def encEvs (es : List Ev) : List (List AV) := es.map fun x => [.c (.int .u8 x.1), .c (.int .u8 x.2.1), .c (.int .u8 x.2.2)]
theorem evs_len (es : List Ev) : (encEvs es).length = es.length := by simp [encEvs]
theorem evs_get {es : List Ev} {i : Nat} (h : i < es.length) : (encEvs es)[i]? = some [.c (.int .u8 (es.getD i (0, 0, 0)).1), .c (.int .u8 (es.getD i (0, 0, 0)).2.1), .c (.int .u8 (es.getD i (0, 0, 0)).2.2)] := by
  simp [encEvs, h]
theorem enc_len (st : St) : (encSt st).length = 96 := by simp only [encSt, List.length_cons, tail_len]
theorem enc_all (st : St) : (encSt st).all AV.one = true := by simp [encSt, tail_one, AV.one, Value.oneCell', iV]
theorem enc_take (st : St) : (encSt st).take 96 = encSt st := List.take_of_length_le (by rw [enc_len]; omega)
theorem enc_drop (st : St) : (encSt st).drop 96 = [] := List.drop_eq_nil_of_le (by rw [enc_len]; omega)
def EvOK (es : List Ev) : Prop := ∀ x ∈ es, x.1 < 256 ∧ x.2.1 < 256 ∧ x.2.2 < 256
theorem ev_ok {es : List Ev} (h : EvOK es) {k : Nat} (hk : k < es.length) : (es.getD k (0, 0, 0)).1 < 256 ∧ (es.getD k (0, 0, 0)).2.1 < 256 ∧ (es.getD k (0, 0, 0)).2.2 < 256 := h _ (getD_mem es k _ hk)
theorem nH_le {N : Int} {st : St} (h : Inv N st) : st.nH ≤ 1 := by
  unfold St.nH
  by_cases h0 : st.holds 0 = true <;> by_cases h1 : st.holds 1 = true <;> by_cases h2 : st.holds 2 = true
  · have := holds_one h (by omega) (by omega) h0 h1; omega
  · have := holds_one h (by omega) (by omega) h0 h1; omega
  · have := holds_one h (by omega) (by omega) h0 h2; omega
  · simp [h0, h1, h2]
  · have := holds_one h (by omega) (by omega) h1 h2; omega
  all_goals simp [h0, h1, h2]
theorem okH_t {N : Int} {st : St} (h : Inv N st) : st.okH = true := by
  have hk : ∀ i, i < 3 → (!st.holds i || st.okAt i) = true := fun i hi => by
    cases hh : st.holds i with
    | false => rfl
    | true =>
      obtain ⟨h1, h2, h3⟩ := holds_cov h hi hh
      simp [St.okAt, h1, h2, h3]
  simp only [St.okH, hk 0 (by omega), hk 1 (by omega), hk 2 (by omega), Bool.and_self]
/-- Head of the loop over the events. -/
def Head (es : List Ev) (n : Nat) (env : List (Nat × Bool × AV)) (H : Heap) : Prop :=
  ∃ k st m, n = es.length - k ∧ k ≤ es.length ∧ Big k st ∧ env = [(4, true, .c (.int .i64 (k : Int))), (3, true, .ptr 0 0 0), (2, true, .c (.bool false)), (0, true, .snap (encEvs es))] ∧ H = ⟨m, tabG [(0, some (.cells 58 96 [encSt st] true false))]⟩

end Go.Proofs.Ytelkpeoilneikaa

/- Events as they are handed in. -/
namespace Go.Proofs.Ytelkpeoilneikaa
open Go.Proofs Go.AL
open Go.ChangeShapes Go.WideShapes Go.Deep
set_option linter.unusedVariables false
set_option linter.unusedSimpArgs false

section
variable {H : Type} {enc : TypeId × Value → H} {P : Program} {w : World} {base : Nat} {spare : Nat → Bool} {held : Bool}
theorem open_slice_fields {t e : TypeId} {fs : Array Field} {fuel : Nat} {cs : List Value} {x : DataW H × List MemPlace} (ht : P.underlying t = some (.slice e)) (he : P.underlying e = some (.struct fs))
    (hone : oneCellFields P fs = true) (hC : P.cellsOf e = fs.size) (h : DataW.trod enc P w base spare held fuel t cs = some x) :
    cs = [.slice none 0 0] ∨
    ∃ (a : Addr) (len cap : Nat), cs = [.slice (some a) len cap] ∧ len ≤ cap ∧
      ∀ i, i < len → ∀ (j : Nat) (f : Field), fs[j]? = some f → ∃ (v : Value) (y : DataW H × List MemPlace) (n : Nat), w.cell? (a.add (i * fs.size + j)) = some v ∧ DataW.trod enc P w base spare held n f.type [v] = some y := by
  rcases open_slice ht h with ⟨h0, _⟩ | ⟨a, len, cap, m, n, D, Pl, hcs, hb, hl, hm, hmm, hx, hi⟩
  · exact .inl h0
  · refine .inr ⟨a, len, cap, hcs, hl, fun i hil j f hj => ?_⟩
    have him : i < m := by rw [hmm]; split <;> omega
    obtain ⟨cs', hc, ht'⟩ := hi i him
    rw [hC] at hc
    obtain ⟨ys, n', hn', hy, hlen, hyl, hf⟩ := DataW.trod_struct he ht'
    obtain ⟨_, hcl, hat⟩ := World.cells?_some hc
    obtain ⟨ho, hk⟩ := hone_of hone j f hj
    have hjl : j < fs.size := (Array.getElem?_eq_some_iff.1 hj).1
    have hcell := hat j hjl
    have hv : cs'[j]? = some (cs'[j]'(by omega)) := List.getElem?_eq_getElem (by omega)
    have h1 := hf j f hj
    rw [ho, hk] at h1
    have hone' : (cs'.drop j).take 1 = [cs'[j]'(by omega)] := by
      rw [List.drop_eq_getElem_cons (by omega)]
      rfl
    rw [hone'] at h1
    have hys : ys[j]? = some (ys[j]'(by omega)) := List.getElem?_eq_getElem (by omega)
    refine ⟨_, _, n', ?_, h1.trans hys⟩
    rw [← Go.Deep.add_add, hcell, hv]
end

def natOf : Option Value → Nat
  | some (.int _ n) => n.toNat
  | _ => 0

theorem cell_lt {W : World} {b k : Nat} {v : Value} (h : W.cell? ⟨b, k, none⟩ = some v) : k < capOf W b := by
  unfold World.cell? at h
  unfold capOf
  split at h
  · rename_i cs e f hb
    simp only [hb]
    split at h
    · cases h
    · exact (Array.getElem?_eq_some_iff.1 h).1
  · cases h

theorem open_evs {H : Type} {enc : TypeId × Value → H} {W : World} {base b0 : Nat} {r : Reach} {spare : Nat → Bool} {held : Bool} {v : Value} {d : DataW H} {p : List MemPlace} (hv : Value.okWide Try.prog W r b0 54 v) (h : DataW.Trod enc Try.prog W base spare held 54 v d p) :
    ∃ es : List Ev, EvOK es ∧ RV (Env0 (capOf W)) W (.snap (encEvs es)) v := by
  obtain ⟨a, len, cap, rfl⟩ := okWide_slice Try.underlying54 hv
  obtain ⟨fuel, hf⟩ := h
  have hcs : (Value.cells (Value.slice a len cap)).toList = [Value.slice a len cap] := rfl
  rw [hcs] at hf
  rcases open_slice_fields Try.underlying54 Try.underlying62 (by kernel_rfl) (by kernel_rfl) hf with h0 | ⟨a', len', cap', h0, hl, hi⟩
  · simp only [List.cons.injEq, Value.slice.injEq, and_true] at h0
    obtain ⟨rfl, rfl, rfl⟩ := h0
    exact ⟨[], ⟨(fun x hx => absurd hx (by simp)), .snap0 _ _⟩⟩
  · simp only [List.cons.injEq, Value.slice.injEq, and_true] at h0
    obtain ⟨rfl, rfl, rfl⟩ := h0
    obtain ⟨b, off, spot⟩ := a'
    have key : ∀ i, i < len → ∀ j, j < 3 → ∃ n : Nat, n < 256 ∧ spot = none ∧ W.cell? ⟨b, off + (i * 3 + j), none⟩ = some (.int .u8 n) := fun i hil j hj => by
      obtain ⟨f, hf1, hf2⟩ : ∃ f : Field, (#[{ name := "Kind", type := 5, offset := 0, embedded := false, tag := "", pkgPath := "", byteOffset := 0 }, { name := "Site", type := 5, offset := 1, embedded := false, tag := "", pkgPath := "", byteOffset := 1 }, { name := "Which", type := 5, offset := 2, embedded := false, tag := "", pkgPath := "", byteOffset := 2 }] : Array Field)[j]? = some f ∧ f.type = 5 := by
        match j, hj with
        | 0, _ | 1, _ | 2, _ => exact ⟨_, rfl, rfl⟩
      obtain ⟨f0, hf01, hf02⟩ : ∃ f : Field, (#[{ name := "Kind", type := 5, offset := 0, embedded := false, tag := "", pkgPath := "", byteOffset := 0 }, { name := "Site", type := 5, offset := 1, embedded := false, tag := "", pkgPath := "", byteOffset := 1 }, { name := "Which", type := 5, offset := 2, embedded := false, tag := "", pkgPath := "", byteOffset := 2 }] : Array Field)[0]? = some f ∧ f.type = 5 := ⟨_, rfl, rfl⟩
      have hspot : spot = none := by
        obtain ⟨v0, _, _, h0, _⟩ := hi 0 (by omega) 0 f0 hf01
        rw [show (0 * (#[{ name := "Kind", type := 5, offset := 0, embedded := false, tag := "", pkgPath := "", byteOffset := 0 }, { name := "Site", type := 5, offset := 1, embedded := false, tag := "", pkgPath := "", byteOffset := 1 }, { name := "Which", type := 5, offset := 2, embedded := false, tag := "", pkgPath := "", byteOffset := 2 }] : Array Field).size + 0) = 0 from rfl] at h0
        unfold Addr.add World.cell? at h0
        simp only [if_true] at h0
        split at h0
        · split at h0
          · cases h0
          · rename_i hs; simpa using hs
        · cases h0
      obtain ⟨v, y, n, h1, h2⟩ := hi i hil j f hf1
      rw [hf2] at h2
      obtain ⟨x, hx, _, hwf⟩ := DataW.trod_int Try.underlying5 h2
      simp only [List.cons.injEq, and_true] at hx
      subst hx
      have hb : 0 ≤ x ∧ x ≤ 255 := by simpa [Lit.wf, IntKind.min, IntKind.max, IntKind.signed, IntKind.bits] using hwf
      refine ⟨x.toNat, by omega, hspot, ?_⟩
      subst hspot
      rw [show ((x.toNat : Nat) : Int) = x by omega, ← h1]
      have hsz : (#[{ name := "Kind", type := 5, offset := 0, embedded := false, tag := "", pkgPath := "", byteOffset := 0 }, { name := "Site", type := 5, offset := 1, embedded := false, tag := "", pkgPath := "", byteOffset := 1 }, { name := "Which", type := 5, offset := 2, embedded := false, tag := "", pkgPath := "", byteOffset := 2 }] : Array Field).size = 3 := rfl
      rw [hsz]
      unfold Addr.add
      split
      · rename_i h0; rw [h0]; rfl
      · rfl
    have hcell : ∀ i, i < len → ∀ j, j < 3 → natOf (W.cell? ⟨b, off + (i * 3 + j), none⟩) < 256 ∧ spot = none ∧ W.cell? ⟨b, off + (i * 3 + j), none⟩ = some (.int .u8 (natOf (W.cell? ⟨b, off + (i * 3 + j), none⟩) : Nat)) := fun i hil j hj => by
      obtain ⟨n, h1, h2, h3⟩ := key i hil j hj
      rw [h3]
      simp only [natOf, Int.toNat_natCast]
      exact ⟨h1, h2, trivial⟩
    refine ⟨(List.range len).map fun i => (natOf (W.cell? ⟨b, off + (i * 3 + 0), none⟩), natOf (W.cell? ⟨b, off + (i * 3 + 1), none⟩), natOf (W.cell? ⟨b, off + (i * 3 + 2), none⟩)), fun x hx => ?_, ?_⟩
    · simp only [List.mem_map, List.mem_range] at hx
      obtain ⟨i, hil, rfl⟩ := hx
      exact ⟨(hcell i hil 0 (by omega)).1, (hcell i hil 1 (by omega)).1, (hcell i hil 2 (by omega)).1⟩
    · cases len with
      | zero => exact .snap0 _ _
      | succ len =>
      obtain rfl : spot = none := (hcell 0 (by omega) 0 (by omega)).2.1
      have hrow : ∀ (i : Nat) row, (encEvs ((List.range (len + 1)).map fun i => (natOf (W.cell? ⟨b, off + (i * 3 + 0), none⟩), natOf (W.cell? ⟨b, off + (i * 3 + 1), none⟩), natOf (W.cell? ⟨b, off + (i * 3 + 2), none⟩))))[i]? = some row →
          i < len + 1 ∧ row = [.c (.int .u8 (natOf (W.cell? ⟨b, off + (i * 3 + 0), none⟩) : Nat)), .c (.int .u8 (natOf (W.cell? ⟨b, off + (i * 3 + 1), none⟩) : Nat)), .c (.int .u8 (natOf (W.cell? ⟨b, off + (i * 3 + 2), none⟩) : Nat))] := fun i row hr => by
        simp only [encEvs, List.map_map, List.getElem?_map, Option.map_eq_some_iff] at hr
        obtain ⟨k, hk, rfl⟩ := hr
        rw [List.getElem?_eq_some_iff] at hk
        obtain ⟨hk1, hk2⟩ := hk
        simp only [List.length_range, List.getElem_range] at hk1 hk2
        subst hk2
        exact ⟨hk1, rfl⟩
      have hat : ∀ (i j : Nat) row x, (encEvs ((List.range (len + 1)).map fun i => (natOf (W.cell? ⟨b, off + (i * 3 + 0), none⟩), natOf (W.cell? ⟨b, off + (i * 3 + 1), none⟩), natOf (W.cell? ⟨b, off + (i * 3 + 2), none⟩))))[i]? = some row → row[j]? = some x →
          i < len + 1 ∧ j < 3 ∧ x = .c (.int .u8 (natOf (W.cell? ⟨b, off + (i * 3 + j), none⟩) : Nat)) := fun i j row x h1 h2 => by
        obtain ⟨hil, rfl⟩ := hrow i row h1
        match j, h2 with
        | 0, h2 | 1, h2 | 2, h2 => simp at h2; subst h2; exact ⟨hil, by omega, rfl⟩
        | n + 3, h2 => simp at h2
      refine .snap _ b off 3 (len + 1) cap (fun i j => .int .u8 (natOf (W.cell? ⟨b, off + (i * 3 + j), none⟩) : Nat)) (by simp [encEvs]) hl (fun i row hr => by rw [(hrow i row hr).2]; rfl) ?_ (fun i j row x h1 h2 => ?_) (fun i j row x h1 h2 => ?_)
      · have := cell_lt (hcell len (by omega) 2 (by omega)).2.2
        simp only [encEvs, List.length_map, List.length_range, Env0]
        omega
      · obtain ⟨hil, hj, rfl⟩ := hat i j row x h1 h2
        exact (hcell i hil j hj).2.2
      · obtain ⟨hil, hj, rfl⟩ := hat i j row x h1 h2
        exact .c _ rfl
end Go.Proofs.Ytelkpeoilneikaa
