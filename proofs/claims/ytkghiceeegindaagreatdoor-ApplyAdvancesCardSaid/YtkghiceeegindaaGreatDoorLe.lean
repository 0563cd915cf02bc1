/- Apply: a layer over the walks (Le). No condition but those named. -/
import Derived.Test.YtkghiceeegindaaGreatDoorLc
namespace Go.AL
set_option linter.unusedVariables false
set_option linter.unusedSimpArgs false
theorem pcallD (k : Nat) {P : Program} {n : FuncId} {fn : Func} {c : Code} {args : List AV} {Q : AV → Prop} (hf : P.funcs[n]? = some fn) (hb : fn.body = some c) (hnm : (fn.name == "runtime.NumGoroutine") = false) (hlen : args.length ≤ fn.ntmps)
    (h : AW P c ⟨envOf 0 args, ⟨0, tabG []⟩, fn.ntmps⟩ (hold (endA P fn.results.toList (hold (fun a H' => NoId (expoD H'.get k a) ∧ Q (expoD H'.get k a)) ⟨⟩)) ⟨⟩)) : PCall P n args Q := by
  have hA := acall hf hb hnm hlen h
  refine ⟨hA.1, fun L W vs hL hr => ?_⟩
  have hRH : RH (Env0 L) W ⟨0, tabG []⟩ := ⟨fun id h => h.elim, hL, fun id h => h.elim, fun id b h => by cases h⟩
  refine (hA.2 (Env0 L) W vs hRH hr).mono fun e W' ⟨v, he, E', r, H', hv, hH, hrv, hno, hq⟩ => ?_
  refine ⟨v, he, expoD H'.get k r, fun b => if b < W.heap.size then L b else max (E'.L b) (match W'.heap[b]? with | some (.cells cur _ _) => cur.size | _ => 0), ⟨hv.os, hv.tape, hv.output, hv.size, fun k hk => hv.foreign k hk fun id h => h.elim⟩, fun b hb' => ?_, fun b hb' => ?_, ?_, hno, hq⟩
  · simp [hb']
  · have h1 : ¬ b < W.heap.size := by have := hv.size; omega
    simp [h1, hH.core.lim b hb', Array.getElem?_eq_none hb']
  · refine expoD_ok hH.core (fun b => ?_) (fun id hU cur e f hc => ?_) k hrv hno
    · by_cases hb' : b < W.heap.size
      · rw [hv.still b hb' fun id h => h.elim]
        simp [hb', Env0]
      · simp [hb']; omega
    · have h1 : ¬ E'.ι id < W.heap.size := by
        rcases hv.fresh id (fun h => h) hU with h2 | ⟨id0, h2, _⟩
        · omega
        · exact h2.elim
      simp [h1, hc]; omega
theorem fcallD (k : Nat) {P : Program} {n : FuncId} {fn : Func} {c : Code} {args : List AV} {r : AV} (hf : P.funcs[n]? = some fn) (hb : fn.body = some c) (hnm : (fn.name == "runtime.NumGoroutine") = false) (hlen : args.length ≤ fn.ntmps)
    (h : AW P c ⟨envOf 0 args, ⟨0, tabG []⟩, fn.ntmps⟩ (hold (endA P fn.results.toList (hold (fun a H' => NoId (expoD H'.get k a) ∧ fresh H'.get k a = true ∧ expoD H'.get k a = r) ⟨⟩)) ⟨⟩)) : FCall P n args r := by
  have hA := acall hf hb hnm hlen h
  refine ⟨hA.1, fun L W vs hL hr => ?_⟩
  have hRH : RH (Env0 L) W ⟨0, tabG []⟩ := ⟨fun id h => h.elim, hL, fun id h => h.elim, fun id b h => by cases h⟩
  refine (hA.2 (Env0 L) W vs hRH hr).mono fun e W' ⟨v, he, E', a, H', hv, hH, hrv, hno, hfr, hq⟩ => ?_
  subst hq
  refine ⟨v, he, fun b => if b < W.heap.size then 0 else (match W'.heap[b]? with | some (.cells cur _ _) => cur.size | _ => 0), ⟨hv.os, hv.tape, hv.output, hv.size, fun k hk => hv.foreign k hk fun id h => h.elim⟩, fun b hb' => ?_, fun b hb' => ?_, ?_, hno⟩
  · simp [hb']
  · have h1 : ¬ b < W.heap.size := by have := hv.size; omega
    simp [h1, Array.getElem?_eq_none hb']
  · refine expoD_fresh hH.core (fun id hU cur e f hc => ?_) k hrv hfr
    have h1 : ¬ E'.ι id < W.heap.size := by
      rcases hv.fresh id (fun h => h) hU with h2 | ⟨id0, h2, _⟩
      · omega
      · exact h2.elim
    simp [h1, hc]
set_option linter.constructorNameAsVariable false
end Go.AL
namespace Go.AL
set_option linter.unusedVariables false
set_option linter.unusedSimpArgs false
theorem FCall.less {P : Program} {n : FuncId} {as bs : List AV} {a : AV} (h : FCall P n bs a) (hw : Wks as bs) : FCall P n as a :=
  ⟨h.1, fun L W vs hL hr => h.2 L W vs hL (hr.wk hw)⟩
theorem ostart {P : Program} {n : FuncId} {fn : Func} {c : Code} {args : List AV} {e : TypeId} {k : Nat} {rows : List (List AV)} {rs : List ResultVar} {nt : Nat} (hf : P.funcs[n]? = some fn) (hnt : fn.ntmps = nt) (ha : ∀ a ∈ args, NoId a) (hrows : ∀ row ∈ rows, ∀ x ∈ row, NoId x)
    (h : AW P c ⟨envOf 0 args, ⟨0, tabG []⟩, nt⟩ (hold (endA P rs (hold (fun a H' => ∃ i, a = .own i 0 rows.length ∧ H'.get i = some (.cells e k rows true true)) ⟨⟩)) ⟨⟩))
    (hb : fn.body = some c := by rfl) (hr : fn.results = List.toArray rs := by rfl) (hnm : (fn.name == "runtime.NumGoroutine") = false := by kernel_rfl) (hlen : args.length ≤ nt := by (simp only [List.length_cons, List.length_nil]; decide)) : OCall P n args e k rows := by
  refine ocall ha hrows hf hb hnm (by rw [hnt]; exact hlen) ?_
  rw [hnt, hr]
  exact h
theorem noId_sptr {rows : List (List AV)} {i o : Nat} : NoId (.sptr rows i o) ↔ ∀ row ∈ rows, ∀ x ∈ row, NoId x := ⟨fun h => by cases h; assumption, .sptr rows i o⟩
theorem noId_fn {f : Fn} {xs ys : List AV} : NoId (.fn f xs ys) ↔ (∀ x ∈ xs, NoId x) ∧ ∀ x ∈ ys, NoId x := ⟨fun h => by cases h; exact ⟨by assumption, by assumption⟩, fun h => .fn f xs ys h.1 h.2⟩
theorem pstart {P : Program} {n : FuncId} {fn : Func} {c : Code} {args : List AV} {b : AV} {rs : List ResultVar} {nt : Nat} (hf : P.funcs[n]? = some fn) (hnt : fn.ntmps = nt) (hno : NoId b)
    (h : AW P c ⟨envOf 0 args, ⟨0, tabG []⟩, nt⟩ (hold (endA P rs (hold (fun a H' => NoId (expo H'.get a) ∧ Wk (expo H'.get a) b) ⟨⟩)) ⟨⟩))
    (hb : fn.body = some c := by (first | rfl | fail)) (hr : fn.results = List.toArray rs := by (first | rfl | fail)) (hnm : (fn.name == "runtime.NumGoroutine") = false := by (first | kernel_rfl | fail)) (hlen : args.length ≤ nt := by (simp only [List.length_cons, List.length_nil]; decide)) : PCall P n args (· = b) := by
  refine PCall.wk ?_ hno
  refine pcall hf hb hnm (by rw [hnt]; exact hlen) ?_
  rw [hnt, hr]
  exact h
theorem pstartD {P : Program} {n : FuncId} {fn : Func} {c : Code} {args : List AV} {b : AV} {rs : List ResultVar} {nt : Nat} (hf : P.funcs[n]? = some fn) (hnt : fn.ntmps = nt) (hno : NoId b)
    (h : AW P c ⟨envOf 0 args, ⟨0, tabG []⟩, nt⟩ (hold (endA P rs (hold (fun a H' => NoId (expoD H'.get 4 a) ∧ Wk (expoD H'.get 4 a) b) ⟨⟩)) ⟨⟩))
    (hb : fn.body = some c := by (first | rfl | fail)) (hr : fn.results = List.toArray rs := by (first | rfl | fail)) (hnm : (fn.name == "runtime.NumGoroutine") = false := by (first | kernel_rfl | fail)) (hlen : args.length ≤ nt := by (simp only [List.length_cons, List.length_nil]; decide)) : PCall P n args (· = b) := by
  refine PCall.wk ?_ hno
  refine pcallD 4 hf hb hnm (by rw [hnt]; exact hlen) ?_
  rw [hnt, hr]
  exact h
theorem sc_ret {Q : Exit → AS → Prop} {σ : AS} (h : Q .ret σ) : scopeA Q .ret σ := h
theorem sc_norm {Q : Exit → AS → Prop} {σ : AS} (h : Q .normal σ) : scopeA Q .normal σ := h
section
variable {P : Program} {σ : AS} {Q : Exit → AS → Prop}
theorem zregion {id : Nat} {ops : Array Oper} {p : AS × List Oper} (h : aops P true ops p.2 p.1 (Q .normal)) (hd : ops.toList.all (dstIn σ.nt) = true := by (first | rfl | fail))
    (hr : run P ops.toList ops.toList σ = p := by (first | (simp (maxSteps := 2000000) (disch := omega) only [go_sem, *] <;> exact rfl) | fail)) : AW P (.region id ops false) σ Q := w_region hd hr h
theorem zcondT {c : Operand} {x y : Code} (h : AW P x σ Q) (hc : asB (σ.get true c) = some true := by (first | (simp (maxSteps := 2000000) (disch := omega) only [go_sem, *]; done) | fail)) : AW P (.cond c x y) σ Q := w_condT hc h
theorem zcondF {c : Operand} {x y : Code} (h : AW P y σ Q) (hc : asB (σ.get true c) = some false := by (first | (simp (maxSteps := 2000000) (disch := omega) only [go_sem, *]; done) | fail)) : AW P (.cond c x y) σ Q := w_condF hc h
theorem zsplit {c : Operand} {x y : Code} {b : Bool} (ht : b = true → AW P x σ Q) (hf : b = false → AW P y σ Q) (hc : asB (σ.get true c) = some b := by (first | (simp (maxSteps := 2000000) (disch := omega) only [go_sem, *] <;> exact rfl) | fail)) : AW P (.cond c x y) σ Q := w_cond hc ht hf
theorem zend {rs : List ResultVar} {Q : AV → Heap → Prop} {a : AV} (h : Q a σ.H) (ho : outA P σ rs = some a := by (first | (simp (maxSteps := 2000000) (disch := omega) only [go_sem, *] <;> exact rfl) | fail)) : endA P rs Q .ret σ := w_end ho h
theorem zendN {rs : List ResultVar} {Q : AV → Heap → Prop} {a : AV} (h : Q a σ.H) (ho : outA P σ rs = some a := by (first | (simp (maxSteps := 2000000) (disch := omega) only [go_sem, *] <;> exact rfl) | fail)) : endA P rs Q .normal σ := w_endN ho h
section
variable {ops : List Oper} {N0 i : Nat} {o : Oper} {r : List Oper} {σ'' : AS} {es : List Entry} {f : Operand} {as : Array Operand} {ts : Array TypeId} {n : FuncId}
theorem d_runZ {l : List Oper} {p : List Entry × AS × Nat × List Oper} (hr : runD P ops N0 i l σ = p) (h : DRun P ops N0 p.2.2.1 p.2.2.2 p.2.1 es σ'') : DRun P ops N0 i l σ (p.1 ++ es) σ'' := d_run hr h
theorem d_callPZ {args : List AV} {a : AV} (hop : o.op = .call ⟨.value f, as, ts⟩) (hg : o.guard = none)
    (hc : calleeA (σ.get true f) (getsA (σ.get true) as.toList) = some (n, args)) (hp : PCall P n args (· = a)) (hn : ∀ a ∈ args, NoId a) (h : DRun P ops N0 (i + 1) r (σ.app o.dst ⟨true, a, [], []⟩) es σ'') : DRun P ops N0 i (o :: r) σ (⟨true, a, [], []⟩ :: es) σ'' := d_callP hop hg hp hc hn h
theorem d_skipZ {j : Nat} {want : Bool} (hg : o.guard = some (j, want)) (hw : gcond (gval ops j σ.env) want = some false) (h : DRun P ops N0 (i + 1) r (σ.app o.dst ⟨false, .c (.bool false), [], []⟩) es σ'') : DRun P ops N0 i (o :: r) σ (⟨false, .c (.bool false), [], []⟩ :: es) σ'' :=
  .cons i o r σ _ es σ'' (.skip (by unfold gOK; rw [hg]; exact hw) rfl rfl) h
theorem d_callGZ {args : List AV} {a : AV} {j : Nat} {want c : Bool} (hop : o.op = .call ⟨.value f, as, ts⟩) (hg : o.guard = some (j, want))
    (hw : gcond (gval ops j σ.env) want = some c) (hc : calleeA (σ.get c f) (getsA (σ.get c) as.toList) = some (n, args)) (hp : PCall P n args (· = a)) (hn : ∀ a ∈ args, NoId a) (h : DRun P ops N0 (i + 1) r (σ.app o.dst ⟨c, a, [], []⟩) es σ'') : DRun P ops N0 i (o :: r) σ (⟨c, a, [], []⟩ :: es) σ'' := d_callG hop hg hw hp hc hn h
theorem d_callR {args0 args : List AV} {a : AV} {rd : List Nat} (hop : o.op = .call ⟨.value f, as, ts⟩) (hg : o.guard = none) (hc : calleeA (σ.get true f) (getsA (σ.get true) as.toList) = some (n, args0)) (he : args0.map (expoD σ.H.get 3) = args) (hrd : args0.flatMap (idsD σ.H.get 3) = rd) (hp : FCall P n args a) (hn : ∀ a ∈ args, NoId a)
    (h : DRun P ops N0 (i + 1) r (σ.app o.dst ⟨true, a, [], rd⟩) es σ'') : DRun P ops N0 i (o :: r) σ (⟨true, a, [], rd⟩ :: es) σ'' :=
  .cons i o r σ _ es σ'' (.rcall f as ts n args0 args 3 hop (by unfold gOK; rw [hg]) rfl hc he hn hp rfl fun x hx id hid => by rw [← hrd]; exact List.mem_flatMap.2 ⟨x, hx, hid⟩) h
theorem d_callRG {args0 args : List AV} {a : AV} {rd : List Nat} {j : Nat} {want : Bool} (hop : o.op = .call ⟨.value f, as, ts⟩) (hg : o.guard = some (j, want)) (hw : gcond (gval ops j σ.env) want = some true) (hc : calleeA (σ.get true f) (getsA (σ.get true) as.toList) = some (n, args0)) (he : args0.map (expoD σ.H.get 3) = args) (hrd : args0.flatMap (idsD σ.H.get 3) = rd) (hp : FCall P n args a) (hn : ∀ a ∈ args, NoId a)
    (h : DRun P ops N0 (i + 1) r (σ.app o.dst ⟨true, a, [], rd⟩) es σ'') : DRun P ops N0 i (o :: r) σ (⟨true, a, [], rd⟩ :: es) σ'' :=
  .cons i o r σ _ es σ'' (.rcall f as ts n args0 args 3 hop (by unfold gOK; rw [hg]; exact hw) rfl hc he hn hp rfl fun x hx id hid => by rw [← hrd]; exact List.mem_flatMap.2 ⟨x, hx, hid⟩) h
end
theorem zdraw {σ' : AS} {id : Nat} {ops : Array Oper} {es : List Entry} (h : Q .normal σ') (hm : P.follows .mixedOrders = true := by (first | kernel_rfl | fail)) (hs : statB ops = true := by (first | kernel_rfl | fail)) (hd : ops.toList.all (dstIn σ.nt) = true := by (first | rfl | fail))
    (hr : DRun P ops.toList σ.H.next 0 ops.toList { σ with H := ⟨σ.H.next + ops.size, σ.H.get⟩ } es σ' := by (first | (apply d_runZ; (next => (first | (simp (maxSteps := 2000000) (disch := omega) only [go_sem, *] <;> exact rfl) | fail)); (repeat (first | exact d_nil | (apply d_skipZ; (next => (first | rfl | fail)); (next => (first | (simp (maxSteps := 2000000) (disch := omega) only [go_sem, *] <;> exact rfl) | fail)); apply d_runZ; (next => (first | (simp (maxSteps := 2000000) (disch := omega) only [go_sem, *] <;> exact rfl) | fail))) | (apply d_callPZ; (next => (first | rfl | fail)); (next => (first | rfl | fail)); (next => (first | (simp (maxSteps := 2000000) (disch := omega) only [go_sem, *] <;> exact rfl) | fail)); (next => (first | assumption | (apply_assumption <;> first | assumption | omega) | fail)); (next => (first | (simp (maxSteps := 2000000) only [go_sem, noId_fn, noId_sptr, false_implies, implies_true, *]; done) | (simp [noId_c, noId_agg, noId_snap, noId_tup, noId_fn, noId_sptr, encL_noIdE, *]; done) | fail)); apply d_runZ; (next => (first | (simp (maxSteps := 2000000) (disch := omega) only [go_sem, *] <;> exact rfl) | fail))) | (apply d_callGZ; (next => (first | rfl | fail)); (next => (first | rfl | fail)); (next => (first | (simp (maxSteps := 2000000) (disch := omega) only [go_sem, *] <;> exact rfl) | fail)); (next => (first | (simp (maxSteps := 2000000) (disch := omega) only [go_sem, *] <;> exact rfl) | fail)); (next => (first | assumption | (apply_assumption <;> first | assumption | omega) | fail)); (next => (first | (simp (maxSteps := 2000000) only [go_sem, noId_fn, noId_sptr, false_implies, implies_true, *]; done) | (simp [noId_c, noId_agg, noId_snap, noId_tup, noId_fn, noId_sptr, encL_noIdE, *]; done) | fail)); apply d_runZ; (next => (first | (simp (maxSteps := 2000000) (disch := omega) only [go_sem, *] <;> exact rfl) | fail))) | (apply d_callR; (next => (first | rfl | fail)); (next => (first | rfl | fail)); (next => (first | (simp (maxSteps := 2000000) (disch := omega) only [go_sem, *] <;> exact rfl) | fail)); (next => (first | (simp (maxSteps := 2000000) (disch := omega) only [go_sem, *] <;> exact rfl) | fail)); (next => (first | (simp (maxSteps := 2000000) (disch := omega) only [go_sem, *] <;> exact rfl) | fail)); (next => (first | assumption | (apply_assumption <;> first | assumption | omega) | fail)); (next => (first | (simp (maxSteps := 2000000) only [go_sem, noId_fn, noId_sptr, false_implies, implies_true, *]; done) | (simp [noId_c, noId_agg, noId_snap, noId_tup, noId_fn, noId_sptr, encL_noIdE, *]; done) | fail)); apply d_runZ; (next => (first | (simp (maxSteps := 2000000) (disch := omega) only [go_sem, *] <;> exact rfl) | fail))) | (apply d_callRG; (next => (first | rfl | fail)); (next => (first | rfl | fail)); (next => (first | (simp (maxSteps := 2000000) (disch := omega) only [go_sem, *] <;> exact rfl) | fail)); (next => (first | (simp (maxSteps := 2000000) (disch := omega) only [go_sem, *] <;> exact rfl) | fail)); (next => (first | (simp (maxSteps := 2000000) (disch := omega) only [go_sem, *] <;> exact rfl) | fail)); (next => (first | (simp (maxSteps := 2000000) (disch := omega) only [go_sem, *] <;> exact rfl) | fail)); (next => (first | assumption | (apply_assumption <;> first | assumption | omega) | fail)); (next => (first | (simp (maxSteps := 2000000) only [go_sem, noId_fn, noId_sptr, false_implies, implies_true, *]; done) | (simp [noId_c, noId_agg, noId_snap, noId_tup, noId_fn, noId_sptr, encL_noIdE, *]; done) | fail)); apply d_runZ; (next => (first | (simp (maxSteps := 2000000) (disch := omega) only [go_sem, *] <;> exact rfl) | fail)))))) | fail))
    (hdyn : dynGo (tab ops.toList) 0 [] es = true := by (first | (simp (maxSteps := 2000000) (disch := omega) only [go_sem, nbeq_F, nbeq_T, *] <;> kernel_rfl) | fail)) : AW P (.region id ops true) σ Q := w_draw hm hs hd hr hdyn h
end
section
variable {P : Program} {σ : AS} {Q : Exit → AS → Prop}
theorem zcallH {ops : Array Oper} {o : Oper} {rest : List Oper} {K : AS → Prop} {f : Operand} {as : Array Operand} {ts : Array TypeId} {n : FuncId} {args : List AV} {r : AV} {p : AS × List Oper} (h : aops P true ops p.2 p.1 K) (hop : o.op = .call ⟨.value f, as, ts⟩ := by (first | rfl | fail)) (hg : o.guard = none := by (first | rfl | fail))
    (hc : calleeA (σ.get true f) (getsA (σ.get true) as.toList) = some (n, args) := by (first | (simp (maxSteps := 2000000) (disch := omega) only [go_sem, *] <;> exact rfl) | fail)) (hp : PCall P n args (· = r) := by (first | assumption | (apply_assumption <;> first | assumption | omega) | fail)) (hn : ∀ a ∈ args, NoId a := by (first | (simp (maxSteps := 2000000) only [go_sem, noId_fn, noId_sptr, false_implies, implies_true, *]; done) | (simp [noId_c, noId_agg, noId_snap, noId_tup, noId_fn, noId_sptr, encL_noIdE, *]; done) | fail))
    (hr : run P ops.toList rest (σ.put o.dst true r) = p := by (first | (simp (maxSteps := 2000000) (disch := omega) only [go_sem, *] <;> exact rfl) | fail)) : aops P true ops (o :: rest) σ K := w_callP hop hg hp hc hn hr h
theorem FCall.act {n : FuncId} {args0 args : List AV} {a : AV} {H : Heap} (k : Nat) (h : FCall P n args a) (he : args0.map (expoD H.get k) = args) (ha : ∀ a ∈ args, NoId a) : ACall P n args0 H fun r H' => r = a ∧ H' = H :=
  ⟨h.1, fun E W vs hH hr => (h.runR k he ha hH hH.core hr).mono fun e W' ⟨v, hev, L', h1, h2, h3⟩ => ⟨v, hev, _, a, H, h1, h2, h3, rfl, rfl⟩⟩
theorem zcallF {ops : Array Oper} {o : Oper} {rest : List Oper} {K : AS → Prop} {f : Operand} {as : Array Operand} {ts : Array TypeId} {n : FuncId} {args0 args : List AV} {r : AV} {p : AS × List Oper} (h : aops P true ops p.2 p.1 K) (hop : o.op = .call ⟨.value f, as, ts⟩ := by (first | rfl | fail)) (hg : o.guard = none := by (first | rfl | fail))
    (hc : calleeA (σ.get true f) (getsA (σ.get true) as.toList) = some (n, args0) := by (first | (simp (maxSteps := 2000000) (disch := omega) only [go_sem, *] <;> exact rfl) | fail)) (he : args0.map (expoD σ.H.get 3) = args := by (first | (simp (maxSteps := 2000000) (disch := omega) only [go_sem, *] <;> exact rfl) | fail)) (hp : FCall P n args r := by (first | assumption | (apply_assumption <;> first | assumption | omega) | fail)) (hn : ∀ a ∈ args, NoId a := by (first | (simp (maxSteps := 2000000) only [go_sem, noId_fn, noId_sptr, false_implies, implies_true, *]; done) | (simp [noId_c, noId_agg, noId_snap, noId_tup, noId_fn, noId_sptr, encL_noIdE, *]; done) | fail))
    (hr : run P ops.toList rest (σ.put o.dst true r) = p := by (first | (simp (maxSteps := 2000000) (disch := omega) only [go_sem, *] <;> exact rfl) | fail)) : aops P true ops (o :: rest) σ K :=
  w_callA hop hg hc (hp.act 3 he hn) fun r' H' ⟨h1, h2⟩ => by subst h1; subst h2; exact run_ok _ _ hr h
theorem zcallX {ops : Array Oper} {o : Oper} {rest : List Oper} {K : AS → Prop} {f : Operand} {as : Array Operand} {ts : Array TypeId} {n : FuncId} {args0 args : List AV} {r : AV} {G' : Nat → Option Blk} {p : AS × List Oper} (h : aops P true ops p.2 p.1 K) (hop : o.op = .call ⟨.value f, as, ts⟩ := by (first | rfl | fail)) (hg : o.guard = none := by (first | rfl | fail))
    (hc : calleeA (σ.get true f) (getsA (σ.get true) as.toList) = some (n, args0) := by (first | (simp (maxSteps := 2000000) (disch := omega) only [go_sem, *] <;> exact rfl) | fail)) (he : args0.map (expo2 σ.H.get) = args := by (first | (simp (maxSteps := 2000000) (disch := omega) only [go_sem, *] <;> exact rfl) | fail)) (hp : PCall P n args (· = r) := by (first | assumption | (apply_assumption <;> first | assumption | omega) | fail)) (hn : ∀ a ∈ args, NoId a := by (first | (simp (maxSteps := 2000000) only [go_sem, noId_fn, noId_sptr, false_implies, implies_true, *]; done) | (simp [noId_c, noId_agg, noId_snap, noId_tup, noId_fn, noId_sptr, encL_noIdE, *]; done) | fail))
    (hG : frz σ.H.get (idsAll ids2 args0) = G' := by (first | (simp (maxSteps := 2000000) (disch := omega) only [go_sem, *] <;> exact rfl) | fail)) (hr : run P ops.toList rest (({ σ with H := ⟨σ.H.next, G'⟩ } : AS).put o.dst true r) = p := by (first | (simp (maxSteps := 2000000) (disch := omega) only [go_sem, *] <;> exact rfl) | fail)) : aops P true ops (o :: rest) σ K := w_callX hop hg hp hc he hn hG hr h
theorem zcallXG {ops : Array Oper} {o : Oper} {rest : List Oper} {K : AS → Prop} {f : Operand} {as : Array Operand} {ts : Array TypeId} {n : FuncId} {args0 args : List AV} {r : AV} {G' : Nat → Option Blk} {p : AS × List Oper} {j : Nat} {want : Bool} (h : aops P true ops p.2 p.1 K) (hop : o.op = .call ⟨.value f, as, ts⟩ := by (first | rfl | fail)) (hg : o.guard = some (j, want) := by (first | rfl | fail))
    (hw : gcond (gval ops.toList j σ.env) want = some true := by (first | (simp (maxSteps := 2000000) (disch := omega) only [go_sem, *] <;> exact rfl) | fail))
    (hc : calleeA (σ.get true f) (getsA (σ.get true) as.toList) = some (n, args0) := by (first | (simp (maxSteps := 2000000) (disch := omega) only [go_sem, *] <;> exact rfl) | fail)) (he : args0.map (expo2 σ.H.get) = args := by (first | (simp (maxSteps := 2000000) (disch := omega) only [go_sem, *] <;> exact rfl) | fail)) (hp : PCall P n args (· = r) := by (first | assumption | (apply_assumption <;> first | assumption | omega) | fail)) (hn : ∀ a ∈ args, NoId a := by (first | (simp (maxSteps := 2000000) only [go_sem, noId_fn, noId_sptr, false_implies, implies_true, *]; done) | (simp [noId_c, noId_agg, noId_snap, noId_tup, noId_fn, noId_sptr, encL_noIdE, *]; done) | fail))
    (hG : frz σ.H.get (idsAll ids2 args0) = G' := by (first | (simp (maxSteps := 2000000) (disch := omega) only [go_sem, *] <;> exact rfl) | fail)) (hr : run P ops.toList rest (({ σ with H := ⟨σ.H.next, G'⟩ } : AS).put o.dst true r) = p := by (first | (simp (maxSteps := 2000000) (disch := omega) only [go_sem, *] <;> exact rfl) | fail)) : aops P true ops (o :: rest) σ K := w_callXG hop hg hp hw hc he hn hG hr h
theorem zcallO {ops : Array Oper} {o : Oper} {rest : List Oper} {K : AS → Prop} {f : Operand} {as : Array Operand} {ts : Array TypeId} {n : FuncId} {args : List AV} {el : TypeId} {k : Nat} {rows : List (List AV)} {p : AS × List Oper} (h : aops P true ops p.2 p.1 K) (hop : o.op = .call ⟨.value f, as, ts⟩ := by (first | rfl | fail)) (hg : o.guard = none := by (first | rfl | fail))
    (hc : calleeA (σ.get true f) (getsA (σ.get true) as.toList) = some (n, args) := by (first | (simp (maxSteps := 2000000) (disch := omega) only [go_sem, *] <;> exact rfl) | fail)) (hp : OCall P n args el k rows := by (first | assumption | (apply_assumption <;> first | assumption | omega) | fail))
    (hr : run P ops.toList rest (({ σ with H := ⟨σ.H.next + 1, upd σ.H.get [(σ.H.next, some (.cells el k rows true true))]⟩ } : AS).put o.dst true (.own σ.H.next 0 rows.length)) = p := by (first | (simp (maxSteps := 2000000) (disch := omega) only [go_sem, *] <;> exact rfl) | fail)) : aops P true ops (o :: rest) σ K := w_callO hop hg hp hc hr h
theorem zcallG {ops : Array Oper} {o : Oper} {rest : List Oper} {K : AS → Prop} {f : Operand} {as : Array Operand} {ts : Array TypeId} {n : FuncId} {args : List AV} {r : AV} {p : AS × List Oper} {j : Nat} {want c : Bool} (h : aops P true ops p.2 p.1 K) (hop : o.op = .call ⟨.value f, as, ts⟩ := by (first | rfl | fail)) (hg : o.guard = some (j, want) := by (first | rfl | fail))
    (hw : gcond (gval ops.toList j σ.env) want = some c := by (first | (simp (maxSteps := 2000000) (disch := omega) only [go_sem, *] <;> exact rfl) | fail)) (hc : calleeA (σ.get c f) (getsA (σ.get c) as.toList) = some (n, args) := by (first | (simp (maxSteps := 2000000) (disch := omega) only [go_sem, *] <;> exact rfl) | fail)) (hp : PCall P n args (· = r) := by (first | assumption | (apply_assumption <;> first | assumption | omega) | fail)) (hn : ∀ a ∈ args, NoId a := by (first | (simp (maxSteps := 2000000) only [go_sem, noId_fn, noId_sptr, false_implies, implies_true, *]; done) | (simp [noId_c, noId_agg, noId_snap, noId_tup, noId_fn, noId_sptr, encL_noIdE, *]; done) | fail)) (hr : run P ops.toList rest (σ.put o.dst c r) = p := by (first | (simp (maxSteps := 2000000) (disch := omega) only [go_sem, *] <;> exact rfl) | fail)) : aops P true ops (o :: rest) σ K := w_callG hop hg hw hp hc hn hr h
theorem zrun {ops : Array Oper} {l : List Oper} {K : AS → Prop} {p : AS × List Oper} (h : aops P true ops p.2 p.1 K) (hr : run P ops.toList l σ = p := by (first | (simp (maxSteps := 2000000) (disch := omega) only [go_sem, *] <;> exact rfl) | fail)) (hlt : Nat.blt p.2.length l.length = true := by (first | rfl | fail)) : aops P true ops l σ K := run_ok _ _ hr h
theorem zin {ops : Array Oper} {o : Oper} {rest : List Oper} {K : AS → Prop} {f : Operand} {as : Array Operand} {ts : Array TypeId} {n : FuncId} {fn : Func} {c : Code} {args : List AV} {nt : Nat} {rs : List ResultVar} (hf : P.funcs[n]? = some fn) (hnt : fn.ntmps = nt)
    (h : AW P c ⟨envOf 0 args, σ.H, nt⟩ (hold (endA P rs (hold (fun a H' => aops P true ops rest (({ σ with H := H' } : AS).put o.dst true a) K) ⟨⟩)) ⟨⟩))
    (hop : o.op = .call ⟨.value f, as, ts⟩ := by (first | rfl | fail)) (hg : o.guard = none := by (first | rfl | fail)) (hc : calleeA (σ.get true f) (getsA (σ.get true) as.toList) = some (n, args) := by (first | (simp (maxSteps := 2000000) (disch := omega) only [go_sem, *] <;> exact rfl) | fail))
    (hb : fn.body = some c := by rfl) (hr : fn.results = List.toArray rs := by rfl) (hnm : (fn.name == "runtime.NumGoroutine") = false := by kernel_rfl) (hlen : args.length ≤ nt := by (simp only [List.length_cons, List.length_nil]; decide)) : aops P true ops (o :: rest) σ K :=
  w_callI hf hb hnm hnt hop hg hc hlen (by rw [hr]; exact h)
theorem FOCall.act {n : FuncId} {args0 args : List AV} {a : AV} {el : TypeId} {k : Nat} {rows : List (List AV)} {ap : Bool} {H : Heap} (kk : Nat) (h : FOCall P n args a el k rows ap) (he : args0.map (expoD H.get kk) = args) (ha : ∀ a ∈ args, NoId a) : ACall P n args0 H fun r H' => r = renO H.next a ∧ H' = ⟨H.next + 1, upd H.get [(H.next, some (.cells el k rows true ap))]⟩ :=
  ⟨h.1, fun E W vs hH hr => (h.run kk he ha (fun hU => Nat.lt_irrefl _ (hH.next _ hU)) hH hH.core hr).mono fun e W' ⟨v, hev, E', h1, h2, h3, h4⟩ => ⟨v, hev, E', _, _, h1, ⟨fun id hid => by
    rcases h4 id hid with h5 | h5
    · exact Nat.lt_succ_of_lt (hH.next id h5)
    · subst h5; exact Nat.lt_succ_self _, h2⟩, h3, rfl, rfl⟩⟩
theorem zcallRO {ops : Array Oper} {o : Oper} {rest : List Oper} {K : AS → Prop} {f : Operand} {as : Array Operand} {ts : Array TypeId} {n : FuncId} {args0 args : List AV} {a : AV} {el : TypeId} {k : Nat} {rows : List (List AV)} {ap : Bool} {p : AS × List Oper} (h : aops P true ops p.2 p.1 K) (hop : o.op = .call ⟨.value f, as, ts⟩ := by (first | rfl | fail)) (hg : o.guard = none := by (first | rfl | fail))
    (hc : calleeA (σ.get true f) (getsA (σ.get true) as.toList) = some (n, args0) := by (first | (simp (maxSteps := 2000000) (disch := omega) only [go_sem, *] <;> exact rfl) | fail)) (he : args0.map (expoD σ.H.get 3) = args := by (first | (simp (maxSteps := 2000000) (disch := omega) only [go_sem, *] <;> exact rfl) | fail)) (hp : FOCall P n args a el k rows ap := by (first | assumption | (apply_assumption <;> first | assumption | omega) | fail)) (hn : ∀ a ∈ args, NoId a := by (first | (simp (maxSteps := 2000000) only [go_sem, noId_fn, noId_sptr, false_implies, implies_true, *]; done) | (simp [noId_c, noId_agg, noId_snap, noId_tup, noId_fn, noId_sptr, encL_noIdE, *]; done) | fail))
    (hr : run P ops.toList rest (({ σ with H := ⟨σ.H.next + 1, upd σ.H.get [(σ.H.next, some (.cells el k rows true ap))]⟩ } : AS).put o.dst true (renO σ.H.next a)) = p := by (first | (simp (maxSteps := 2000000) (disch := omega) only [go_sem, *] <;> exact rfl) | fail)) : aops P true ops (o :: rest) σ K :=
  w_callA hop hg hc (hp.act 3 he hn) fun r' H' ⟨h1, h2⟩ => by subst h1; subst h2; exact run_ok _ _ hr h
theorem datO_c {G : Nat → Option Blk} {kk j : Nat} {v : Value} : datO G kk j (.c v) = some (.c v) := by
  cases kk <;> simp [datO, fresh, kB, expoD, noIdB, idsD]
theorem rowO_c {G : Nat → Option Blk} {kk j : Nat} : ∀ {r : List AV}, (∀ x ∈ r, ∃ v, x = .c v) → rowO G kk j r = some r
  | [], _ => rfl
  | x :: r, h => by
    obtain ⟨v, rfl⟩ := h x (by simp)
    simp only [rowO, datO_c, rowO_c (r := r) fun y hy => h y (by simp [hy])]
theorem rowsO_c {G : Nat → Option Blk} {kk j : Nat} : ∀ {rows : List (List AV)}, (∀ r ∈ rows, ∀ x ∈ r, ∃ v, x = .c v) → rowsO G kk j rows = some rows
  | [], _ => rfl
  | r :: rows, h => by simp only [rowsO, rowO_c (h r (by simp)), rowsO_c (rows := rows) fun y hy => h y (by simp [hy])]
theorem fostart {n : FuncId} {fn : Func} {c : Code} {args : List AV} {e : TypeId} {k : Nat} {rows : List (List AV)} {rs : List ResultVar} {nt : Nat} (hf : P.funcs[n]? = some fn) (hnt : fn.ntmps = nt) (hrows : ∀ row ∈ rows, ∀ x ∈ row, ∃ v, x = .c v)
    (h : AW P c ⟨envOf 0 args, ⟨0, tabG []⟩, nt⟩ (hold (endA P rs (hold (fun a H' => ∃ i, a = .own i 0 rows.length ∧ H'.get i = some (.cells e k rows true true)) ⟨⟩)) ⟨⟩))
    (hb : fn.body = some c := by rfl) (hr : fn.results = List.toArray rs := by rfl) (hnm : (fn.name == "runtime.NumGoroutine") = false := by kernel_rfl) (hlen : args.length ≤ nt := by (simp only [List.length_cons, List.length_nil]; decide)) : FOCall P n args (.own 0 0 rows.length) e k rows true := by
  have hl : args.length ≤ fn.ntmps := by rw [hnt]; exact hlen
  refine focallD (f := ⟨.own 0 0 rows.length, e, k, rows, true⟩) 8 hf hb hnm hl ((acall (Q := fun a H' => ∃ i, a = .own i 0 rows.length ∧ H'.get i = some (.cells e k rows true true)) hf hb hnm hl (by rw [hnt, hr]; exact h)).mono fun r H' ⟨i, h1, h2⟩ => ?_)
  subst h1
  simp only [foOf, ownO, h2, mkO, rowsO_c hrows, resO, compO, Nat.beq_refl, cond]
theorem FOCall.nil {n : FuncId} {pre post : List AV} {a : AV} {el : TypeId} {k : Nat} {rows : List (List AV)} {ap : Bool} (h : ∀ b cap, FOCall P n (pre ++ .c (.slice b 0 cap) :: post) a el k rows ap) : FOCall P n (pre ++ .snap [] :: post) a el k rows ap :=
  ⟨(h none 0).1, fun L W vs hL hr => let ⟨b, cap, hx⟩ := rvs_nil hr; (h b cap).2 L W vs hL hx⟩
theorem FOCall.less {n : FuncId} {as bs : List AV} {a : AV} {el : TypeId} {k : Nat} {rows : List (List AV)} {ap : Bool} (h : FOCall P n bs a el k rows ap) (hw : Wks as bs) : FOCall P n as a el k rows ap :=
  ⟨h.1, fun L W vs hL hr => h.2 L W vs hL (hr.wk hw)⟩
theorem zmerge {c : Operand} {x y z : Code} {Q2 : Exit → AS → Prop} (env : List (Nat × Bool × AV)) (m : Nat) (T : List (Nat × Option Blk)) (h1 : AW P (.cond c x y) σ (fun e σ' => e = .normal ∧ Holds σ' env ⟨m, tabG T⟩)) (h2 : AW P z ⟨env, ⟨m, tabG T⟩, σ.nt⟩ Q2) : AW P (.cond c x y) σ (thenA (fun σ' => AW P z σ' Q2) Q) := fun ro E0 W act hro hr =>
  wpIn_mono (h1 ro E0 W act hro hr) fun e a w ⟨E', σ', h3, h4, h5, h6, h7⟩ => by
    subst h6
    exact ⟨E', σ', h3, h4, h5, aw_less h7 (by rw [h5]; exact h2)⟩
theorem astart {n : FuncId} {fn : Func} {c : Code} {args : List AV} {H : Heap} {R : AV → Heap → Prop} {rs : List ResultVar} {nt : Nat} (hf : P.funcs[n]? = some fn) (hnt : fn.ntmps = nt)
    (h : AW P c ⟨envOf 0 args, H, nt⟩ (hold (endA P rs (hold R ⟨⟩)) ⟨⟩))
    (hb : fn.body = some c := by rfl) (hr : fn.results = List.toArray rs := by rfl) (hnm : (fn.name == "runtime.NumGoroutine") = false := by kernel_rfl) (hlen : args.length ≤ nt := by (simp only [List.length_cons, List.length_nil]; decide)) : ACall P n args H R := by
  refine acall hf hb hnm (by rw [hnt]; exact hlen) ?_
  rw [hnt, hr]
  exact h
theorem zwhile {α : Type} {c : Code} (E : α → List (Nat × Bool × AV)) (T : α → List (Nat × Option Blk)) (R : Nat → α → Prop) (μ : α → Nat) (a0 : α) (h0 : ∃ m, R m a0 ∧ Holds σ (E a0) ⟨m, tabG (T a0)⟩)
    (hk : ∀ m a, R m a → AW P c ⟨E a, ⟨m, tabG (T a)⟩, σ.nt⟩ (thenA (fun σ' => ∃ m' a', μ a' < μ a ∧ R m' a' ∧ Holds σ' (E a') ⟨m', tabG (T a')⟩) Q)) : AW P (.loop c) σ Q := by
  obtain ⟨m, hR, hh⟩ := h0
  refine w_loop (fun n env H => ∃ m a, n = μ a ∧ R m a ∧ env = E a ∧ H = ⟨m, tabG (T a)⟩) (μ a0) ⟨_, _, ⟨m, a0, rfl, hR, rfl, rfl⟩, hh⟩ ?_
  rintro n env H ⟨m, a, rfl, hR', rfl, rfl⟩
  have h1 := hk m a hR'
  intro ro E0 W act hro hrel
  refine wpIn_mono (h1 ro E0 W act hro hrel) fun e a' w ⟨E', σ', h2, h3, h4, h5⟩ => ⟨E', σ', h2, h3, h4, ?_⟩
  cases e with
  | normal =>
    obtain ⟨m', a'', h8, h6, h7⟩ := h5
    exact ⟨μ a'', h8, _, _, ⟨m', a'', rfl, h6, rfl, rfl⟩, h7⟩
  | _ => exact h5
structure Eqv {α : Type} (a b : α) : Type where
  out : a = b
theorem zrange {g : Operand} {ps : Array Tmp} {assign body : Code} {n : FuncId} {fn : Func} {c : Code} {first cap : List AV} {nt : Nat} {args : List AV} {rs : List ResultVar} (hf : P.funcs[n]? = some fn) (hnt : fn.ntmps = nt)
    (h : ∀ R A B, Eqv R σ.env → Eqv A assign → Eqv B body → AW P c ⟨envOf 0 args, setB ⟨σ.H.next + 1, σ.H.get⟩ σ.H.next (some (.rcd R σ.nt ps.toList A B .ready none)), nt⟩
      (hold (endA P rs (hold (fun _ H' => rfK σ.H.next R σ.nt ps.toList A B (hold (fun e H2 => Q e ({ σ with H := H2 } : AS)) ⟨⟩) H') ⟨⟩)) ⟨⟩))
    (hg : σ.get true g = some (.fn (.func n) first cap) := by (first | (simp (maxSteps := 2000000) (disch := omega) only [go_sem, *] <;> exact rfl) | fail)) (ha : first ++ [AV.yld σ.H.next] ++ cap = args := by (first | (simp (maxSteps := 2000000) (disch := omega) only [go_sem, *] <;> exact rfl) | fail))
    (hb : fn.body = some c := by rfl) (hr : fn.results = List.toArray rs := by rfl) (hnm : (fn.name == "runtime.NumGoroutine") = false := by kernel_rfl) (hlen : args.length ≤ nt := by (simp only [List.length_cons, List.length_nil]; decide)) : AW P (.rangeFunc g ps assign body) σ Q :=
  w_rangeF hf hb hnm hnt hg ha hlen fun R A B hR hA hB => by rw [hr]; exact h R A B ⟨hR⟩ ⟨hA⟩ ⟨hB⟩
theorem zyield {ops : Array Oper} {o : Oper} {rest : List Oper} {K : AS → Prop} {f : Operand} {as : Array Operand} {ts : Array TypeId} {id : Nat} {args : List AV} {env env' : List (Nat × Bool × AV)} {nt : Nat} {ps : List Tmp} {A A' B : Code}
    (h : AW P A' ⟨bindPs ps args env', σ.H, nt⟩ (hold (endAsA P id env nt ps A B (hold (fun b H' => aops P true ops rest (({ σ with H := H' } : AS).put o.dst true (.c (.bool b))) K) ⟨⟩)) ⟨⟩))
    (hop : o.op = .call ⟨.value f, as, ts⟩ := by (first | rfl | fail)) (hg : o.guard = none := by (first | rfl | fail)) (hf : σ.get true f = some (.yld id) := by (first | (simp (maxSteps := 2000000) (disch := omega) only [go_sem, *] <;> exact rfl) | fail)) (ha : getsA (σ.get true) as.toList = some args := by (first | (simp (maxSteps := 2000000) (disch := omega) only [go_sem, *] <;> exact rfl) | fail)) (hr : σ.H.get id = some (.rcd env nt ps A B .ready none) := by (first | (simp (maxSteps := 2000000) (disch := omega) only [go_sem, *] <;> exact rfl) | fail))
    (he : Eqv env env' := by (first | assumption | fail)) (hA : Eqv A A' := by (first | assumption | fail)) (hl : args.length = ps.length := by (first | rfl | fail)) (hps : ps.all (fun p => decide (p < nt)) = true := by (first | rfl | fail)) : aops P true ops (o :: rest) σ K := w_yield hop hg he.out hA.out hf ha hr hl hps h
theorem zyieldG {ops : Array Oper} {o : Oper} {rest : List Oper} {K : AS → Prop} {f : Operand} {as : Array Operand} {ts : Array TypeId} {id : Nat} {args : List AV} {env env' : List (Nat × Bool × AV)} {nt : Nat} {ps : List Tmp} {A A' B : Code} {j : Nat} {want : Bool}
    (h : AW P A' ⟨bindPs ps args env', σ.H, nt⟩ (hold (endAsA P id env nt ps A B (hold (fun b H' => aops P true ops rest (({ σ with H := H' } : AS).put o.dst true (.c (.bool b))) K) ⟨⟩)) ⟨⟩))
    (hop : o.op = .call ⟨.value f, as, ts⟩ := by (first | rfl | fail)) (hg : o.guard = some (j, want) := by (first | rfl | fail)) (hw : gcond (gval ops.toList j σ.env) want = some true := by (first | (simp (maxSteps := 2000000) (disch := omega) only [go_sem, *] <;> exact rfl) | fail)) (hf : σ.get true f = some (.yld id) := by (first | (simp (maxSteps := 2000000) (disch := omega) only [go_sem, *] <;> exact rfl) | fail)) (ha : getsA (σ.get true) as.toList = some args := by (first | (simp (maxSteps := 2000000) (disch := omega) only [go_sem, *] <;> exact rfl) | fail)) (hr : σ.H.get id = some (.rcd env nt ps A B .ready none) := by (first | (simp (maxSteps := 2000000) (disch := omega) only [go_sem, *] <;> exact rfl) | fail))
    (he : Eqv env env' := by (first | assumption | fail)) (hA : Eqv A A' := by (first | assumption | fail)) (hl : args.length = ps.length := by (first | rfl | fail)) (hps : ps.all (fun p => decide (p < nt)) = true := by (first | rfl | fail)) : aops P true ops (o :: rest) σ K := w_yieldG hop hg he.out hA.out hw hf ha hr hl hps h
theorem zendAs {id : Nat} {env : List (Nat × Bool × AV)} {nt : Nat} {ps : List Tmp} {A B B' : Code} {K : Bool → Heap → Prop} (h : AW P B' ⟨σ.env, setB σ.H id (some (.rcd env nt ps A B .busy none)), σ.nt⟩ (hold (endBodyA id env nt ps A B K) ⟨⟩))
    (hB : Eqv B B' := by (first | assumption | fail)) (hg : σ.H.get id = some (.rcd env nt ps A B .ready none) := by (first | rfl | (simp (maxSteps := 2000000) (disch := omega) only [go_sem, *]; done) | (simp (maxSteps := 2000000) (disch := omega) only [go_sem, *] <;> rfl) | fail)) : endAsA P id env nt ps A B K .normal σ := w_endAs hB.out hg h
section
variable {id : Nat} {env : List (Nat × Bool × AV)} {nt : Nat} {ps : List Tmp} {A B : Code} {ops : Array Oper} {rest : List Oper} {σ0 : AS} {dst : Option Tmp} {K : AS → Prop} {p : AS × List Oper}
theorem zendBN (h : aops P true ops p.2 p.1 K) (hg : σ.H.get id = some (.rcd env nt ps A B .busy none) := by (first | rfl | (simp (maxSteps := 2000000) (disch := omega) only [go_sem, *]; done) | (simp (maxSteps := 2000000) (disch := omega) only [go_sem, *] <;> rfl) | fail)) (hr : run P ops.toList rest (({ σ0 with H := setB σ.H id (some (.rcd env nt ps A B .ready none)) } : AS).put dst true (.c (.bool true))) = p := by (first | (simp (maxSteps := 2000000) (disch := omega) only [go_sem, *] <;> exact rfl) | fail)) :
    endBodyA id env nt ps A B (hold (fun b H' => aops P true ops rest (({ σ0 with H := H' } : AS).put dst true (.c (.bool b))) K) ⟨⟩) .normal σ := w_endBN hg hr h
theorem zendBR (h : aops P true ops p.2 p.1 K) (hg : σ.H.get id = some (.rcd env nt ps A B .busy none) := by (first | rfl | (simp (maxSteps := 2000000) (disch := omega) only [go_sem, *]; done) | (simp (maxSteps := 2000000) (disch := omega) only [go_sem, *] <;> rfl) | fail)) (hr : run P ops.toList rest (({ σ0 with H := setB σ.H id (some (.rcd env nt ps A B .done (some .ret))) } : AS).put dst true (.c (.bool false))) = p := by (first | (simp (maxSteps := 2000000) (disch := omega) only [go_sem, *] <;> exact rfl) | fail)) :
    endBodyA id env nt ps A B (hold (fun b H' => aops P true ops rest (({ σ0 with H := H' } : AS).put dst true (.c (.bool b))) K) ⟨⟩) .ret σ := w_endBR hg hr h
theorem zendBE {i : Nat} (h : aops P true ops p.2 p.1 K) (hg : σ.H.get id = some (.rcd env nt ps A B .busy none) := by (first | rfl | (simp (maxSteps := 2000000) (disch := omega) only [go_sem, *]; done) | (simp (maxSteps := 2000000) (disch := omega) only [go_sem, *] <;> rfl) | fail)) (hr : run P ops.toList rest (({ σ0 with H := setB σ.H id (some (.rcd env nt ps A B .done (some (.exit i)))) } : AS).put dst true (.c (.bool false))) = p := by (first | (simp (maxSteps := 2000000) (disch := omega) only [go_sem, *] <;> exact rfl) | fail)) :
    endBodyA id env nt ps A B (hold (fun b H' => aops P true ops rest (({ σ0 with H := H' } : AS).put dst true (.c (.bool b))) K) ⟨⟩) (.exit i) σ := w_endBE hg hr h
end
section
variable {rs : List ResultVar} {a : AV} {id : Nat} {env : List (Nat × Bool × AV)} {nt : Nat} {ps : List Tmp} {A B : Code} {σ0 : AS}
theorem zendFN (h : Q .normal ({ σ0 with H := setB σ.H id none } : AS)) (ho : outA P σ rs = some a := by (first | (simp (maxSteps := 2000000) (disch := omega) only [go_sem, *] <;> exact rfl) | fail)) (hg : σ.H.get id = some (.rcd env nt ps A B .ready none) := by (first | rfl | (simp (maxSteps := 2000000) (disch := omega) only [go_sem, *]; done) | (simp (maxSteps := 2000000) (disch := omega) only [go_sem, *] <;> rfl) | fail)) :
    endA P rs (hold (fun _ H' => rfK id env nt ps A B (hold (fun e H2 => Q e ({ σ0 with H := H2 } : AS)) ⟨⟩) H') ⟨⟩) .normal σ := w_endFN ho hg h
theorem zendFr (h : Q .normal ({ σ0 with H := setB σ.H id none } : AS)) (ho : outA P σ rs = some a := by (first | (simp (maxSteps := 2000000) (disch := omega) only [go_sem, *] <;> exact rfl) | fail)) (hg : σ.H.get id = some (.rcd env nt ps A B .ready none) := by (first | rfl | (simp (maxSteps := 2000000) (disch := omega) only [go_sem, *]; done) | (simp (maxSteps := 2000000) (disch := omega) only [go_sem, *] <;> rfl) | fail)) :
    endA P rs (hold (fun _ H' => rfK id env nt ps A B (hold (fun e H2 => Q e ({ σ0 with H := H2 } : AS)) ⟨⟩) H') ⟨⟩) .ret σ := w_endFr ho hg h
theorem zendFRn (h : Q .ret ({ σ0 with H := setB σ.H id none } : AS)) (ho : outA P σ rs = some a := by (first | (simp (maxSteps := 2000000) (disch := omega) only [go_sem, *] <;> exact rfl) | fail)) (hg : σ.H.get id = some (.rcd env nt ps A B .done (some .ret)) := by (first | rfl | (simp (maxSteps := 2000000) (disch := omega) only [go_sem, *]; done) | (simp (maxSteps := 2000000) (disch := omega) only [go_sem, *] <;> rfl) | fail)) :
    endA P rs (hold (fun _ H' => rfK id env nt ps A B (hold (fun e H2 => Q e ({ σ0 with H := H2 } : AS)) ⟨⟩) H') ⟨⟩) .normal σ := w_endFRn ho hg h
theorem zendFR (h : Q .ret ({ σ0 with H := setB σ.H id none } : AS)) (ho : outA P σ rs = some a := by (first | (simp (maxSteps := 2000000) (disch := omega) only [go_sem, *] <;> exact rfl) | fail)) (hg : σ.H.get id = some (.rcd env nt ps A B .done (some .ret)) := by (first | rfl | (simp (maxSteps := 2000000) (disch := omega) only [go_sem, *]; done) | (simp (maxSteps := 2000000) (disch := omega) only [go_sem, *] <;> rfl) | fail)) :
    endA P rs (hold (fun _ H' => rfK id env nt ps A B (hold (fun e H2 => Q e ({ σ0 with H := H2 } : AS)) ⟨⟩) H') ⟨⟩) .ret σ := w_endFR ho hg h
theorem zendFEn {i : Nat} (h : Q (.exit i) ({ σ0 with H := setB σ.H id none } : AS)) (ho : outA P σ rs = some a := by (first | (simp (maxSteps := 2000000) (disch := omega) only [go_sem, *] <;> exact rfl) | fail)) (hg : σ.H.get id = some (.rcd env nt ps A B (.done) (some (.exit i))) := by (first | rfl | (simp (maxSteps := 2000000) (disch := omega) only [go_sem, *]; done) | (simp (maxSteps := 2000000) (disch := omega) only [go_sem, *] <;> rfl) | fail)) :
    endA P rs (hold (fun _ H' => rfK id env nt ps A B (hold (fun e H2 => Q e ({ σ0 with H := H2 } : AS)) ⟨⟩) H') ⟨⟩) .normal σ := w_endFEn ho hg h
theorem zendFE {i : Nat} (h : Q (.exit i) ({ σ0 with H := setB σ.H id none } : AS)) (ho : outA P σ rs = some a := by (first | (simp (maxSteps := 2000000) (disch := omega) only [go_sem, *] <;> exact rfl) | fail)) (hg : σ.H.get id = some (.rcd env nt ps A B (.done) (some (.exit i))) := by (first | rfl | (simp (maxSteps := 2000000) (disch := omega) only [go_sem, *]; done) | (simp (maxSteps := 2000000) (disch := omega) only [go_sem, *] <;> rfl) | fail)) :
    endA P rs (hold (fun _ H' => rfK id env nt ps A B (hold (fun e H2 => Q e ({ σ0 with H := H2 } : AS)) ⟨⟩) H') ⟨⟩) .ret σ := w_endFE ho hg h
end
theorem zgF {ops : Array Oper} {o : Oper} {rest : List Oper} {K : AS → Prop} {p q : AS × List Oper} {j : Nat} {want : Bool} (h : aops P true ops q.2 q.1 K) (hg : o.guard = some (j, want) := by (first | rfl | fail))
    (hw : gcond (gval ops.toList j σ.env) want = some false := by (first | (simp (maxSteps := 2000000) (disch := omega) only [go_sem, *] <;> exact rfl) | fail)) (hs : skipF ops.toList rest (σ.put o.dst false (.c (.bool false))) = some p := by (first | (simp (maxSteps := 2000000) (disch := omega) only [go_sem, *] <;> exact rfl) | fail)) (hr : run P ops.toList p.2 p.1 = q := by (first | (simp (maxSteps := 2000000) (disch := omega) only [go_sem, *] <;> exact rfl) | fail)) : aops P true ops (o :: rest) σ K := w_gF hg hw hs hr h
theorem zpick {ops : Array Oper} {o : Oper} {rest : List Oper} {K : AS → Prop} {p : AS × List Oper} {b x y : Operand} {b0 : Bool} {a : AV} (h : aops P true ops p.2 p.1 K) (hop : o.op = .pick b x y := by (first | rfl | fail)) (hg : o.guard = none := by (first | rfl | fail))
    (hb : asB (σ.get true b) = some b0 := by (first | (simp (maxSteps := 2000000) (disch := omega) only [go_sem, *] <;> exact rfl) | fail)) (hn : pairB (asB (σ.get b0 x)) (asB (σ.get (!b0) y)) = none := by (first | (simp (maxSteps := 2000000) (disch := omega) only [go_sem, *] <;> exact rfl) | fail)) (ha : σ.get true (cond b0 x y) = some a := by (first | (simp (maxSteps := 2000000) (disch := omega) only [go_sem, *] <;> exact rfl) | fail)) (hr : run P ops.toList rest (σ.put o.dst true a) = p := by (first | (simp (maxSteps := 2000000) (disch := omega) only [go_sem, *] <;> exact rfl) | fail)) : aops P true ops (o :: rest) σ K := w_pick hop hg hb hn ha hr h
theorem zgT {ops : Array Oper} {o : Oper} {rest : List Oper} {K : AS → Prop} {p : AS × List Oper} {j : Nat} {want : Bool} {a : AV} {wr : List (Nat × Option Blk)} {rd : List Nat} (h : aops P true ops p.2 p.1 K) (hop : plainOp o.op = true := by (first | rfl | fail)) (hg : o.guard = some (j, want) := by (first | rfl | fail))
    (hw : gcond (gval ops.toList j σ.env) want = some true := by (first | (simp (maxSteps := 2000000) (disch := omega) only [go_sem, *] <;> exact rfl) | fail)) (hres : res P (σ.get true) σ.H.get σ.H.next o = some (a, wr, rd) := by (first | (simp (maxSteps := 2000000) (disch := omega) only [go_sem, *] <;> exact rfl) | fail)) (hr : run P ops.toList rest (({ σ with H := σ.H.app wr } : AS).put o.dst true a) = p := by (first | (simp (maxSteps := 2000000) (disch := omega) only [go_sem, *] <;> exact rfl) | fail)) : aops P true ops (o :: rest) σ K := w_gT hop hg hw hres hr h
theorem zfor {α : Type} {c : Code} (N : Nat) (E : Nat → α → List (Nat × Bool × AV)) (T : Nat → α → List (Nat × Option Blk)) (R : Nat → Nat → α → Prop) (h0 : ∃ m a, R 0 m a ∧ Holds σ (E 0 a) ⟨m, tabG (T 0 a)⟩)
    (hk : ∀ k m a, k < N → R k m a → AW P c ⟨E k a, ⟨m, tabG (T k a)⟩, σ.nt⟩ (thenA (fun σ' => ∃ m' a', R (k + 1) m' a' ∧ Holds σ' (E (k + 1) a') ⟨m', tabG (T (k + 1) a')⟩) Q))
    (hN : ∀ m a, R N m a → AW P c ⟨E N a, ⟨m, tabG (T N a)⟩, σ.nt⟩ (thenA (fun _ => False) Q)) : AW P (.loop c) σ Q := by
  obtain ⟨m, a, hR, hh⟩ := h0
  refine w_loop (fun n env H => ∃ k m a, n = N - k ∧ k ≤ N ∧ R k m a ∧ env = E k a ∧ H = ⟨m, tabG (T k a)⟩) N ⟨_, _, ⟨0, m, a, by omega, by omega, hR, rfl, rfl⟩, hh⟩ ?_
  rintro n env H ⟨k, m, a, rfl, hk', hR', rfl, rfl⟩
  by_cases hlt : k < N
  · have h1 := hk k m a hlt hR'
    intro ro E0 W act hro hrel
    refine wpIn_mono (h1 ro E0 W act hro hrel) fun e a' w ⟨E', σ', h2, h3, h4, h5⟩ => ⟨E', σ', h2, h3, h4, ?_⟩
    cases e with
    | normal =>
      obtain ⟨m', a'', h6, h7⟩ := h5
      exact ⟨N - (k + 1), by omega, _, _, ⟨k + 1, m', a'', rfl, by omega, h6, rfl, rfl⟩, h7⟩
    | _ => exact h5
  · obtain rfl : k = N := by omega
    have h1 := hN m a hR'
    intro ro E0 W act hro hrel
    refine wpIn_mono (h1 ro E0 W act hro hrel) fun e a' w ⟨E', σ', h2, h3, h4, h5⟩ => ⟨E', σ', h2, h3, h4, ?_⟩
    cases e with
    | normal => exact h5.elim
    | _ => exact h5
theorem zfor1 {c : Code} (N M : Nat) (T : List (Nat × Option Blk)) (E : Nat → List (Nat × Bool × AV)) (h0 : Holds σ (E 0) ⟨M, tabG T⟩)
    (hk : ∀ k m, k < N → M ≤ m → AW P c ⟨E k, ⟨m, tabG T⟩, σ.nt⟩ (thenA (fun σ' => ∃ m', M ≤ m' ∧ Holds σ' (E (k + 1)) ⟨m', tabG T⟩) Q))
    (hN : ∀ m, M ≤ m → AW P c ⟨E N, ⟨m, tabG T⟩, σ.nt⟩ (thenA (fun _ => False) Q)) : AW P (.loop c) σ Q := by
  refine zfor (α := Unit) N (fun k _ => E k) (fun _ _ => T) (fun _ m _ => M ≤ m) ⟨M, (), Nat.le_refl _, h0⟩ (fun k m _ hlt hm => ?_) (fun m _ hm => hN m hm)
  have h1 := hk k m hlt hm
  intro ro E0 W act hro hrel
  refine wpIn_mono (h1 ro E0 W act hro hrel) fun e a' w ⟨E', σ', h2, h3, h4, h5⟩ => ⟨E', σ', h2, h3, h4, ?_⟩
  cases e with
  | normal => obtain ⟨m', h6, h7⟩ := h5; exact ⟨m', (), h6, h7⟩
  | _ => exact h5
end
attribute [go_sem] renO renO1 expoD idsD List.flatMap_cons List.flatMap_nil
theorem zeq {α : Type} {a b : α} (w : a = b := by (first | rfl | (simp (disch := omega) only [go_sem, *]; done) | (simp (disch := omega) only [go_sem, *]; rfl))) : a = b := w
theorem zholds {σ : AS} {env : List (Nat × Bool × AV)} {H : Heap} (w : Holds σ env H := by
    ((repeat (refine holds_cons (by first | rfl | (simp (disch := omega) only [go_sem, *]; done) | (simp (disch := omega) only [go_sem, *]; rfl)) ?_)); (refine holds_nil (by simp only []; omega) ?_); (first | exact (fun _ _ h => h) | ((repeat (first | refine sub_cons (by first | rfl | (simp (disch := omega) only [go_sem, *]; done) | (simp (disch := omega) only [go_sem, *]; rfl)) ?_ | refine sub_none ?_)); exact sub_nil)))) : Holds σ env H := w
section
variable {P : Program} {σ : AS}
theorem ACall.wider {n : FuncId} {args : List AV} {H0 : Heap} {R : AV → Heap → Prop} (h : ACall P n args H0 R) (hH : Holds σ [] H0) : ACall P n args σ.H R :=
  ⟨h.1, fun E W vs hW hr => h.2 E W vs ⟨fun id hid => Nat.lt_of_lt_of_le (hW.next id hid) hH.next, hW.core.weaker fun id b hb => ⟨b, hH.get id b hb, Blk.le_refl b⟩⟩ hr⟩
theorem zact {ops : Array Oper} {o : Oper} {rest : List Oper} {K : AS → Prop} {f : Operand} {as : Array Operand} {ts : Array TypeId} {n : FuncId} {args : List AV} {R : AV → Heap → Prop} {H0 : Heap} (hp : ACall P n args H0 R) (h : ∀ r H', R r H' → aops P true ops rest (({ σ with H := H' } : AS).put o.dst true r) K)
    (hop : o.op = .call ⟨.value f, as, ts⟩ := by (first | rfl | fail)) (hg : o.guard = none := by (first | rfl | fail)) (hc : calleeA (σ.get true f) (getsA (σ.get true) as.toList) = some (n, args) := by (first | (simp (maxSteps := 2000000) (disch := omega) only [go_sem, *] <;> exact rfl) | fail)) (hH : Holds σ [] H0 := by exact zholds) : aops P true ops (o :: rest) σ K := w_callA hop hg hc (hp.wider hH) h
end
structure Lat (B : Prop) : Type where
  out : B
theorem zgo {A B : Prop} (h : B) (w : Lat B → A := by
    (intro hB; (repeat (first | refine aw_seq ?_ | refine zregion ?_ | refine w_nil ?_ | refine w_hold ?_ | refine w_hold2 ?_ | refine w_then ?_ | refine w_thenR ?_ | refine w_thenE ?_ | refine w_blockN ?_ | refine w_blockR ?_ | refine w_blockE ?_ | refine w_blockO (by decide) ?_ | refine aw_skip ?_ | refine aw_ret ?_ | refine aw_exit ?_ | refine aw_block ?_ | refine zendFN ?_ | refine zendFr ?_ | refine zendFRn ?_ | refine zendFR ?_ | refine zendFEn ?_ | refine zendFE ?_ | refine zend ?_ | refine zendN ?_ | refine zendAs ?_ | refine zendBN ?_ | refine zendBR ?_ | refine zendBE ?_ | refine zyield ?_ | refine zyieldG ?_ | refine zcondT ?_ | refine zcondF ?_ | refine zdraw ?_ | refine aw_label ?_ | refine aw_scope ?_ | refine sc_ret ?_ | refine sc_norm ?_ | refine zcallH ?_ | refine zcallO ?_ | refine zcallF ?_ | refine zcallRO ?_ | refine zcallG ?_ | refine zcallX ?_ | refine zcallXG ?_ | refine zgF ?_ | refine zpick ?_ | refine zgT ?_ | refine zrun ?_)); exact hB.out)) : A := w ⟨h⟩
theorem zfin {A : Prop} (w : A := by (simp (maxSteps := 2000000) (disch := omega) only [go_sem, noId_c, noId_agg, noId_tup, noId_snap, false_implies, implies_true, *]; (repeat (first | exact .refl _ | exact .nil | exact wks_nil | refine wks_cons ?_ ?_ | refine wk_tup ?_ | refine wk_agg ?_ | refine wk_snap ?_ | exact wkr_nil | refine wkr_cons ?_ ?_)))) : A := w
theorem expoD_c (G : Nat → Option Blk) (k : Nat) (v : Value) : expoD G k (.c v) = .c v := by cases k <;> rfl
theorem idsD_c (G : Nat → Option Blk) (k : Nat) (v : Value) : idsD G k (.c v) = [] := by cases k <;> rfl
theorem row_expoD {r : List AV} (h : ∀ x ∈ r, ∃ v, x = .c v) (G : Nat → Option Blk) (k : Nat) : r.map (expoD G k) = r := by
  conv => rhs; rw [← List.map_id r]
  exact List.map_congr_left fun x hx => by obtain ⟨v, rfl⟩ := h x hx; exact expoD_c G k v
theorem row_idsD {r : List AV} (h : ∀ x ∈ r, ∃ v, x = .c v) (G : Nat → Option Blk) (k : Nat) : r.flatMap (idsD G k) = [] := by
  rw [List.flatMap_eq_nil_iff]
  exact fun x hx => by obtain ⟨v, rfl⟩ := h x hx; exact idsD_c G k v
theorem encL_expoD {α : Type} {f : α → List AV} (h : ∀ a, ∀ x ∈ f a, ∃ v, x = .c v) (G : Nat → Option Blk) (k : Nat) (l : List α) : (encL f l).map (fun row => row.map (expoD G k)) = encL f l := by
  conv => rhs; rw [← List.map_id (encL f l)]
  refine List.map_congr_left fun r hr => ?_
  simp only [encL, List.mem_map] at hr
  obtain ⟨a, _, rfl⟩ := hr
  exact row_expoD (h a) G k
theorem encL_idsD {α : Type} {f : α → List AV} (h : ∀ a, ∀ x ∈ f a, ∃ v, x = .c v) (G : Nat → Option Blk) (k : Nat) (l : List α) : (encL f l).flatMap (fun row => row.flatMap (idsD G k)) = [] := by
  rw [List.flatMap_eq_nil_iff]
  intro r hr
  simp only [encL, List.mem_map] at hr
  obtain ⟨a, _, rfl⟩ := hr
  exact row_idsD (h a) G k
theorem expoI (G : Nat → Option Blk) (k : Nat) (l : List Int) : (encL intRow l).map (fun row => row.map (expoD G k)) = encL intRow l := encL_expoD (fun a x hx => by simp [intRow] at hx; exact ⟨_, hx⟩) G k l
theorem idsI (G : Nat → Option Blk) (k : Nat) (l : List Int) : (encL intRow l).flatMap (fun row => row.flatMap (idsD G k)) = [] := encL_idsD (fun a x hx => by simp [intRow] at hx; exact ⟨_, hx⟩) G k l
attribute [go_sem] expoI idsI expoD_c idsD_c
end Go.AL
namespace Go.AL
set_option linter.unusedVariables false
set_option linter.unusedSimpArgs false
section
variable {P : Program} {σ : AS} {Q : Exit → AS → Prop}
section
variable {ops : List Oper} {N0 i : Nat} {o : Oper} {r : List Oper} {σ'' : AS} {es : List Entry} {f : Operand} {as : Array Operand} {ts : Array TypeId} {n : FuncId}
theorem d_callOZ {args : List AV} {el : TypeId} {k : Nat} {rows : List (List AV)} (hop : o.op = .call ⟨.value f, as, ts⟩) (hg : o.guard = none) (hc : calleeA (σ.get true f) (getsA (σ.get true) as.toList) = some (n, args))
    (hp : OCall P n args el k rows) (h : DRun P ops N0 (i + 1) r (σ.app o.dst ⟨true, .own (N0 + i) 0 rows.length, [(N0 + i, some (.cells el k rows true true))], []⟩) es σ'') :
    DRun P ops N0 i (o :: r) σ (⟨true, .own (N0 + i) 0 rows.length, [(N0 + i, some (.cells el k rows true true))], []⟩ :: es) σ'' := d_callO hop hg hp hc rfl h
theorem d_callTOZ {args : List AV} {a : AV} {el : TypeId} {k : Nat} {rows : List (List AV)} (hop : o.op = .call ⟨.value f, as, ts⟩) (hg : o.guard = none) (hc : calleeA (σ.get true f) (getsA (σ.get true) as.toList) = some (n, args))
    (hp : TOCall P n args a el k rows) (h : DRun P ops N0 (i + 1) r (σ.app o.dst ⟨true, renO (N0 + i) a, [(N0 + i, some (.cells el k rows true true))], []⟩) es σ'') :
    DRun P ops N0 i (o :: r) σ (⟨true, renO (N0 + i) a, [(N0 + i, some (.cells el k rows true true))], []⟩ :: es) σ'' :=
  .cons i o r σ _ es σ'' (.tocall f as ts n args a el k rows hop (by unfold gOK; rw [hg]) rfl hc hp rfl rfl) h
theorem d_callROZ {args0 args : List AV} {a : AV} {el : TypeId} {k : Nat} {rows : List (List AV)} {ap : Bool} {rd : List Nat} (hop : o.op = .call ⟨.value f, as, ts⟩) (hg : o.guard = none) (hc : calleeA (σ.get true f) (getsA (σ.get true) as.toList) = some (n, args0)) (he : args0.map (expoD σ.H.get 3) = args) (hrd : args0.flatMap (idsD σ.H.get 3) = rd) (hp : FOCall P n args a el k rows ap) (hn : ∀ a ∈ args, NoId a)
    (h : DRun P ops N0 (i + 1) r (σ.app o.dst ⟨true, renO (N0 + i) a, [(N0 + i, some (.cells el k rows true ap))], rd⟩) es σ'') : DRun P ops N0 i (o :: r) σ (⟨true, renO (N0 + i) a, [(N0 + i, some (.cells el k rows true ap))], rd⟩ :: es) σ'' :=
  .cons i o r σ _ es σ'' (.rocall f as ts n args0 args 3 a el k rows ap hop (by unfold gOK; rw [hg]) rfl hc he hn hp rfl rfl fun x hx id hid => by rw [← hrd]; exact List.mem_flatMap.2 ⟨x, hx, hid⟩) h
end
theorem zdrawO {σ' : AS} {id : Nat} {ops : Array Oper} {es : List Entry} (h : Q .normal σ') (hm : P.follows .mixedOrders = true := by (first | kernel_rfl | fail)) (hs : statB ops = true := by (first | kernel_rfl | fail)) (hd : ops.toList.all (dstIn σ.nt) = true := by (first | rfl | fail))
    (hr : DRun P ops.toList σ.H.next 0 ops.toList { σ with H := ⟨σ.H.next + ops.size, σ.H.get⟩ } es σ' := by (first | (apply d_runZ; (next => (first | (simp (maxSteps := 2000000) (disch := omega) only [go_sem, *] <;> exact rfl) | fail)); (repeat (first | exact d_nil | (apply d_skipZ; (next => (first | rfl | fail)); (next => (first | (simp (maxSteps := 2000000) (disch := omega) only [go_sem, *] <;> exact rfl) | fail)); apply d_runZ; (next => (first | (simp (maxSteps := 2000000) (disch := omega) only [go_sem, *] <;> exact rfl) | fail))) | (apply d_callTOZ; (next => (first | rfl | fail)); (next => (first | rfl | fail)); (next => (first | (simp (maxSteps := 2000000) (disch := omega) only [go_sem, *] <;> exact rfl) | fail)); (next => (first | assumption | (apply_assumption <;> first | assumption | omega) | fail)); apply d_runZ; (next => (first | (simp (maxSteps := 2000000) (disch := omega) only [go_sem, *] <;> exact rfl) | fail))) | (apply d_callOZ; (next => (first | rfl | fail)); (next => (first | rfl | fail)); (next => (first | (simp (maxSteps := 2000000) (disch := omega) only [go_sem, *] <;> exact rfl) | fail)); (next => (first | assumption | (apply_assumption <;> first | assumption | omega) | fail)); apply d_runZ; (next => (first | (simp (maxSteps := 2000000) (disch := omega) only [go_sem, *] <;> exact rfl) | fail))) | (apply d_callROZ; (next => (first | rfl | fail)); (next => (first | rfl | fail)); (next => (first | (simp (maxSteps := 2000000) (disch := omega) only [go_sem, *] <;> exact rfl) | fail)); (next => (first | (simp (maxSteps := 2000000) (disch := omega) only [go_sem, *] <;> exact rfl) | fail)); (next => (first | (simp (maxSteps := 2000000) (disch := omega) only [go_sem, *] <;> exact rfl) | fail)); (next => (first | assumption | (apply_assumption <;> first | assumption | omega) | fail)); (next => (first | (simp (maxSteps := 2000000) only [go_sem, noId_fn, noId_sptr, false_implies, implies_true, *]; done) | (simp [noId_c, noId_agg, noId_snap, noId_tup, noId_fn, noId_sptr, encL_noIdE, *]; done) | fail)); apply d_runZ; (next => (first | (simp (maxSteps := 2000000) (disch := omega) only [go_sem, *] <;> exact rfl) | fail))) | (apply d_callPZ; (next => (first | rfl | fail)); (next => (first | rfl | fail)); (next => (first | (simp (maxSteps := 2000000) (disch := omega) only [go_sem, *] <;> exact rfl) | fail)); (next => (first | assumption | (apply_assumption <;> first | assumption | omega) | fail)); (next => (first | (simp (maxSteps := 2000000) only [go_sem, noId_fn, noId_sptr, false_implies, implies_true, *]; done) | (simp [noId_c, noId_agg, noId_snap, noId_tup, noId_fn, noId_sptr, encL_noIdE, *]; done) | fail)); apply d_runZ; (next => (first | (simp (maxSteps := 2000000) (disch := omega) only [go_sem, *] <;> exact rfl) | fail))) | (apply d_callGZ; (next => (first | rfl | fail)); (next => (first | rfl | fail)); (next => (first | (simp (maxSteps := 2000000) (disch := omega) only [go_sem, *] <;> exact rfl) | fail)); (next => (first | (simp (maxSteps := 2000000) (disch := omega) only [go_sem, *] <;> exact rfl) | fail)); (next => (first | assumption | (apply_assumption <;> first | assumption | omega) | fail)); (next => (first | (simp (maxSteps := 2000000) only [go_sem, noId_fn, noId_sptr, false_implies, implies_true, *]; done) | (simp [noId_c, noId_agg, noId_snap, noId_tup, noId_fn, noId_sptr, encL_noIdE, *]; done) | fail)); apply d_runZ; (next => (first | (simp (maxSteps := 2000000) (disch := omega) only [go_sem, *] <;> exact rfl) | fail))) | (apply d_callR; (next => (first | rfl | fail)); (next => (first | rfl | fail)); (next => (first | (simp (maxSteps := 2000000) (disch := omega) only [go_sem, *] <;> exact rfl) | fail)); (next => (first | (simp (maxSteps := 2000000) (disch := omega) only [go_sem, *] <;> exact rfl) | fail)); (next => (first | (simp (maxSteps := 2000000) (disch := omega) only [go_sem, *] <;> exact rfl) | fail)); (next => (first | assumption | (apply_assumption <;> first | assumption | omega) | fail)); (next => (first | (simp (maxSteps := 2000000) only [go_sem, noId_fn, noId_sptr, false_implies, implies_true, *]; done) | (simp [noId_c, noId_agg, noId_snap, noId_tup, noId_fn, noId_sptr, encL_noIdE, *]; done) | fail)); apply d_runZ; (next => (first | (simp (maxSteps := 2000000) (disch := omega) only [go_sem, *] <;> exact rfl) | fail))) | (apply d_callRG; (next => (first | rfl | fail)); (next => (first | rfl | fail)); (next => (first | (simp (maxSteps := 2000000) (disch := omega) only [go_sem, *] <;> exact rfl) | fail)); (next => (first | (simp (maxSteps := 2000000) (disch := omega) only [go_sem, *] <;> exact rfl) | fail)); (next => (first | (simp (maxSteps := 2000000) (disch := omega) only [go_sem, *] <;> exact rfl) | fail)); (next => (first | (simp (maxSteps := 2000000) (disch := omega) only [go_sem, *] <;> exact rfl) | fail)); (next => (first | assumption | (apply_assumption <;> first | assumption | omega) | fail)); (next => (first | (simp (maxSteps := 2000000) only [go_sem, noId_fn, noId_sptr, false_implies, implies_true, *]; done) | (simp [noId_c, noId_agg, noId_snap, noId_tup, noId_fn, noId_sptr, encL_noIdE, *]; done) | fail)); apply d_runZ; (next => (first | (simp (maxSteps := 2000000) (disch := omega) only [go_sem, *] <;> exact rfl) | fail)))))) | fail))
    (hdyn : dynGo (tab ops.toList) 0 [] es = true := by (first | (simp (maxSteps := 2000000) (disch := omega) only [go_sem, nbeq_F, nbeq_T, *] <;> kernel_rfl) | fail)) : AW P (.region id ops true) σ Q := w_draw hm hs hd hr hdyn h
theorem zdrawT {σ' : AS} {id : Nat} {ops : Array Oper} {es : List Entry} {l : List Oper} (k0 : Nat) (h : aops P true ops l σ' (Q .normal)) (hl : ops.toList.drop k0 = l := by (first | rfl | fail)) (ht : tailB ops.toList k0 = true := by (first | kernel_rfl | fail)) (hm : P.follows .mixedOrders = true := by (first | kernel_rfl | fail)) (hs : statB ops = true := by (first | kernel_rfl | fail)) (hd : ops.toList.all (dstIn σ.nt) = true := by (first | rfl | fail))
    (hr : DRun P ops.toList σ.H.next 0 (ops.toList.take k0) { σ with H := ⟨σ.H.next + ops.size, σ.H.get⟩ } es σ' := by (first | (apply d_runZ; (next => (first | (simp (maxSteps := 2000000) (disch := omega) only [go_sem, *] <;> exact rfl) | fail)); (repeat (first | exact d_nil | (apply d_skipZ; (next => (first | rfl | fail)); (next => (first | (simp (maxSteps := 2000000) (disch := omega) only [go_sem, *] <;> exact rfl) | fail)); apply d_runZ; (next => (first | (simp (maxSteps := 2000000) (disch := omega) only [go_sem, *] <;> exact rfl) | fail))) | (apply d_callTOZ; (next => (first | rfl | fail)); (next => (first | rfl | fail)); (next => (first | (simp (maxSteps := 2000000) (disch := omega) only [go_sem, *] <;> exact rfl) | fail)); (next => (first | assumption | (apply_assumption <;> first | assumption | omega) | fail)); apply d_runZ; (next => (first | (simp (maxSteps := 2000000) (disch := omega) only [go_sem, *] <;> exact rfl) | fail))) | (apply d_callOZ; (next => (first | rfl | fail)); (next => (first | rfl | fail)); (next => (first | (simp (maxSteps := 2000000) (disch := omega) only [go_sem, *] <;> exact rfl) | fail)); (next => (first | assumption | (apply_assumption <;> first | assumption | omega) | fail)); apply d_runZ; (next => (first | (simp (maxSteps := 2000000) (disch := omega) only [go_sem, *] <;> exact rfl) | fail))) | (apply d_callROZ; (next => (first | rfl | fail)); (next => (first | rfl | fail)); (next => (first | (simp (maxSteps := 2000000) (disch := omega) only [go_sem, *] <;> exact rfl) | fail)); (next => (first | (simp (maxSteps := 2000000) (disch := omega) only [go_sem, *] <;> exact rfl) | fail)); (next => (first | (simp (maxSteps := 2000000) (disch := omega) only [go_sem, *] <;> exact rfl) | fail)); (next => (first | assumption | (apply_assumption <;> first | assumption | omega) | fail)); (next => (first | (simp (maxSteps := 2000000) only [go_sem, noId_fn, noId_sptr, false_implies, implies_true, *]; done) | (simp [noId_c, noId_agg, noId_snap, noId_tup, noId_fn, noId_sptr, encL_noIdE, *]; done) | fail)); apply d_runZ; (next => (first | (simp (maxSteps := 2000000) (disch := omega) only [go_sem, *] <;> exact rfl) | fail))) | (apply d_callPZ; (next => (first | rfl | fail)); (next => (first | rfl | fail)); (next => (first | (simp (maxSteps := 2000000) (disch := omega) only [go_sem, *] <;> exact rfl) | fail)); (next => (first | assumption | (apply_assumption <;> first | assumption | omega) | fail)); (next => (first | (simp (maxSteps := 2000000) only [go_sem, noId_fn, noId_sptr, false_implies, implies_true, *]; done) | (simp [noId_c, noId_agg, noId_snap, noId_tup, noId_fn, noId_sptr, encL_noIdE, *]; done) | fail)); apply d_runZ; (next => (first | (simp (maxSteps := 2000000) (disch := omega) only [go_sem, *] <;> exact rfl) | fail))) | (apply d_callGZ; (next => (first | rfl | fail)); (next => (first | rfl | fail)); (next => (first | (simp (maxSteps := 2000000) (disch := omega) only [go_sem, *] <;> exact rfl) | fail)); (next => (first | (simp (maxSteps := 2000000) (disch := omega) only [go_sem, *] <;> exact rfl) | fail)); (next => (first | assumption | (apply_assumption <;> first | assumption | omega) | fail)); (next => (first | (simp (maxSteps := 2000000) only [go_sem, noId_fn, noId_sptr, false_implies, implies_true, *]; done) | (simp [noId_c, noId_agg, noId_snap, noId_tup, noId_fn, noId_sptr, encL_noIdE, *]; done) | fail)); apply d_runZ; (next => (first | (simp (maxSteps := 2000000) (disch := omega) only [go_sem, *] <;> exact rfl) | fail))) | (apply d_callR; (next => (first | rfl | fail)); (next => (first | rfl | fail)); (next => (first | (simp (maxSteps := 2000000) (disch := omega) only [go_sem, *] <;> exact rfl) | fail)); (next => (first | (simp (maxSteps := 2000000) (disch := omega) only [go_sem, *] <;> exact rfl) | fail)); (next => (first | (simp (maxSteps := 2000000) (disch := omega) only [go_sem, *] <;> exact rfl) | fail)); (next => (first | assumption | (apply_assumption <;> first | assumption | omega) | fail)); (next => (first | (simp (maxSteps := 2000000) only [go_sem, noId_fn, noId_sptr, false_implies, implies_true, *]; done) | (simp [noId_c, noId_agg, noId_snap, noId_tup, noId_fn, noId_sptr, encL_noIdE, *]; done) | fail)); apply d_runZ; (next => (first | (simp (maxSteps := 2000000) (disch := omega) only [go_sem, *] <;> exact rfl) | fail))) | (apply d_callRG; (next => (first | rfl | fail)); (next => (first | rfl | fail)); (next => (first | (simp (maxSteps := 2000000) (disch := omega) only [go_sem, *] <;> exact rfl) | fail)); (next => (first | (simp (maxSteps := 2000000) (disch := omega) only [go_sem, *] <;> exact rfl) | fail)); (next => (first | (simp (maxSteps := 2000000) (disch := omega) only [go_sem, *] <;> exact rfl) | fail)); (next => (first | (simp (maxSteps := 2000000) (disch := omega) only [go_sem, *] <;> exact rfl) | fail)); (next => (first | assumption | (apply_assumption <;> first | assumption | omega) | fail)); (next => (first | (simp (maxSteps := 2000000) only [go_sem, noId_fn, noId_sptr, false_implies, implies_true, *]; done) | (simp [noId_c, noId_agg, noId_snap, noId_tup, noId_fn, noId_sptr, encL_noIdE, *]; done) | fail)); apply d_runZ; (next => (first | (simp (maxSteps := 2000000) (disch := omega) only [go_sem, *] <;> exact rfl) | fail)))))) | fail))
    (hdyn : dynGo (tab ops.toList) 0 [] es = true := by (first | (simp (maxSteps := 2000000) (disch := omega) only [go_sem, nbeq_F, nbeq_T, *] <;> kernel_rfl) | fail)) : AW P (.region id ops true) σ Q := w_drawT k0 hm hs ht hd hr hdyn (by rw [hl]; exact h)
end
theorem TOCall.nil {P : Program} {n : FuncId} {pre post : List AV} {r : AV} {e : TypeId} {k : Nat} {rows : List (List AV)} (h : ∀ a cap, TOCall P n (pre ++ .c (.slice a 0 cap) :: post) r e k rows) : TOCall P n (pre ++ .snap [] :: post) r e k rows :=
  ⟨(h none 0).1, fun E W G nid vs hG hn hr => let ⟨a, cap, hr'⟩ := rvs_nil hr; (h a cap).2 E W G nid vs hG hn hr'⟩
section
variable {P : Program} {σ : AS}
theorem zcallTO {ops : Array Oper} {o : Oper} {rest : List Oper} {K : AS → Prop} {f : Operand} {as : Array Operand} {ts : Array TypeId} {n : FuncId} {args : List AV} {a : AV} {el : TypeId} {k : Nat} {rows : List (List AV)} {p : AS × List Oper} (h : aops P true ops p.2 p.1 K) (hop : o.op = .call ⟨.value f, as, ts⟩ := by (first | rfl | fail)) (hg : o.guard = none := by (first | rfl | fail))
    (hc : calleeA (σ.get true f) (getsA (σ.get true) as.toList) = some (n, args) := by (first | (simp (maxSteps := 2000000) (disch := omega) only [go_sem, *] <;> exact rfl) | fail)) (hp : TOCall P n args a el k rows := by (first | assumption | (apply_assumption <;> first | assumption | omega) | fail))
    (hr : run P ops.toList rest (({ σ with H := ⟨σ.H.next + 1, upd σ.H.get [(σ.H.next, some (.cells el k rows true true))]⟩ } : AS).put o.dst true (renO σ.H.next a)) = p := by (first | (simp (maxSteps := 2000000) (disch := omega) only [go_sem, *] <;> exact rfl) | fail)) : aops P true ops (o :: rest) σ K :=
  w_callA hop hg hc hp.run fun r H' ⟨h1, h2⟩ => by subst h1; subst h2; exact run_ok _ _ hr h
end
theorem zgo2 {A B : Prop} (h : B) (w : Lat B → A := by
    (intro hB; (repeat (first | refine aw_seq ?_ | refine zregion ?_ | refine w_nil ?_ | refine w_hold ?_ | refine w_hold2 ?_ | refine w_then ?_ | refine w_thenR ?_ | refine w_thenE ?_ | refine w_blockN ?_ | refine w_blockR ?_ | refine w_blockE ?_ | refine w_blockO (by decide) ?_ | refine aw_skip ?_ | refine aw_ret ?_ | refine aw_exit ?_ | refine aw_block ?_ | refine zendFN ?_ | refine zendFr ?_ | refine zendFRn ?_ | refine zendFR ?_ | refine zendFEn ?_ | refine zendFE ?_ | refine zend ?_ | refine zendN ?_ | refine zendAs ?_ | refine zendBN ?_ | refine zendBR ?_ | refine zendBE ?_ | refine zyield ?_ | refine zyieldG ?_ | refine zcondT ?_ | refine zcondF ?_ | refine zdraw ?_ | refine zdrawO ?_ | refine aw_label ?_ | refine aw_scope ?_ | refine sc_ret ?_ | refine sc_norm ?_ | refine zcallH ?_ | refine zcallO ?_ | refine zcallTO ?_ | refine zcallF ?_ | refine zcallRO ?_ | refine zcallG ?_ | refine zcallX ?_ | refine zcallXG ?_ | refine zgF ?_ | refine zpick ?_ | refine zgT ?_ | refine zrun ?_)); exact hB.out)) : A := w ⟨h⟩
def HW (R : AV → Heap → Prop) (r : AV) (H' : Heap) : Prop := ∃ H'', R r H'' ∧ Holds ⟨[], H', 0⟩ [] H''
theorem ACall.weak {P : Program} {n : FuncId} {args : List AV} {H : Heap} {R : AV → Heap → Prop} (h : ACall P n args H (HW R)) : ACall P n args H R :=
  ⟨h.1, fun E W vs hW hr => (h.2 E W vs hW hr).mono fun e W' ⟨v, he, E', r, H', h1, h2, h3, H'', h4, hH⟩ =>
    ⟨v, he, E', r, H'', h1, ⟨fun id hid => Nat.lt_of_lt_of_le (h2.next id hid) hH.next, h2.core.weaker fun id b hb => ⟨b, hH.get id b hb, Blk.le_refl b⟩⟩, h3, h4⟩⟩
theorem astartW {P : Program} {n : FuncId} {fn : Func} {c : Code} {args : List AV} {H : Heap} {R : AV → Heap → Prop} {rs : List ResultVar} {nt : Nat} (hf : P.funcs[n]? = some fn) (hnt : fn.ntmps = nt)
    (h : AW P c ⟨envOf 0 args, H, nt⟩ (hold (endA P rs (hold (HW R) ⟨⟩)) ⟨⟩))
    (hb : fn.body = some c := by rfl) (hr : fn.results = List.toArray rs := by rfl) (hnm : (fn.name == "runtime.NumGoroutine") = false := by kernel_rfl) (hlen : args.length ≤ nt := by (simp only [List.length_cons, List.length_nil]; decide)) : ACall P n args H R :=
  (astart hf hnt h hb hr hnm hlen).weak
end Go.AL
namespace Go.AL
open Go.RowKit
set_option linter.unusedVariables false
set_option linter.unusedSimpArgs false
theorem pcallA (k : Nat) {P : Program} {n : FuncId} {args : List AV} {Q : AV → Prop} (hA : ACall P n args ⟨0, tabG []⟩ (fun a H' => NoId (expoD H'.get k a) ∧ Q (expoD H'.get k a))) : PCall P n args Q := by
  refine ⟨hA.1, fun L W vs hL hr => ?_⟩
  have hRH : RH (Env0 L) W ⟨0, tabG []⟩ := ⟨fun id h => h.elim, hL, fun id h => h.elim, fun id b h => by cases h⟩
  refine (hA.2 (Env0 L) W vs hRH hr).mono fun e W' ⟨v, he, E', r, H', hv, hH, hrv, hno, hq⟩ => ?_
  refine ⟨v, he, expoD H'.get k r, fun b => if b < W.heap.size then L b else max (E'.L b) (match W'.heap[b]? with | some (.cells cur _ _) => cur.size | _ => 0), ⟨hv.os, hv.tape, hv.output, hv.size, fun k hk => hv.foreign k hk fun id h => h.elim⟩, fun b hb' => ?_, fun b hb' => ?_, ?_, hno, hq⟩
  · simp [hb']
  · have h1 : ¬ b < W.heap.size := by have := hv.size; omega
    simp [h1, hH.core.lim b hb', Array.getElem?_eq_none hb']
  · refine expoD_ok hH.core (fun b => ?_) (fun id hU cur e f hc => ?_) k hrv hno
    · by_cases hb' : b < W.heap.size
      · rw [hv.still b hb' fun id h => h.elim]
        simp [hb', Env0]
      · simp [hb']; omega
    · have h1 : ¬ E'.ι id < W.heap.size := by
        rcases hv.fresh id (fun h => h) hU with h2 | ⟨id0, h2, _⟩
        · omega
        · exact h2.elim
      simp [h1, hc]; omega
theorem TOCall.toP {P : Program} {n : FuncId} {args : List AV} {a b : AV} {e : TypeId} {k : Nat} {rows : List (List AV)} (h : TOCall P n args a e k rows) (hb : NoId b)
    (hq : NoId (expoD (upd (tabG []) [(0, some (.cells e k rows true true))]) 4 (renO 0 a)) ∧ Wk (expoD (upd (tabG []) [(0, some (.cells e k rows true true))]) 4 (renO 0 a)) b) : PCall P n args (· = b) :=
  PCall.wk (pcallA 4 (Q := fun r => Wk r b) (h.run.mono fun r H' ⟨h1, h2⟩ => by subst h1; subst h2; exact hq)) hb
theorem tocall_of2 {P : Program} {n : FuncId} {args : List AV} {a : AV} {e : TypeId} {k : Nat} {rows : List (List AV)} (ha : ∀ a ∈ args, NoId a) (hok : OkO a) (hrows : ∀ row ∈ rows, ∀ x ∈ row, NoId x)
    (h : ACall P n args ⟨0, tabG []⟩ fun r H' => ∃ i, r = renO i a ∧ ∃ rows0, H'.get i = some (.cells e k rows0 true true) ∧ Wkr rows0 rows) : TOCall P n args a e k rows := by
  refine ⟨h.1, fun E W G nid vs hG hnid hr => ?_⟩
  have hRH : RH (Env0 E.L) W ⟨0, tabG []⟩ := ⟨fun id h => h.elim, hG.lim, fun id h => h.elim, fun id b h => by cases h⟩
  refine (h.2 (Env0 E.L) W vs hRH (hr.toPlain (fun _ => Nat.le_refl _) ha)).mono fun x W' ⟨v, he, E1, r, H', hv, hH, hrv, i, hri, rows0, hgi, hwk⟩ => ?_
  subst hri
  obtain ⟨hU1, hok1⟩ := hH.core.ok i _ hgi
  obtain ⟨hsz, hlen0, ⟨cur, hcur, hle0, hcells0⟩, hw1, ha1⟩ := hok1
  have hat : ∀ (i : Nat) row, rows[i]? = some row → ∃ r0, rows0[i]? = some r0 := fun i row hi => by
    have h1 := (List.getElem?_eq_some_iff.1 hi).1
    exact ⟨_, List.getElem?_eq_getElem (by rw [hwk.1]; exact h1)⟩
  have hlen : ∀ (i : Nat) row, rows[i]? = some row → row.length = k := fun i row hi => by
    obtain ⟨r0, h0⟩ := hat i row hi
    rw [← (hwk.2 i r0 row h0 hi).1]
    exact hlen0 i r0 h0
  have hle : rows.length * k ≤ cur.size := by rw [← hwk.1]; exact hle0
  have hcells : ∀ (i j : Nat) row x, rows[i]? = some row → row[j]? = some x → ∃ u, cur[i * k + j]? = some u ∧ RV E1 W' x u := fun i j row x hi hj => by
    obtain ⟨r0, h0⟩ := hat i row hi
    have hw := hwk.2 i r0 row h0 hi
    have h1 := (List.getElem?_eq_some_iff.1 hj).1
    obtain ⟨u, h2, h3⟩ := hcells0 i j r0 _ h0 (List.getElem?_eq_getElem (by rw [hw.1]; exact h1))
    exact ⟨u, h2, RV.wk (hw.2 j _ x (List.getElem?_eq_getElem (by rw [hw.1]; exact h1)) hj) h3⟩
  have hL0 := (hw1 rfl).1
  have hnew : W.heap.size ≤ E1.ι i := by
    rcases hv.fresh i (fun h => h) hU1 with h1 | ⟨id0, h1, _⟩
    · exact h1
    · exact h1.elim
  have hlt : E1.ι i < W'.heap.size := hH.core.inW i hU1
  have hstill : ∀ b, b < W.heap.size → E1.L b = E.L b := fun b hb => hv.still b hb fun id h => h.elim
  have hold : ∀ b, b < W.heap.size → W'.heap[b]? = W.heap[b]? := fun b hb => hv.foreign b hb fun id h => h.elim
  have hlim : ∀ b, E.L b ≤ E1.L b := hv.lim
  let E' : Env := ⟨fun id => if id = nid then E1.ι i else E.ι id, fun id => if id = nid then k else E.sz id, fun id => E.U id ∨ id = nid, E1.L⟩
  have hι : ∀ id, E.U id → E'.ι id = E.ι id := fun id hid => by
    show (if id = nid then _ else _) = _
    rw [if_neg]; rintro rfl; exact hnid hid
  have hs : ∀ id, E.U id → E'.sz id = E.sz id := fun id hid => by
    show (if id = nid then _ else _) = _
    rw [if_neg]; rintro rfl; exact hnid hid
  have hιn : E'.ι nid = E1.ι i := by show (if nid = nid then _ else _) = _; rw [if_pos rfl]
  have hsn : E'.sz nid = k := by show (if nid = nid then _ else _) = _; rw [if_pos rfl]
  have hEvo : Evo E W E' W' := by
    refine ⟨hv.os, hv.tape, hv.output, hv.size, fun id h => .inl h, fun id hid => ⟨hι id hid, hs id hid⟩, hlim, hv.prot, fun b hb _ => hold b hb, hv.sizes, fun b hb _ => hstill b hb, fun id h1 h2 => ?_, hv.loops⟩
    rcases h2 with h2 | h2
    · exact absurd h2 h1
    · subst h2; rw [hιn]; exact .inl hnew
  have hrow : ∀ {x u}, RV E1 W' x u → NoId x → RV E' W' x u := fun hx hn => RV.fromPlain (E := E') (L := E1.L) (fun _ => Nat.le_refl _) (hx.toPlain (L := E1.L) (fun _ => Nat.le_refl _) hn)
  have holdne : ∀ id, E.U id → E'.ι id ≠ E1.ι i := fun id hid heq => by
    rw [hι id hid] at heq
    have := hG.inW id hid
    omega
  refine ⟨v, he, E', hEvo, ⟨hH.core.lim, fun id hid => ?_, fun id b hb => ?_⟩, ?_, fun id h => h⟩
  · rcases hid with hid | hid
    · rw [hι id hid]; exact Nat.lt_of_lt_of_le (hG.inW id hid) hv.size
    · subst hid; rw [hιn]; exact hlt
  · simp only [upd] at hb
    by_cases hid : id = nid
    · subst hid
      rw [if_pos rfl] at hb
      injection hb with hb
      subst hb
      refine ⟨.inr rfl, hsn, hlen, ⟨cur, by rw [hιn]; exact hcur, hle, fun i' j row x h1 h2 => ?_⟩, fun _ => ⟨by rw [hιn]; exact hL0, fun id' b' hne hg' heq => ?_⟩, fun _ => ⟨by rw [hιn]; show E1.L _ ≤ _; rw [hL0]; exact Nat.zero_le _, fun id' b' hne hg' heq => ?_⟩⟩
      · obtain ⟨u, h3, h4⟩ := hcells i' j row x h1 h2
        exact ⟨u, h3, hrow h4 (hrows row (List.mem_of_getElem? h1) x (List.mem_of_getElem? h2))⟩
      · rw [hιn] at heq
        simp only [upd, if_neg hne] at hg'
        exact holdne id' (hG.ok id' b' hg').1 heq
      · rw [hιn] at heq
        simp only [upd, if_neg hne] at hg'
        exact absurd heq (holdne id' (hG.ok id' b' hg').1)
    · rw [if_neg hid] at hb
      obtain ⟨hU, hok⟩ := hG.ok id b hb
      have hlt2 := hG.inW id hU
      refine ⟨.inl hU, hok.mono hEvo hU (hold _ hlt2) (hstill _ hlt2) fun id' b' hne hg' heq => ?_⟩
      simp only [upd] at hg'
      by_cases hid' : id' = nid
      · subst hid'
        rw [hιn] at heq
        omega
      · rw [if_neg hid'] at hg'
        exact ⟨b', hg', by rw [← heq, hι id' (hG.ok id' b' hg').1], rfl, fun h => h⟩
  · exact rv_swap hιn (by rw [hsn, ← hsz]) (.inr rfl) hrow hok hrv
theorem tstart2 {P : Program} {n : FuncId} {fn : Func} {c : Code} {args : List AV} {a : AV} {e : TypeId} {k : Nat} {rows : List (List AV)} {rs : List ResultVar} {nt : Nat} (hf : P.funcs[n]? = some fn) (hnt : fn.ntmps = nt) (ha : ∀ a ∈ args, NoId a) (hok : OkO a) (hrows : ∀ row ∈ rows, ∀ x ∈ row, NoId x)
    (h : AW P c ⟨envOf 0 args, ⟨0, tabG []⟩, nt⟩ (hold (endA P rs (hold (fun r H' => ∃ i, r = renO i a ∧ ∃ rows0, H'.get i = some (.cells e k rows0 true true) ∧ Wkr rows0 rows) ⟨⟩)) ⟨⟩))
    (hb : fn.body = some c := by rfl) (hr : fn.results = List.toArray rs := by rfl) (hnm : (fn.name == "runtime.NumGoroutine") = false := by kernel_rfl) (hlen : args.length ≤ nt := by (simp only [List.length_cons, List.length_nil]; decide)) : TOCall P n args a e k rows := by
  refine tocall_of2 ha hok hrows (acall hf hb hnm (by rw [hnt]; exact hlen) ?_)
  rw [hnt, hr]
  exact h
theorem fcstart {P : Program} {n : FuncId} {fn : Func} {c : Code} {args : List AV} {b : AV} {rs : List ResultVar} {nt : Nat} (hf : P.funcs[n]? = some fn) (hnt : fn.ntmps = nt)
    (h : AW P c ⟨envOf 0 args, ⟨0, tabG []⟩, nt⟩ (hold (endA P rs (hold (fun a H' => NoId (expoD H'.get 4 a) ∧ fresh H'.get 4 a = true ∧ expoD H'.get 4 a = b) ⟨⟩)) ⟨⟩))
    (hb : fn.body = some c := by (first | rfl | fail)) (hr : fn.results = List.toArray rs := by (first | rfl | fail)) (hnm : (fn.name == "runtime.NumGoroutine") = false := by (first | kernel_rfl | fail)) (hlen : args.length ≤ nt := by (simp only [List.length_cons, List.length_nil]; decide)) : FCall P n args b := by
  refine fcallD 4 hf hb hnm (by rw [hnt]; exact hlen) ?_
  rw [hnt, hr]
  exact h
end Go.AL
namespace Go.AL
set_option linter.unusedVariables false
set_option linter.unusedSimpArgs false
theorem RC.rowsV {E : Env} {W : World} {G : Nat → Option Blk} {j : Nat} {e : TypeId} {s : Nat} {rws rws' : List (List AV)} {w a : Bool} {cur0 : Array Value} (hG : RC E W G) (hj : G j = some (.cells e s rws w a)) (hl : rws'.length = rws.length)
    (hr : ∀ (i : Nat) r r', rws[i]? = some r → rws'[i]? = some r' → r'.length = r.length ∧ ∀ (k : Nat) x y, r[k]? = some x → r'[k]? = some y → ∀ v, cur0[i * s + k]? = some v → RV E W y v) (hcur : W.heap[E.ι j]? = some (Obj.cells cur0 e (0, 0))) : RC E W (upd G [(j, some (.cells e s rws' w a))]) := by
  have hsame : ∀ id b, upd G [(j, some (.cells e s rws' w a))] id = some b → ∃ b0, G id = some b0 ∧ b.upto = b0.upto ∧ (b0.app = false → b.app = false) := fun id b h => by
    simp only [upd] at h
    split at h
    · rename_i heq
      injection h with h
      subst h; subst heq
      exact ⟨_, hj, by simp only [Blk.upto, hl], fun h => h⟩
    · exact ⟨b, h, rfl, fun h => h⟩
  refine ⟨hG.lim, hG.inW, fun id b hb => ?_⟩
  by_cases hid : id = j
  · subst hid
    simp only [upd] at hb
    rw [if_pos trivial] at hb
    injection hb with hb
    subst hb
    obtain ⟨hU, h1, h2, ⟨cur, h3, h4, h5⟩, h6, h7⟩ := hG.ok id _ hj
    have hat : ∀ (i : Nat) r', rws'[i]? = some r' → ∃ r, rws[i]? = some r := fun i r' h => ⟨_, List.getElem?_eq_getElem (by rw [← hl]; exact (List.getElem?_eq_some_iff.1 h).1)⟩
    refine ⟨hU, h1, fun i r' hi => ?_, ⟨cur, h3, by rw [hl]; exact h4, fun i k r' y hi hk => ?_⟩, fun hw => ?_, fun ha => ?_⟩
    · obtain ⟨r, h8⟩ := hat i r' hi
      rw [(hr i r r' h8 hi).1]
      exact h2 i r h8
    · obtain ⟨r, h8⟩ := hat i r' hi
      have h9 := hr i r r' h8 hi
      have h10 : k < r.length := by rw [← h9.1]; exact (List.getElem?_eq_some_iff.1 hk).1
      obtain ⟨v, h11, h12⟩ := h5 i k r _ h8 (List.getElem?_eq_getElem h10)
      have hcc : cur = cur0 := by
        rw [hcur] at h3; injection h3 with h3; injection h3 with h3; exact h3.symm
      exact ⟨v, h11, h9.2 k _ y (List.getElem?_eq_getElem h10) hk v (by rw [← hcc]; exact h11)⟩
    · obtain ⟨h8, h9⟩ := h6 hw
      refine ⟨h8, fun id' b' hne hg' => ?_⟩
      obtain ⟨b0, h10, _⟩ := hsame id' b' hg'
      exact h9 id' b0 hne h10
    · obtain ⟨h8, h9⟩ := h7 ha
      refine ⟨by rw [hl]; exact h8, fun id' b' hne hg' heq => ?_⟩
      obtain ⟨b0, h10, h11, h12⟩ := hsame id' b' hg'
      obtain ⟨h13, h14⟩ := h9 id' b0 hne h10 heq
      exact ⟨by rw [h11, hl]; exact h13, h12 h14⟩
  · have hb2 : G id = some b := by simpa only [upd, if_neg hid] using hb
    obtain ⟨hU, hok⟩ := hG.ok id b hb2
    refine ⟨hU, ?_⟩
    cases b with
    | map es =>
      obtain ⟨h1, h5, h6⟩ := hok
      refine ⟨h1, h5, fun id' b' hne' hg' => ?_⟩
      obtain ⟨b0, h10, _⟩ := hsame id' b' hg'
      exact h6 id' b0 hne' h10
    | iter m n seen =>
      obtain ⟨h1, h5, h6⟩ := hok
      refine ⟨h1, h5, fun id' b' hne' hg' => ?_⟩
      obtain ⟨b0, h10, _⟩ := hsame id' b' hg'
      exact h6 id' b0 hne' h10
    | rcd env nt ps assign body st pend =>
      obtain ⟨h1, h5, h6⟩ := hok
      refine ⟨h1, h5, fun id' b' hne' hg' => ?_⟩
      obtain ⟨b0, h10, _⟩ := hsame id' b' hg'
      exact h6 id' b0 hne' h10
    | cells e' s' rows' w' a' =>
      obtain ⟨h1, h2, h3, h6, h7⟩ := hok
      refine ⟨h1, h2, h3, fun hw => ?_, fun ha => ?_⟩
      · obtain ⟨h8, h9⟩ := h6 hw
        refine ⟨h8, fun id' b' hne' hg' => ?_⟩
        obtain ⟨b0, h10, _⟩ := hsame id' b' hg'
        exact h9 id' b0 hne' h10
      · obtain ⟨h8, h9⟩ := h7 ha
        refine ⟨h8, fun id' b' hne' hg' heq => ?_⟩
        obtain ⟨b0, h10, h11, h12⟩ := hsame id' b' hg'
        obtain ⟨h13, h14⟩ := h9 id' b0 hne' h10 heq
        exact ⟨by rw [h11]; exact h13, h12 h14⟩
def Fz (id : Nat) (rows : List (List AV)) (x y : AV) : Prop := x = y ∨ ∃ off len, x = .own id off len ∧ off + len ≤ rows.length ∧ y = .snap ((rows.drop off).take len)
def FzRows (id : Nat) (rows rws rws' : List (List AV)) : Prop :=
  rws'.length = rws.length ∧ ∀ (i : Nat) r r', rws[i]? = some r → rws'[i]? = some r' → r'.length = r.length ∧ ∀ (k : Nat) x y, r[k]? = some x → r'[k]? = some y → Fz id rows x y
theorem aw_fz {P : Program} {σ : AS} {Q : Exit → AS → Prop} {c : Code} (id j : Nat) {e e2 : TypeId} {s s2 : Nat} {rows rws : List (List AV)} {w a w2 a2 : Bool} (rws' : List (List AV)) (hg : σ.H.get id = some (.cells e s rows w a)) (hj : σ.H.get j = some (.cells e2 s2 rws w2 a2)) (hij : j ≠ id)
    (hr : FzRows id rows rws rws') (h : AW P c ⟨σ.env, ⟨σ.H.next, upd (upd σ.H.get [(id, some (.cells e s rows false a))]) [(j, some (.cells e2 s2 rws' w2 a2))]⟩, σ.nt⟩ Q) : AW P c σ Q := fun ro E W act hro hrel => by
  obtain ⟨hv, hH⟩ := freeze1 hrel.heap hg
  have hL : ∀ id', id' ∈ [id] → ∀ (e' : TypeId) (s' : Nat) (rows' : List (List AV)) (w' a' : Bool), σ.H.get id' = some (.cells e' s' rows' w' a') → rows'.length * s' ≤ (if E.ι id' = E.ι id then max (E.L (E.ι id')) (rows.length * s) else E.L (E.ι id')) := fun id' h1 e' s' rows' w' a' h2 => by
    simp only [List.mem_cons, List.not_mem_nil, or_false] at h1
    subst h1
    rw [hg] at h2
    injection h2 with h2
    injection h2 with h3 h4 h5
    subst h4 h5
    rw [if_pos rfl]
    omega
  have hj2 : (upd σ.H.get [(id, some (.cells e s rows false a))]) j = some (.cells e2 s2 rws w2 a2) := by
    simp only [upd]; rw [if_neg hij]; exact hj
  -- the values of the block j in the old world
  obtain ⟨_, _, _, ⟨cur, hc1, _, hc2⟩, _, _⟩ := hrel.heap.core.ok j _ hj
  have hRC : RC ⟨E.ι, E.sz, E.U, fun b => if b = E.ι id then max (E.L b) (rows.length * s) else E.L b⟩ W (upd (upd σ.H.get [(id, some (.cells e s rows false a))]) [(j, some (.cells e2 s2 rws' w2 a2))]) := by
    refine hH.core.rowsV hj2 hr.1 (fun i r r' h1 h2 => ⟨(hr.2 i r r' h1 h2).1, fun k x y hx hy v hvat => ?_⟩) hc1
    obtain ⟨v', h3, h4⟩ := hc2 i k r x h1 hx
    rw [hvat] at h3
    injection h3 with h3
    subst h3
    rcases (hr.2 i r r' h1 h2).2 k x y hx hy with rfl | ⟨off, len, rfl, hle, rfl⟩
    · exact h4.mono hv
    · have := expoX1 hrel.heap.core hv h4 (fun id' h5 => hL id' (by simpa [ids1] using h5))
      simpa [expo1, rowsOf, hg, hle] using this
  refine wpIn_mono (h ro _ W act hro (hrel.mono hv ⟨hH.next, hRC⟩)) fun e' a' w' ⟨E', σ', h2, h3, h4, h5⟩ => ⟨E', σ', (Went.of hv rfl).trans h2, h3, h4, h5⟩
end Go.AL
namespace Go.AL
open Go.RowKit
set_option linter.unusedVariables false
set_option linter.unusedSimpArgs false
section
variable {P : Program} {σ : AS}
theorem zcallFG {ops : Array Oper} {o : Oper} {rest : List Oper} {K : AS → Prop} {f : Operand} {as : Array Operand} {ts : Array TypeId} {n : FuncId} {args0 args : List AV} {r : AV} {p : AS × List Oper} {j : Nat} {want : Bool} (h : aops P true ops p.2 p.1 K) (hop : o.op = .call ⟨.value f, as, ts⟩ := by (first | rfl | fail)) (hg : o.guard = some (j, want) := by (first | rfl | fail))
    (hw : gcond (gval ops.toList j σ.env) want = some true := by (first | (simp (maxSteps := 2000000) (disch := omega) only [go_sem, *] <;> exact rfl) | fail))
    (hc : calleeA (σ.get true f) (getsA (σ.get true) as.toList) = some (n, args0) := by (first | (simp (maxSteps := 2000000) (disch := omega) only [go_sem, *] <;> exact rfl) | fail)) (he : args0.map (expoD σ.H.get 3) = args := by (first | (simp (maxSteps := 2000000) (disch := omega) only [go_sem, *] <;> exact rfl) | fail)) (hp : FCall P n args r := by (first | assumption | (apply_assumption <;> first | assumption | omega) | fail)) (hn : ∀ a ∈ args, NoId a := by (first | (simp (maxSteps := 2000000) only [go_sem, noId_fn, noId_sptr, false_implies, implies_true, *]; done) | (simp [noId_c, noId_agg, noId_snap, noId_tup, noId_fn, noId_sptr, encL_noIdE, *]; done) | fail))
    (hr : run P ops.toList rest (σ.put o.dst true r) = p := by (first | (simp (maxSteps := 2000000) (disch := omega) only [go_sem, *] <;> exact rfl) | fail)) : aops P true ops (o :: rest) σ K :=
  w_callAG hop hg hw hc (hp.act 3 he hn) fun r' H' ⟨h1, h2⟩ => by subst h1; subst h2; exact run_ok _ _ hr h
end
end Go.AL
namespace Go.AL
open Go.RowKit
set_option linter.unusedVariables false
set_option linter.unusedSimpArgs false
section
variable {P : Program} {σ : AS}
theorem w_next {ops : Array Oper} {o : Oper} {rest : List Oper} {K : AS → Prop} {x : Operand} {id m n : Nat} {seen : List Nat} {es : List (Value × AV)} (hop : o.op = .next x false) (hg : o.guard = none)
    (hx : σ.get true x = some (.ptr id 0 0)) (hi : σ.H.get id = some (.iter m n seen)) (hm : σ.H.get m = some (.map es)) (hn : es.length = n) (hk : ∀ p ∈ es, anyKeyB p.1 = true)
    (h0 : (∀ i, i < n → i ∈ seen) → aops P true ops rest (σ.put o.dst true (.tup [.c (.bool false)])) K)
    (h1 : ∀ i k a, i < n → i ∉ seen → es[i]? = some (k, a) → aops P true ops rest (({ σ with H := setB σ.H id (some (.iter m n (seen ++ [i]))) } : AS).put o.dst true (.tup [.c (.bool true), avK k, a])) K) : aops P true ops (o :: rest) σ K := by
  show aop P true ops o σ _
  unfold aop
  simp only [hg]
  unfold aopx
  simp only [hop]
  exact ⟨id, m, n, seen, es, hx, hi, hm, hn, hk, h0, h1⟩
end
end Go.AL
namespace Go.AL
open Go.RowKit
set_option linter.unusedVariables false
set_option linter.unusedSimpArgs false
section
variable {P : Program} {σ : AS} {Q : Exit → AS → Prop}
theorem d_callXZ {ops : List Oper} {N0 i : Nat} {o : Oper} {r : List Oper} {σ σ'' : AS} {es : List Entry} {f : Operand} {as : Array Operand} {ts : Array TypeId} {n : FuncId} {args0 args : List AV} {a : AV} {wr : List (Nat × Option Blk)} {rd : List Nat} (hop : o.op = .call ⟨.value f, as, ts⟩) (hg : o.guard = none)
    (hc : calleeA (σ.get true f) (getsA (σ.get true) as.toList) = some (n, args0)) (he : args0.map (expo2 σ.H.get) = args) (hrd : idsAll ids2 args0 = rd) (hw : (rd.map fun id => (id, frzB (σ.H.get id))) = wr) (hp : PCall P n args (· = a)) (hn : ∀ a ∈ args, NoId a) (h : DRun P ops N0 (i + 1) r (σ.app o.dst ⟨true, a, wr, rd⟩) es σ'') :
    DRun P ops N0 i (o :: r) σ (⟨true, a, wr, rd⟩ :: es) σ'' := d_callX hop hg hp hc he hn hrd hw h
theorem zdrawX {σ' : AS} {id : Nat} {ops : Array Oper} {es : List Entry} (h : Q .normal σ') (hm : P.follows .mixedOrders = true := by (first | kernel_rfl | fail)) (hs : statB ops = true := by (first | kernel_rfl | fail)) (hd : ops.toList.all (dstIn σ.nt) = true := by (first | rfl | fail))
    (hr : DRun P ops.toList σ.H.next 0 ops.toList { σ with H := ⟨σ.H.next + ops.size, σ.H.get⟩ } es σ' := by (first | (apply d_runZ; (next => (first | (simp (maxSteps := 2000000) (disch := omega) only [go_sem, *] <;> exact rfl) | fail)); (repeat (first | exact d_nil | (apply d_callXZ; (next => (first | rfl | fail)); (next => (first | rfl | fail)); (next => (first | (simp (maxSteps := 2000000) (disch := omega) only [go_sem, *] <;> exact rfl) | fail)); (next => (first | (simp (maxSteps := 2000000) (disch := omega) only [go_sem, *] <;> exact rfl) | fail)); (next => (first | (simp (maxSteps := 2000000) (disch := omega) only [go_sem, *] <;> exact rfl) | fail)); (next => (first | (simp (maxSteps := 2000000) (disch := omega) only [go_sem, *] <;> exact rfl) | fail)); (next => (first | assumption | (apply_assumption <;> first | assumption | omega) | fail)); (next => (first | (simp (maxSteps := 2000000) only [go_sem, noId_fn, noId_sptr, false_implies, implies_true, *]; done) | (simp [noId_c, noId_agg, noId_snap, noId_tup, noId_fn, noId_sptr, encL_noIdE, *]; done) | fail)); apply d_runZ; (next => (first | (simp (maxSteps := 2000000) (disch := omega) only [go_sem, *] <;> exact rfl) | fail))) | (apply d_skipZ; (next => (first | rfl | fail)); (next => (first | (simp (maxSteps := 2000000) (disch := omega) only [go_sem, *] <;> exact rfl) | fail)); apply d_runZ; (next => (first | (simp (maxSteps := 2000000) (disch := omega) only [go_sem, *] <;> exact rfl) | fail))) | (apply d_callTOZ; (next => (first | rfl | fail)); (next => (first | rfl | fail)); (next => (first | (simp (maxSteps := 2000000) (disch := omega) only [go_sem, *] <;> exact rfl) | fail)); (next => (first | assumption | (apply_assumption <;> first | assumption | omega) | fail)); apply d_runZ; (next => (first | (simp (maxSteps := 2000000) (disch := omega) only [go_sem, *] <;> exact rfl) | fail))) | (apply d_callOZ; (next => (first | rfl | fail)); (next => (first | rfl | fail)); (next => (first | (simp (maxSteps := 2000000) (disch := omega) only [go_sem, *] <;> exact rfl) | fail)); (next => (first | assumption | (apply_assumption <;> first | assumption | omega) | fail)); apply d_runZ; (next => (first | (simp (maxSteps := 2000000) (disch := omega) only [go_sem, *] <;> exact rfl) | fail))) | (apply d_callROZ; (next => (first | rfl | fail)); (next => (first | rfl | fail)); (next => (first | (simp (maxSteps := 2000000) (disch := omega) only [go_sem, *] <;> exact rfl) | fail)); (next => (first | (simp (maxSteps := 2000000) (disch := omega) only [go_sem, *] <;> exact rfl) | fail)); (next => (first | (simp (maxSteps := 2000000) (disch := omega) only [go_sem, *] <;> exact rfl) | fail)); (next => (first | assumption | (apply_assumption <;> first | assumption | omega) | fail)); (next => (first | (simp (maxSteps := 2000000) only [go_sem, noId_fn, noId_sptr, false_implies, implies_true, *]; done) | (simp [noId_c, noId_agg, noId_snap, noId_tup, noId_fn, noId_sptr, encL_noIdE, *]; done) | fail)); apply d_runZ; (next => (first | (simp (maxSteps := 2000000) (disch := omega) only [go_sem, *] <;> exact rfl) | fail))) | (apply d_callPZ; (next => (first | rfl | fail)); (next => (first | rfl | fail)); (next => (first | (simp (maxSteps := 2000000) (disch := omega) only [go_sem, *] <;> exact rfl) | fail)); (next => (first | assumption | (apply_assumption <;> first | assumption | omega) | fail)); (next => (first | (simp (maxSteps := 2000000) only [go_sem, noId_fn, noId_sptr, false_implies, implies_true, *]; done) | (simp [noId_c, noId_agg, noId_snap, noId_tup, noId_fn, noId_sptr, encL_noIdE, *]; done) | fail)); apply d_runZ; (next => (first | (simp (maxSteps := 2000000) (disch := omega) only [go_sem, *] <;> exact rfl) | fail))) | (apply d_callGZ; (next => (first | rfl | fail)); (next => (first | rfl | fail)); (next => (first | (simp (maxSteps := 2000000) (disch := omega) only [go_sem, *] <;> exact rfl) | fail)); (next => (first | (simp (maxSteps := 2000000) (disch := omega) only [go_sem, *] <;> exact rfl) | fail)); (next => (first | assumption | (apply_assumption <;> first | assumption | omega) | fail)); (next => (first | (simp (maxSteps := 2000000) only [go_sem, noId_fn, noId_sptr, false_implies, implies_true, *]; done) | (simp [noId_c, noId_agg, noId_snap, noId_tup, noId_fn, noId_sptr, encL_noIdE, *]; done) | fail)); apply d_runZ; (next => (first | (simp (maxSteps := 2000000) (disch := omega) only [go_sem, *] <;> exact rfl) | fail))) | (apply d_callR; (next => (first | rfl | fail)); (next => (first | rfl | fail)); (next => (first | (simp (maxSteps := 2000000) (disch := omega) only [go_sem, *] <;> exact rfl) | fail)); (next => (first | (simp (maxSteps := 2000000) (disch := omega) only [go_sem, *] <;> exact rfl) | fail)); (next => (first | (simp (maxSteps := 2000000) (disch := omega) only [go_sem, *] <;> exact rfl) | fail)); (next => (first | assumption | (apply_assumption <;> first | assumption | omega) | fail)); (next => (first | (simp (maxSteps := 2000000) only [go_sem, noId_fn, noId_sptr, false_implies, implies_true, *]; done) | (simp [noId_c, noId_agg, noId_snap, noId_tup, noId_fn, noId_sptr, encL_noIdE, *]; done) | fail)); apply d_runZ; (next => (first | (simp (maxSteps := 2000000) (disch := omega) only [go_sem, *] <;> exact rfl) | fail))) | (apply d_callRG; (next => (first | rfl | fail)); (next => (first | rfl | fail)); (next => (first | (simp (maxSteps := 2000000) (disch := omega) only [go_sem, *] <;> exact rfl) | fail)); (next => (first | (simp (maxSteps := 2000000) (disch := omega) only [go_sem, *] <;> exact rfl) | fail)); (next => (first | (simp (maxSteps := 2000000) (disch := omega) only [go_sem, *] <;> exact rfl) | fail)); (next => (first | (simp (maxSteps := 2000000) (disch := omega) only [go_sem, *] <;> exact rfl) | fail)); (next => (first | assumption | (apply_assumption <;> first | assumption | omega) | fail)); (next => (first | (simp (maxSteps := 2000000) only [go_sem, noId_fn, noId_sptr, false_implies, implies_true, *]; done) | (simp [noId_c, noId_agg, noId_snap, noId_tup, noId_fn, noId_sptr, encL_noIdE, *]; done) | fail)); apply d_runZ; (next => (first | (simp (maxSteps := 2000000) (disch := omega) only [go_sem, *] <;> exact rfl) | fail)))))) | fail))
    (hdyn : dynGo (tab ops.toList) 0 [] es = true := by (first | (simp (maxSteps := 2000000) (disch := omega) only [go_sem, nbeq_F, nbeq_T, *] <;> kernel_rfl) | fail)) : AW P (.region id ops true) σ Q := w_draw hm hs hd hr hdyn h
end
end Go.AL
