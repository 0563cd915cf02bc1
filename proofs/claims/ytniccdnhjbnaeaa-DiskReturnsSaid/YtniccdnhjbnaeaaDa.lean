/- The disk as data; its first functions. No condition but those named. -/
import Derived.Test.YtniccdnhjbnaeaaLf
import Derived.Test.YtniccdnhjbnaeaaLc
import Derived.KernelRfl
/- The disk's data as abstract values. -/
namespace Go.Proofs.Ytniccdnhjbnaeaa
open Go.Proofs Go.AL
set_option linter.unusedVariables false
set_option linter.unusedSimpArgs false

/-- The bytes of a sector. -/
abbrev Sec := (Int × Int × Int × Int) × (Int × Int × Int × Int)
abbrev uV (x : Int) : AV := .c (.int .u8 x)
def encSec (s : Sec) : List AV := [uV s.1.1, uV s.1.2.1, uV s.1.2.2.1, uV s.1.2.2.2, uV s.2.1, uV s.2.2.1, uV s.2.2.2.1, uV s.2.2.2.2]
def zSec : Sec := ((0, 0, 0, 0), (0, 0, 0, 0))
def zCa : Int × Sec := (0, zSec)
def encCa (x : Int × Sec) : List AV := zV x.1 :: encSec x.2
theorem sec_len (s : Sec) : (encSec s).length = 8 := rfl
theorem sec_one (s : Sec) : (encSec s).all AV.one = true := rfl
theorem sec_take (s : Sec) : (encSec s).take 8 = encSec s := rfl
theorem sec_drop (s : Sec) : (encSec s).drop 8 = [] := rfl
theorem sec_noId (s : Sec) : ∀ x ∈ encSec s, NoId x := by
  intro x hx
  simp only [encSec, List.mem_cons, List.not_mem_nil, or_false] at hx
  rcases hx with rfl | rfl | rfl | rfl | rfl | rfl | rfl | rfl <;> exact .c _
theorem sec_noIdE (s : Sec) : (∀ x, x ∈ encSec s → NoId x) = True := eq_true (sec_noId s)
theorem sec_expo (G : Nat → Option Blk) (s : Sec) : (encSec s).map (expo1 G) = encSec s := rfl
instance : RowEnc encSec 8 := ⟨sec_len, sec_one, sec_noId⟩
instance : RowEnc encCa 9 := ⟨fun _ => rfl, fun _ => rfl, fun a x hx => by
  simp only [encCa, List.mem_cons] at hx
  rcases hx with rfl | hx
  · exact .c _
  · exact sec_noId _ x hx⟩
theorem zeroT64 : zeroT Try.prog 64 = some (encSec zSec) := by kernel_rfl
theorem zeroT65 : zeroT Try.prog 65 = some (encSec zSec) := by kernel_rfl
theorem zeroT66 : zeroT Try.prog 66 = some (zV 0 :: encSec zSec) := by kernel_rfl
theorem zeroT67 : zeroT Try.prog 67 = some (zV 0 :: encSec zSec) := by kernel_rfl
theorem ca_snocE (a : List (Int × Sec)) (x : Int) (s : Sec) : encL encCa a ++ [zV x :: encSec s] = encL encCa (a ++ [(x, s)]) := encL_snoc a (x, s)
theorem ca_oneE (x : Int) (s : Sec) : [zV x :: encSec s] = encL encCa [(x, s)] := rfl
theorem sec_snocE (a : List Sec) (s : Sec) : encL encSec a ++ [encSec s] = encL encSec (a ++ [s]) := encL_snoc a s
theorem sec_setE (a : List Sec) (i : Nat) (s : Sec) : (encL encSec a).set i (encSec s) = encL encSec (a.set i s) := encL_set a i s
theorem sec_replE (n : Nat) (s : Sec) : List.replicate n (encSec s) = encL encSec (List.replicate n s) := encL_repl n s

/-- An operation: kind, place, data. -/
structure Opr where
  kind : Int
  at_ : Int
  data : List Sec
instance : Inhabited Opr := ⟨⟨0, 0, []⟩⟩
def encOp (o : Opr) : List AV := [zV o.kind, zV o.at_, .snap (encL encSec o.data)]
instance : RowEnc encOp 3 := ⟨fun _ => rfl, fun _ => rfl, fun a x hx => by
  simp only [encOp, List.mem_cons, List.not_mem_nil, or_false] at hx
  rcases hx with rfl | rfl | rfl
  · exact .c _
  · exact .c _
  · exact encL_noId _⟩
def encExt (x : Int × Int) : List AV := [zV x.1, zV x.2]
instance : RowEnc encExt 2 := ⟨fun _ => rfl, fun _ => rfl, fun a x hx => by
  simp only [encExt, List.mem_cons, List.not_mem_nil, or_false] at hx
  rcases hx with rfl | rfl <;> exact .c _⟩

structure Dsk where
  st : List Sec
  ca : List (Int × Sec)
def encD (d : Dsk) : List AV := [.snap (encL encSec d.st), .snap (encL encCa d.ca)]
theorem d_noId (d : Dsk) : NoId (.agg (encD d)) := noId_agg.2 fun x hx => by
  simp only [encD, List.mem_cons, List.not_mem_nil, or_false] at hx
  rcases hx with rfl | rfl <;> exact encL_noId _
def Dsk.empty : Dsk := ⟨[], []⟩

theorem guard65 : Try.prog.eqGuardType Try.prog.depth 65 = false := by kernel_rfl
theorem guard67 : Try.prog.eqGuardType Try.prog.depth 67 = false := by kernel_rfl
theorem guard29 : Try.prog.eqGuardType Try.prog.depth 29 = false := by kernel_rfl
theorem stood67 : Try.prog.stoodInHeld 67 = false := by kernel_rfl
theorem stood29 : Try.prog.stoodInHeld 29 = false := by kernel_rfl
theorem eqA_int (d : Nat) (t : TypeId) (k k0 : IntKind) (h : Try.prog.underlying t = some (.int k0)) (a b : Int) : eqA Try.prog (d + 1) t (.c (.int k a)) (.c (.int k b)) = some (a == b) := by
  simp [eqA, h]
theorem eqA_sec (d : Nat) (s t : Sec) : eqA Try.prog (d + 2) 65 (.agg (encSec s)) (.agg (encSec t)) = some (decide (s = t)) := by
  have h5 : Try.prog.underlying 5 = some (.int .u8) := Try.underlying5
  simp only [eqA, Try.underlying65, szT5, eqIs, partA, isAggT5, encSec, List.range_succ, List.range_zero, List.nil_append, List.cons_append, Nat.zero_mul, Nat.mul_one, List.getElem?_cons_zero, List.getElem?_cons_succ, h5, if_true]
  obtain ⟨⟨a, b, c, e⟩, ⟨f, g, h, i⟩⟩ := s
  obtain ⟨⟨a', b', c', e'⟩, ⟨f', g', h', i'⟩⟩ := t
  simp only [Option.some.injEq, Prod.mk.injEq]
  rw [Bool.eq_iff_iff]
  simp only [Bool.and_eq_true, beq_iff_eq, decide_eq_true_eq, Bool.and_true, and_assoc]
theorem eqs_sec (s t : Sec) : eqTop Try.prog 65 (.agg (encSec s)) (.agg (encSec t)) = some (decide (s = t)) := by
  unfold eqTop
  rw [guard65, if_neg (by simp)]
  exact eqA_sec 9998 s t
theorem eqA_struct {d : Nat} {t : TypeId} {fs : Array Field} (h : Try.prog.underlying t = some (.struct fs)) (hp : Try.prog.stoodInHeld t = false) (xs ys : List AV) : eqA Try.prog (d + 1) t (.agg xs) (.agg ys) = eqFs Try.prog (eqA Try.prog d) xs ys fs.toList := by
  simp [eqA, h, hp]
theorem eqA_ca (d : Nat) (x y : Int) (s t : Sec) : eqA Try.prog (d + 3) 67 (.agg (zV x :: encSec s)) (.agg (zV y :: encSec t)) = some (decide ((x, s) = (y, t))) := by
  have h := eqA_sec d s t
  have h3 := eqA_int (d + 1) 3 .i64 .i64 Try.underlying3 x y
  rw [eqA_struct Try.underlying67 stood67]
  simp only [eqFs, partA, isAggT3, szT3, isAggT65, szT65, List.getElem?_cons_zero, List.drop_succ_cons, List.drop_zero, sec_take, List.length_cons, sec_len, Nat.reduceAdd, Nat.reduceLeDiff, if_true, reduceCtorEq, String.reduceEq, h3, h, if_false]
  simp only [Option.some.injEq, Prod.mk.injEq]
  rw [Bool.eq_iff_iff]
  simp
theorem eqs_ca (x y : Int) (s t : Sec) : eqTop Try.prog 67 (.agg (zV x :: encSec s)) (.agg (zV y :: encSec t)) = some (decide ((x, s) = (y, t))) := by
  unfold eqTop
  rw [guard67, if_neg (by simp)]
  exact eqA_ca 9997 x y s t
attribute [go_sem] zeroT64 zeroT65 zeroT66 zeroT67 sec_len sec_one sec_take sec_drop sec_noId sec_noIdE sec_expo ca_snocE sec_snocE sec_setE sec_replE encCa encOp encExt eqs_sec eqs_ca
end Go.Proofs.Ytniccdnhjbnaeaa

namespace Go.Proofs.Ytniccdnhjbnaeaa
open Go.Proofs Go.AL
set_option maxRecDepth 100000
set_option maxHeartbeats 1000000
set_option linter.unusedVariables false
set_option linter.unusedSimpArgs false
attribute [local irreducible] endA
attribute [local go_sem] dec_ltT dec_ltF dec_leT dec_leF beq_T beq_F bne_T bne_F encD


def insideB (L : Nat) (a n : Int) : Bool := decide (0 ≤ a) && decide (0 ≤ n) && decide (n ≤ L) && decide (a ≤ L - n)
def inD (L : Nat) (x : Int) : Bool := decide (0 ≤ x) && decide (x < L)
/-- The error of a disk. -/
def checkD (d : Dsk) : Int := if d.st.length ≤ 4096 ∧ d.ca.all (fun c => inD d.st.length c.1) = true then 0 else 2

theorem inside_p (d : Dsk) (a n : Int) (hL : d.st.length ≤ 1000000) : PCall Try.prog 43 [.agg (encD d), zV a, zV n] (· = bV (insideB d.st.length a n)) := by
  refine pcall Try.func43 rfl (by kernel_rfl) (by simp [Try.ntmps43]) ?_
  rw [Try.ntmps43]
  by_cases h1 : 0 ≤ a
  · by_cases h2 : 0 ≤ n
    · by_cases h3 : n ≤ d.st.length
      · repeat (first | (refine aw_seq ?_) | (apply w_region (by rfl); (next => (simp (maxSteps := 2000000) (disch := omega) only [go_sem] <;> exact rfl))) | (refine w_nil ?_) | (refine w_hold2 ?_) | (refine w_then ?_) | (refine aw_ret ?_) | (apply w_end; (next => (simp (maxSteps := 2000000) (disch := omega) only [go_sem, Try.f43] <;> exact rfl))))
        (simp (maxSteps := 2000000) (disch := omega) only [go_sem, noId_c, noId_agg, noId_tup, noId_snap, encL_noIdE, sec_noIdE] <;> simp [insideB, h1, h2, h3])
      · repeat (first | (refine aw_seq ?_) | (apply w_region (by rfl); (next => (simp (maxSteps := 2000000) (disch := omega) only [go_sem] <;> exact rfl))) | (refine w_nil ?_) | (refine w_hold2 ?_) | (refine w_then ?_) | (refine aw_ret ?_) | (apply w_end; (next => (simp (maxSteps := 2000000) (disch := omega) only [go_sem, Try.f43] <;> exact rfl))))
        (simp (maxSteps := 2000000) (disch := omega) only [go_sem, noId_c, noId_agg, noId_tup, noId_snap, encL_noIdE, sec_noIdE] <;> simp [insideB, h1, h2, h3])
    · repeat (first | (refine aw_seq ?_) | (apply w_region (by rfl); (next => (simp (maxSteps := 2000000) (disch := omega) only [go_sem] <;> exact rfl))) | (refine w_nil ?_) | (refine w_hold2 ?_) | (refine w_then ?_) | (refine aw_ret ?_) | (apply w_end; (next => (simp (maxSteps := 2000000) (disch := omega) only [go_sem, Try.f43] <;> exact rfl))))
      (simp (maxSteps := 2000000) (disch := omega) only [go_sem, noId_c, noId_agg, noId_tup, noId_snap, encL_noIdE, sec_noIdE] <;> simp [insideB, h1, h2])
  · repeat (first | (refine aw_seq ?_) | (apply w_region (by rfl); (next => (simp (maxSteps := 2000000) (disch := omega) only [go_sem] <;> exact rfl))) | (refine w_nil ?_) | (refine w_hold2 ?_) | (refine w_then ?_) | (refine aw_ret ?_) | (apply w_end; (next => (simp (maxSteps := 2000000) (disch := omega) only [go_sem, Try.f43] <;> exact rfl))))
    (simp (maxSteps := 2000000) (disch := omega) only [go_sem, noId_c, noId_agg, noId_tup, noId_snap, encL_noIdE, sec_noIdE] <;> simp [insideB, h1])

theorem check1_p (d : Dsk) (c : Int × Sec) (hL : d.st.length ≤ 1000000) : PCall Try.prog 58 [.agg (encCa c), .sptr [encD d] 0 0] (· = bV (!inD d.st.length c.1)) := by
  refine pcall Try.func58 rfl (by kernel_rfl) (by simp [Try.ntmps58]) ?_
  rw [Try.ntmps58]
  by_cases h1 : 0 ≤ c.1
  · repeat (first | (refine aw_seq ?_) | (apply w_region (by rfl); (next => (simp (maxSteps := 2000000) (disch := omega) only [go_sem] <;> exact rfl))) | (refine w_nil ?_) | (refine w_hold2 ?_) | (refine w_then ?_) | (refine aw_ret ?_) | (apply w_end; (next => (simp (maxSteps := 2000000) (disch := omega) only [go_sem, Try.f58] <;> exact rfl))))
    (simp (maxSteps := 2000000) (disch := omega) only [go_sem, noId_c, noId_agg, noId_tup, noId_snap, encL_noIdE, sec_noIdE] <;> simp [inD, h1])
    rw [Bool.eq_iff_iff]; simp
  · repeat (first | (refine aw_seq ?_) | (apply w_region (by rfl); (next => (simp (maxSteps := 2000000) (disch := omega) only [go_sem] <;> exact rfl))) | (refine w_nil ?_) | (refine w_hold2 ?_) | (refine w_then ?_) | (refine aw_ret ?_) | (apply w_end; (next => (simp (maxSteps := 2000000) (disch := omega) only [go_sem, Try.f58] <;> exact rfl))))
    (simp (maxSteps := 2000000) (disch := omega) only [go_sem, noId_c, noId_agg, noId_tup, noId_snap, encL_noIdE, sec_noIdE] <;> simp [inD, h1])


/-- The first index from k on at which p, or -1. -/
def idxFrom {α : Type} (p : α → Bool) : List α → Nat → Int
  | [], _ => -1
  | x :: r, k => if p x then (k : Int) else idxFrom p r (k + 1)
theorem idxFrom_hit {α : Type} {p : α → Bool} {l : List α} {k : Nat} {d : α} (h : k < l.length) (hp : p (l.getD k d) = true) (j : Nat) : idxFrom p (l.drop k) j = j := by
  rw [List.drop_eq_getElem_cons h]
  have : p l[k] = true := by simpa [h] using hp
  simp [idxFrom, this]
theorem idxFrom_miss {α : Type} {p : α → Bool} {l : List α} {k : Nat} {d : α} (h : k < l.length) (hp : p (l.getD k d) = false) (j : Nat) : idxFrom p (l.drop k) j = idxFrom p (l.drop (k + 1)) (j + 1) := by
  rw [List.drop_eq_getElem_cons h]
  have : p l[k] = false := by simpa [h] using hp
  simp [idxFrom, this]
theorem idxFrom_end {α : Type} {p : α → Bool} {l : List α} {k : Nat} (h : l.length ≤ k) (j : Nat) : idxFrom p (l.drop k) j = -1 := by
  rw [List.drop_eq_nil_of_le h]; rfl
theorem idxFrom_any {α : Type} (p : α → Bool) : ∀ (l : List α) (k : Nat), decide (0 ≤ idxFrom p l k) = l.any p
  | [], _ => rfl
  | x :: r, k => by
    simp only [idxFrom, List.any_cons]
    by_cases h : p x = true
    · simp [h]
    · simp [h, idxFrom_any p r (k + 1)]
/-- Head of IndexFunc's loop. -/
def HeadI {α : Type} (enc : α → List AV) (p : α → Bool) (l : List α) (F : AV) (n : Nat) (env : List (Nat × Bool × AV)) (H : Heap) : Prop :=
  ∃ k m, n = l.length - k ∧ k ≤ l.length ∧ idxFrom p l 0 = idxFrom p (l.drop k) k ∧ env = [(8, true, zV (k : Int)), (7, true, zV (l.length : Int)), (1, true, F), (0, true, .snap (encL enc l))] ∧ H = ⟨m, tabG []⟩

theorem indexCa_p (p : Int × Sec → Bool) (n : FuncId) (l : List (Int × Sec)) (first cap : List AV) (hp : ∀ x, PCall Try.prog n (first ++ [.agg (encCa x)] ++ cap) (· = bV (p x))) (hn1 : ∀ x ∈ first, NoId x) (hn2 : ∀ x ∈ cap, NoId x) (hL : l.length ≤ 1000000) : PCall Try.prog 68 [.snap (encL encCa l), .fn (.func n) first cap] (· = zV (idxFrom p l 0)) := by
  refine pcall Try.func68 rfl (by kernel_rfl) (by simp [Try.ntmps68]) ?_
  rw [Try.ntmps68]
  repeat (first | (refine aw_seq ?_) | (apply w_region (by rfl); (next => (simp (maxSteps := 2000000) (disch := omega) only [go_sem] <;> exact rfl))) | (refine w_nil ?_) | (refine w_hold2 ?_) | (refine w_then ?_) | (refine aw_ret ?_) | (refine aw_exit ?_) | (refine aw_block ?_) | (apply w_end; (next => (simp (maxSteps := 2000000) (disch := omega) only [go_sem, Try.f68] <;> exact rfl))) | (apply w_condF; (next => (simp (maxSteps := 2000000) (disch := omega) only [go_sem] <;> done))))
  refine w_loop (HeadI encCa p l (.fn (.func n) first cap)) l.length ?_ ?_
  · refine ⟨_, _, ⟨0, 1000, by omega, by omega, by simp, rfl, rfl⟩, ?_⟩
    refine holds_cons (by rfl) (holds_cons (by rfl) (holds_cons (by rfl) (holds_cons (by rfl) (holds_nil (by simp only []; omega) (fun _ _ h => h)))))
  · rintro n' env H ⟨k, m, rfl, hk, hix, rfl, rfl⟩
    by_cases hlt : k < l.length
    · have hq := hp (l.getD k zCa)
      cases hb : p (l.getD k zCa)
      · rw [hb] at hq
        repeat (first | (refine aw_seq ?_) | (apply w_region (by rfl); (next => (simp (maxSteps := 2000000) (disch := omega) only [go_sem, (encL_get zCa)] <;> exact rfl))) | (refine w_nil ?_) | (refine w_hold2 ?_) | (refine w_then ?_) | (refine w_thenR ?_) | (refine w_blockR ?_) | (refine aw_skip ?_) | (refine aw_ret ?_) | (refine aw_block ?_) | (apply w_end; (next => (simp (maxSteps := 2000000) (disch := omega) only [go_sem, (encL_get zCa), Try.f68] <;> exact rfl))) | (apply w_condT; (next => (simp (maxSteps := 2000000) (disch := omega) only [go_sem, (encL_get zCa)] <;> done))) | (apply w_condF; (next => (simp (maxSteps := 2000000) (disch := omega) only [go_sem, (encL_get zCa)] <;> done))) | (apply w_callP (hop := rfl) (hg := rfl) (hp := hq); (next => (simp (maxSteps := 2000000) (disch := omega) only [go_sem, (encL_get zCa)] <;> exact rfl)); (next => (simp [noId_c, noId_agg, noId_snap, noId_tup,encD,sec_noIdE,encL_noId,encL_noIdE,encCa,encOp,encExt,List.mem_append,or_imp,forall_and,eq_true hn1,eq_true hn2]; done)); (next => (simp (maxSteps := 2000000) (disch := omega) only [go_sem, (encL_get zCa)] <;> exact rfl))))
        refine ⟨l.length - (k + 1), by omega, _, _, ⟨k + 1, m, rfl, by omega, by rw [hix, idxFrom_miss hlt hb], rfl, rfl⟩, ?_⟩
        refine holds_cons (by rfl) (holds_cons (by rfl) (holds_cons (by rfl) (holds_cons (by rfl) (holds_nil (by simp only []; omega) (fun _ _ h => h)))))
      · rw [hb] at hq
        repeat (first | (refine aw_seq ?_) | (apply w_region (by rfl); (next => (simp (maxSteps := 2000000) (disch := omega) only [go_sem, (encL_get zCa)] <;> exact rfl))) | (refine w_nil ?_) | (refine w_hold2 ?_) | (refine w_then ?_) | (refine w_thenR ?_) | (refine w_blockR ?_) | (refine aw_skip ?_) | (refine aw_ret ?_) | (refine aw_block ?_) | (apply w_end; (next => (simp (maxSteps := 2000000) (disch := omega) only [go_sem, (encL_get zCa), Try.f68] <;> exact rfl))) | (apply w_condT; (next => (simp (maxSteps := 2000000) (disch := omega) only [go_sem, (encL_get zCa)] <;> done))) | (apply w_condF; (next => (simp (maxSteps := 2000000) (disch := omega) only [go_sem, (encL_get zCa)] <;> done))) | (apply w_callP (hop := rfl) (hg := rfl) (hp := hq); (next => (simp (maxSteps := 2000000) (disch := omega) only [go_sem, (encL_get zCa)] <;> exact rfl)); (next => (simp [noId_c, noId_agg, noId_snap, noId_tup,encD,sec_noIdE,encL_noId,encL_noIdE,encCa,encOp,encExt,List.mem_append,or_imp,forall_and,eq_true hn1,eq_true hn2]; done)); (next => (simp (maxSteps := 2000000) (disch := omega) only [go_sem, (encL_get zCa)] <;> exact rfl))))
        (simp (maxSteps := 2000000) (disch := omega) only [go_sem, noId_c, noId_agg, noId_tup, noId_snap, encL_noIdE, sec_noIdE] <;> simp [hix, idxFrom_hit hlt hb])
    · repeat (first | (refine aw_seq ?_) | (apply w_region (by rfl); (next => (simp (maxSteps := 2000000) (disch := omega) only [go_sem] <;> exact rfl))) | (refine w_nil ?_) | (refine w_hold2 ?_) | (refine w_then ?_) | (refine aw_ret ?_) | (refine aw_exit ?_) | (refine aw_block ?_) | (apply w_end; (next => (simp (maxSteps := 2000000) (disch := omega) only [go_sem, Try.f68] <;> exact rfl))) | (apply w_condF; (next => (simp (maxSteps := 2000000) (disch := omega) only [go_sem] <;> done))))
      (simp (maxSteps := 2000000) (disch := omega) only [go_sem, noId_c, noId_agg, noId_tup, noId_snap, encL_noIdE, sec_noIdE] <;> simp [hix, idxFrom_end (show l.length ≤ k by omega)])

end Go.Proofs.Ytniccdnhjbnaeaa

namespace Go.Proofs.Ytniccdnhjbnaeaa
open Go.Proofs Go.AL
set_option maxRecDepth 100000
set_option maxHeartbeats 1000000
set_option linter.unusedVariables false
set_option linter.unusedSimpArgs false
attribute [local irreducible] endA
attribute [local go_sem] dec_ltT dec_ltF dec_leT dec_leF beq_T beq_F bne_T bne_F encD


theorem noId_fn {f : Fn} {a b : List AV} : NoId (.fn f a b) ↔ (∀ x ∈ a, NoId x) ∧ (∀ x ∈ b, NoId x) := ⟨fun h => by cases h; exact ⟨by assumption, by assumption⟩, fun h => .fn f a b h.1 h.2⟩
theorem noId_sptr {rows : List (List AV)} {i o : Nat} : NoId (.sptr rows i o) ↔ ∀ row ∈ rows, ∀ x ∈ row, NoId x := ⟨fun h => by cases h; assumption, .sptr rows i o⟩

theorem containsCa_p (p : Int × Sec → Bool) (n : FuncId) (l : List (Int × Sec)) (first cap : List AV) (hp : ∀ x, PCall Try.prog n (first ++ [.agg (encCa x)] ++ cap) (· = bV (p x))) (hn1 : ∀ x ∈ first, NoId x) (hn2 : ∀ x ∈ cap, NoId x) (hL : l.length ≤ 1000000) : PCall Try.prog 57 [.snap (encL encCa l), .fn (.func n) first cap] (· = bV (l.any p)) := by
  refine pcall Try.func57 rfl (by kernel_rfl) (by simp [Try.ntmps57]) ?_
  rw [Try.ntmps57]
  have hany := idxFrom_any p l 0
  repeat (first | (refine aw_seq ?_) | (apply w_region (by rfl); (next => (simp (maxSteps := 2000000) (disch := omega) only [go_sem] <;> exact rfl))) | (refine w_nil ?_) | (refine w_hold2 ?_) | (refine w_then ?_) | (refine aw_ret ?_) | (apply w_end; (next => (simp (maxSteps := 2000000) (disch := omega) only [go_sem, Try.f57] <;> exact rfl))) | (apply w_callP (hop := rfl) (hg := rfl) (hp := (indexCa_p p n l first cap hp hn1 hn2 hL)); (next => (simp (maxSteps := 2000000) (disch := omega) only [go_sem] <;> exact rfl)); (next => (simp [noId_c, noId_agg, noId_snap, noId_tup,encD,sec_noIdE,encL_noId,encL_noIdE,encCa,encOp,encExt,noId_fn,List.mem_append,or_imp,forall_and,eq_true hn1,eq_true hn2,encL_noIdE]; done)); (next => (simp (maxSteps := 2000000) (disch := omega) only [go_sem] <;> exact rfl))))
  first | done | (simp (maxSteps := 2000000) (disch := omega) only [go_sem, noId_c, noId_agg, noId_tup, noId_snap, encL_noIdE, sec_noIdE] <;> simp [hany])


theorem checkD_0 {d : Dsk} (h1 : d.st.length ≤ 4096) (h2 : d.ca.any (fun c => !inD d.st.length c.1) = false) : checkD d = 0 := by
  unfold checkD
  exact if_pos ⟨h1, List.all_eq_true.2 fun c hc => by have := List.any_eq_false.1 h2 c hc; simpa using this⟩
theorem checkD_2 {d : Dsk} (h2 : d.ca.any (fun c => !inD d.st.length c.1) = true) : checkD d = 2 := by
  unfold checkD
  rw [if_neg]
  rintro ⟨_, h⟩
  obtain ⟨c, hc, h3⟩ := List.any_eq_true.1 h2
  rw [List.all_eq_true] at h
  rw [h c hc] at h3
  cases h3
theorem checkD_b {d : Dsk} (h : ¬ d.st.length ≤ 4096) : checkD d = 2 := if_neg fun h2 => h h2.1

theorem check_p (d : Dsk) (hL : d.st.length ≤ 1000000) (hC : d.ca.length ≤ 1000000) : PCall Try.prog 33 [.agg (encD d)] (· = zV (checkD d)) := by
  refine pcall Try.func33 rfl (by kernel_rfl) (by simp [Try.ntmps33]) ?_
  rw [Try.ntmps33]
  have hna : ∀ x ∈ ([] : List AV), NoId x := fun x h => by cases h
  have hnb : ∀ x ∈ [AV.sptr [encD d] 0 0], NoId x := fun x h => by
    rw [List.mem_singleton.1 h, noId_sptr]
    intro row hr
    rw [List.mem_singleton.1 hr]
    exact noId_agg.1 (d_noId d)
  by_cases h1 : d.st.length ≤ 4096
  · cases h2 : d.ca.any (fun c => !inD d.st.length c.1)
    · repeat (first | (refine aw_seq ?_) | (apply w_region (by rfl); (next => (simp (maxSteps := 2000000) (disch := omega) only [go_sem, h2] <;> exact rfl))) | (refine w_nil ?_) | (refine w_hold2 ?_) | (refine w_then ?_) | (refine aw_skip ?_) | (refine aw_ret ?_) | (apply w_end; (next => (simp (maxSteps := 2000000) (disch := omega) only [go_sem, h2, Try.f33] <;> exact rfl))) | (apply w_condF; (next => (simp (maxSteps := 2000000) (disch := omega) only [go_sem, h2] <;> done))) | (apply w_callXG (hop := rfl) (hg := rfl) (hp := (containsCa_p (fun c => !inD d.st.length c.1) 58 d.ca [] [.sptr [encD d] 0 0] (fun x => check1_p d x hL) hna hnb hC)); (next => (simp (maxSteps := 2000000) (disch := omega) only [go_sem, h2] <;> done)); (next => (simp (maxSteps := 2000000) (disch := omega) only [go_sem, h2] <;> exact rfl)); (next => (simp (maxSteps := 2000000) (disch := omega) only [go_sem, h2] <;> exact rfl)); (next => (simp [noId_c, noId_agg, noId_snap, noId_tup,encD,sec_noIdE,encL_noId,encL_noIdE,encCa,encOp,encExt,noId_fn,noId_sptr]; done)); (next => (simp (maxSteps := 2000000) (disch := omega) only [go_sem, h2] <;> exact rfl)); (next => (simp (maxSteps := 2000000) (disch := omega) only [go_sem, h2] <;> exact rfl))))
      (simp (maxSteps := 2000000) (disch := omega) only [go_sem, noId_c, noId_agg, noId_tup, noId_snap, encL_noIdE, sec_noIdE] <;> simp [checkD_0 h1 h2])
    · repeat (first | (refine aw_seq ?_) | (apply w_region (by rfl); (next => (simp (maxSteps := 2000000) (disch := omega) only [go_sem, h2] <;> exact rfl))) | (refine w_nil ?_) | (refine w_hold2 ?_) | (refine w_then ?_) | (refine w_thenR ?_) | (refine aw_ret ?_) | (apply w_end; (next => (simp (maxSteps := 2000000) (disch := omega) only [go_sem, h2, Try.f33] <;> exact rfl))) | (apply w_condT; (next => (simp (maxSteps := 2000000) (disch := omega) only [go_sem, h2] <;> done))) | (apply w_callXG (hop := rfl) (hg := rfl) (hp := (containsCa_p (fun c => !inD d.st.length c.1) 58 d.ca [] [.sptr [encD d] 0 0] (fun x => check1_p d x hL) hna hnb hC)); (next => (simp (maxSteps := 2000000) (disch := omega) only [go_sem, h2] <;> done)); (next => (simp (maxSteps := 2000000) (disch := omega) only [go_sem, h2] <;> exact rfl)); (next => (simp (maxSteps := 2000000) (disch := omega) only [go_sem, h2] <;> exact rfl)); (next => (simp [noId_c, noId_agg, noId_snap, noId_tup,encD,sec_noIdE,encL_noId,encL_noIdE,encCa,encOp,encExt,noId_fn,noId_sptr]; done)); (next => (simp (maxSteps := 2000000) (disch := omega) only [go_sem, h2] <;> exact rfl)); (next => (simp (maxSteps := 2000000) (disch := omega) only [go_sem, h2] <;> exact rfl))))
      (simp (maxSteps := 2000000) (disch := omega) only [go_sem, noId_c, noId_agg, noId_tup, noId_snap, encL_noIdE, sec_noIdE] <;> simp [checkD_2 h2])
  · repeat (first | (refine aw_seq ?_) | (apply w_region (by rfl); (next => (simp (maxSteps := 2000000) (disch := omega) only [go_sem] <;> exact rfl))) | (refine w_nil ?_) | (refine w_hold2 ?_) | (refine w_then ?_) | (refine w_thenR ?_) | (refine aw_ret ?_) | (apply w_end; (next => (simp (maxSteps := 2000000) (disch := omega) only [go_sem, Try.f33] <;> exact rfl))) | (apply w_condT; (next => (simp (maxSteps := 2000000) (disch := omega) only [go_sem] <;> done))) | (apply w_gF (hg := rfl); (next => (simp (maxSteps := 2000000) (disch := omega) only [go_sem] <;> exact rfl)); (next => (simp (maxSteps := 2000000) (disch := omega) only [go_sem] <;> exact rfl)); (next => (simp (maxSteps := 2000000) (disch := omega) only [go_sem] <;> exact rfl))))
    (simp (maxSteps := 2000000) (disch := omega) only [go_sem, noId_c, noId_agg, noId_tup, noId_snap, encL_noIdE, sec_noIdE] <;> simp [checkD_b h1])

end Go.Proofs.Ytniccdnhjbnaeaa

namespace Go.Proofs.Ytniccdnhjbnaeaa
open Go.Proofs Go.AL
set_option maxRecDepth 100000
set_option maxHeartbeats 1000000
set_option linter.unusedVariables false
set_option linter.unusedSimpArgs false
attribute [local irreducible] endA
attribute [local go_sem] dec_ltT dec_ltF dec_leT dec_leF beq_T beq_F bne_T bne_F encD


theorem inD_t {L : Nat} {x : Int} (h : 0 ≤ x) (h2 : x < L) : inD L x = true := by simp [inD, h, h2]
theorem inD_f {L : Nat} {x : Int} (h2 : ¬ x < L) : inD L x = false := by simp [inD, h2]
theorem inD_g {L : Nat} {x : Int} (h2 : ¬ 0 ≤ x) : inD L x = false := by simp [inD, h2]
def okTo (d : Dsk) (k : Nat) : Prop := ∀ c ∈ d.ca.take k, inD d.st.length c.1 = true
theorem okTo_succ {d : Dsk} {k : Nat} (h : okTo d k) (hk : k < d.ca.length) (h1 : inD d.st.length (d.ca.getD k zCa).1 = true) : okTo d (k + 1) := by
  intro c hc
  rw [List.take_succ_eq_append_getElem hk] at hc
  rcases List.mem_append.1 hc with hc | hc
  · exact h c hc
  · rw [List.mem_singleton.1 hc]
    simpa [hk] using h1
def HeadC (d : Dsk) (n : Nat) (env : List (Nat × Bool × AV)) (H : Heap) : Prop :=
  ∃ k m, n = d.ca.length - k ∧ k ≤ d.ca.length ∧ okTo d k ∧ env = [(3, true, zV (k : Int)), (1, true, .ptr 0 0 0)] ∧ H = ⟨m, tabG [(0, some (.cells 25 2 [encD d] true false))]⟩
theorem checkD_n {d : Dsk} {k : Nat} (hk : k < d.ca.length) (h1 : inD d.st.length (d.ca.getD k zCa).1 = false) : checkD d = 2 := by
  refine if_neg fun h => ?_
  have := List.all_eq_true.1 h.2 _ (getD_mem' zCa hk)
  rw [h1] at this; cases this
theorem checkD_t {d : Dsk} {k : Nat} (h : okTo d k) (hk : d.ca.length ≤ k) (h1 : d.st.length ≤ 4096) : checkD d = 0 :=
  if_pos ⟨h1, List.all_eq_true.2 fun c hc => h c (by rw [List.take_of_length_le hk]; exact hc)⟩

theorem rcheck_p (d : Dsk) (hL : d.st.length ≤ 1000000) (hC : d.ca.length ≤ 1000000) : PCall Try.prog 34 [.agg (encD d)] (· = zV (checkD d)) := by
  refine pcall Try.func34 rfl (by kernel_rfl) (by simp [Try.ntmps34]) ?_
  rw [Try.ntmps34]
  by_cases h1 : d.st.length ≤ 4096
  · repeat (first | (refine aw_seq ?_) | (apply w_region (by rfl); (next => (simp (maxSteps := 2000000) (disch := omega) only [go_sem] <;> exact rfl))) | (refine w_nil ?_) | (refine w_hold2 ?_) | (refine w_then ?_) | (refine w_thenR ?_) | (refine aw_skip ?_) | (refine aw_ret ?_) | (refine aw_exit ?_) | (refine aw_block ?_) | (apply w_end; (next => (simp (maxSteps := 2000000) (disch := omega) only [go_sem, Try.f34] <;> exact rfl))) | (apply w_condT; (next => (simp (maxSteps := 2000000) (disch := omega) only [go_sem] <;> done))) | (apply w_condF; (next => (simp (maxSteps := 2000000) (disch := omega) only [go_sem] <;> done))))
    refine w_loop (HeadC d) d.ca.length ?_ ?_
    · refine ⟨_, _, ⟨0, 1000, by omega, by omega, (fun c hc => by simp at hc), rfl, rfl⟩, ?_⟩
      refine holds_cons (by rfl) (holds_cons (by rfl) (holds_nil (by simp only []; omega) (fun _ _ h => h)))
    · rintro n env H ⟨k, m, rfl, hk, hok, rfl, rfl⟩
      by_cases hlt : k < d.ca.length
      · by_cases h2 : 0 ≤ (d.ca.getD k zCa).1
        · by_cases h3 : (d.ca.getD k zCa).1 < d.st.length
          · repeat (first | (refine aw_seq ?_) | (apply w_region (by rfl); (next => (simp (maxSteps := 2000000) (disch := omega) only [go_sem, (encL_get zCa)] <;> exact rfl))) | (apply w_draw (by kernel_rfl) (by kernel_rfl) (by rfl); (case hr => (apply d_run; (next => (simp (maxSteps := 2000000) (disch := omega) only [go_sem, (encL_get zCa)] <;> exact rfl)); exact d_nil)); (case hdyn => (simp (maxSteps := 2000000) (disch := omega) only [go_sem, nbeq_F, nbeq_T, (encL_get zCa)] <;> kernel_rfl))) | (refine w_nil ?_) | (refine w_hold2 ?_) | (refine w_then ?_) | (refine w_thenR ?_) | (refine w_blockR ?_) | (refine aw_skip ?_) | (refine aw_ret ?_) | (refine aw_block ?_) | (apply w_end; (next => (simp (maxSteps := 2000000) (disch := omega) only [go_sem, (encL_get zCa), Try.f34] <;> exact rfl))) | (apply w_condT; (next => (simp (maxSteps := 2000000) (disch := omega) only [go_sem, (encL_get zCa)] <;> done))) | (apply w_condF; (next => (simp (maxSteps := 2000000) (disch := omega) only [go_sem, (encL_get zCa)] <;> done))))
            refine ⟨d.ca.length - (k + 1), by omega, _, _, ⟨k + 1, m + 1000, rfl, by omega, okTo_succ hok hlt (inD_t h2 h3), rfl, rfl⟩, ?_⟩
            refine holds_cons (by rfl) (holds_cons (by rfl) (holds_nil (by simp only []; omega) (fun _ _ h => h)))
          · have h4 := checkD_n hlt (inD_f h3)
            repeat (first | (refine aw_seq ?_) | (apply w_region (by rfl); (next => (simp (maxSteps := 2000000) (disch := omega) only [go_sem, (encL_get zCa)] <;> exact rfl))) | (apply w_draw (by kernel_rfl) (by kernel_rfl) (by rfl); (case hr => (apply d_run; (next => (simp (maxSteps := 2000000) (disch := omega) only [go_sem, (encL_get zCa)] <;> exact rfl)); exact d_nil)); (case hdyn => (simp (maxSteps := 2000000) (disch := omega) only [go_sem, nbeq_F, nbeq_T, (encL_get zCa)] <;> kernel_rfl))) | (refine w_nil ?_) | (refine w_hold2 ?_) | (refine w_then ?_) | (refine w_thenR ?_) | (refine w_blockR ?_) | (refine aw_skip ?_) | (refine aw_ret ?_) | (refine aw_block ?_) | (apply w_end; (next => (simp (maxSteps := 2000000) (disch := omega) only [go_sem, (encL_get zCa), Try.f34] <;> exact rfl))) | (apply w_condT; (next => (simp (maxSteps := 2000000) (disch := omega) only [go_sem, (encL_get zCa)] <;> done))) | (apply w_condF; (next => (simp (maxSteps := 2000000) (disch := omega) only [go_sem, (encL_get zCa)] <;> done))))
            (simp (maxSteps := 2000000) (disch := omega) only [go_sem, noId_c, noId_agg, noId_tup, noId_snap, encL_noIdE, sec_noIdE] <;> simp [h4])
        · have h4 := checkD_n hlt (inD_g h2)
          repeat (first | (refine aw_seq ?_) | (apply w_region (by rfl); (next => (simp (maxSteps := 2000000) (disch := omega) only [go_sem, (encL_get zCa)] <;> exact rfl))) | (apply w_draw (by kernel_rfl) (by kernel_rfl) (by rfl); (case hr => (apply d_run; (next => (simp (maxSteps := 2000000) (disch := omega) only [go_sem, (encL_get zCa)] <;> exact rfl)); exact d_nil)); (case hdyn => (simp (maxSteps := 2000000) (disch := omega) only [go_sem, nbeq_F, nbeq_T, (encL_get zCa)] <;> kernel_rfl))) | (refine w_nil ?_) | (refine w_hold2 ?_) | (refine w_then ?_) | (refine w_thenR ?_) | (refine w_blockR ?_) | (refine aw_skip ?_) | (refine aw_ret ?_) | (refine aw_block ?_) | (apply w_end; (next => (simp (maxSteps := 2000000) (disch := omega) only [go_sem, (encL_get zCa), Try.f34] <;> exact rfl))) | (apply w_condT; (next => (simp (maxSteps := 2000000) (disch := omega) only [go_sem, (encL_get zCa)] <;> done))) | (apply w_condF; (next => (simp (maxSteps := 2000000) (disch := omega) only [go_sem, (encL_get zCa)] <;> done))))
          (simp (maxSteps := 2000000) (disch := omega) only [go_sem, noId_c, noId_agg, noId_tup, noId_snap, encL_noIdE, sec_noIdE] <;> simp [h4])
      · have h4 := checkD_t hok (by omega) h1
        repeat (first | (refine aw_seq ?_) | (apply w_region (by rfl); (next => (simp (maxSteps := 2000000) (disch := omega) only [go_sem] <;> exact rfl))) | (refine w_nil ?_) | (refine w_hold2 ?_) | (refine w_then ?_) | (refine w_thenR ?_) | (refine aw_skip ?_) | (refine aw_ret ?_) | (refine aw_exit ?_) | (refine aw_block ?_) | (apply w_end; (next => (simp (maxSteps := 2000000) (disch := omega) only [go_sem, Try.f34] <;> exact rfl))) | (apply w_condT; (next => (simp (maxSteps := 2000000) (disch := omega) only [go_sem] <;> done))) | (apply w_condF; (next => (simp (maxSteps := 2000000) (disch := omega) only [go_sem] <;> done))))
        (simp (maxSteps := 2000000) (disch := omega) only [go_sem, noId_c, noId_agg, noId_tup, noId_snap, encL_noIdE, sec_noIdE] <;> simp [h4])
  · have h4 := checkD_b h1
    repeat (first | (refine aw_seq ?_) | (apply w_region (by rfl); (next => (simp (maxSteps := 2000000) (disch := omega) only [go_sem] <;> exact rfl))) | (refine w_nil ?_) | (refine w_hold2 ?_) | (refine w_then ?_) | (refine w_thenR ?_) | (refine aw_skip ?_) | (refine aw_ret ?_) | (refine aw_exit ?_) | (refine aw_block ?_) | (apply w_end; (next => (simp (maxSteps := 2000000) (disch := omega) only [go_sem, Try.f34] <;> exact rfl))) | (apply w_condT; (next => (simp (maxSteps := 2000000) (disch := omega) only [go_sem] <;> done))) | (apply w_condF; (next => (simp (maxSteps := 2000000) (disch := omega) only [go_sem] <;> done))))
    (simp (maxSteps := 2000000) (disch := omega) only [go_sem, noId_c, noId_agg, noId_tup, noId_snap, encL_noIdE, sec_noIdE] <;> simp [h4])


def Head_sameSec (a b : List (Sec)) (n : Nat) (env : List (Nat × Bool × AV)) (H : Heap) : Prop :=
  ∃ k m, n = a.length - k ∧ k ≤ a.length ∧ (∀ j, j < k → a.getD j zSec = b.getD j zSec) ∧ env = [(5, true, zV (k : Int)), (1, true, .snap (encL encSec b)), (0, true, .snap (encL encSec a))] ∧ H = ⟨m, tabG []⟩
theorem sameSec_t {a b : List (Sec)} {k : Nat} (hl : a.length = b.length) (h : ∀ j, j < k → a.getD j zSec = b.getD j zSec) (hk : a.length ≤ k) : decide (a = b) = true := by
  simp only [decide_eq_true_eq]
  refine List.ext_getElem hl fun i h1 h2 => ?_
  have := h i (by omega)
  simpa [h1, h2] using this
theorem sameSec_f {a b : List (Sec)} {k : Nat} (h : a.getD k zSec ≠ b.getD k zSec) : decide (a = b) = false := by
  simp only [decide_eq_false_iff_not]
  rintro rfl
  exact h rfl
theorem sameSec_l {a b : List (Sec)} (h : a.length ≠ b.length) : decide (a = b) = false := by
  simp only [decide_eq_false_iff_not]
  rintro rfl
  exact h rfl

theorem sameSec_p (a b : List (Sec)) (hA : a.length ≤ 1000000) (hB : b.length ≤ 1000000) : PCall Try.prog 19 [.snap (encL encSec a), .snap (encL encSec b)] (· = bV (decide (a = b))) := by
  refine pcall Try.func19 rfl (by kernel_rfl) (by simp [Try.ntmps19]) ?_
  rw [Try.ntmps19]
  by_cases hl : a.length = b.length
  · repeat (first | (refine aw_seq ?_) | (apply w_region (by rfl); (next => (simp (maxSteps := 2000000) (disch := omega) only [go_sem] <;> exact rfl))) | (refine w_nil ?_) | (refine w_hold2 ?_) | (refine w_then ?_) | (refine aw_skip ?_) | (refine aw_ret ?_) | (refine aw_exit ?_) | (refine aw_block ?_) | (apply w_end; (next => (simp (maxSteps := 2000000) (disch := omega) only [go_sem, Try.f19] <;> exact rfl))) | (apply w_condF; (next => (simp (maxSteps := 2000000) (disch := omega) only [go_sem] <;> done))))
    refine w_loop (Head_sameSec a b) a.length ?_ ?_
    · refine ⟨_, _, ⟨0, 1000, by omega, by omega, (fun j hj => by omega), rfl, rfl⟩, ?_⟩
      refine holds_cons (by rfl) (holds_cons (by rfl) (holds_cons (by rfl) (holds_nil (by simp only []; omega) (fun _ _ h => h))))
    · rintro n env H ⟨k, m, rfl, hk, hok, rfl, rfl⟩
      by_cases hlt : k < a.length
      · by_cases he : a.getD k zSec = b.getD k zSec
        · have hb : decide (a.getD k zSec = b.getD k zSec) = true := by simp only [decide_eq_true_eq]; exact he
          repeat (first | (refine aw_seq ?_) | (apply w_region (by rfl); (next => (simp (maxSteps := 2000000) (disch := omega) only [go_sem, (encL_get zSec), hb] <;> exact rfl))) | (apply w_draw (by kernel_rfl) (by kernel_rfl) (by rfl); (case hr => (apply d_run; (next => (simp (maxSteps := 2000000) (disch := omega) only [go_sem, (encL_get zSec), hb] <;> exact rfl)); exact d_nil)); (case hdyn => (simp (maxSteps := 2000000) (disch := omega) only [go_sem, nbeq_F, nbeq_T, (encL_get zSec), hb] <;> kernel_rfl))) | (refine w_nil ?_) | (refine w_hold2 ?_) | (refine w_then ?_) | (refine w_thenR ?_) | (refine w_blockR ?_) | (refine aw_skip ?_) | (refine aw_ret ?_) | (refine aw_block ?_) | (apply w_end; (next => (simp (maxSteps := 2000000) (disch := omega) only [go_sem, (encL_get zSec), hb, Try.f19] <;> exact rfl))) | (apply w_condT; (next => (simp (maxSteps := 2000000) (disch := omega) only [go_sem, (encL_get zSec), hb] <;> done))) | (apply w_condF; (next => (simp (maxSteps := 2000000) (disch := omega) only [go_sem, (encL_get zSec), hb] <;> done))))
          refine ⟨a.length - (k + 1), by omega, _, _, ⟨k + 1, m + 1000, rfl, by omega, (fun j hj => if h : j = k then by rw [h]; exact he else hok j (by omega)), rfl, rfl⟩, ?_⟩
          refine holds_cons (by rfl) (holds_cons (by rfl) (holds_cons (by rfl) (holds_nil (by simp only []; omega) (fun _ _ h => h))))
        · have hb : decide (a.getD k zSec = b.getD k zSec) = false := by simp only [decide_eq_false_iff_not]; exact he
          have h4 := sameSec_f he
          repeat (first | (refine aw_seq ?_) | (apply w_region (by rfl); (next => (simp (maxSteps := 2000000) (disch := omega) only [go_sem, (encL_get zSec), hb] <;> exact rfl))) | (apply w_draw (by kernel_rfl) (by kernel_rfl) (by rfl); (case hr => (apply d_run; (next => (simp (maxSteps := 2000000) (disch := omega) only [go_sem, (encL_get zSec), hb] <;> exact rfl)); exact d_nil)); (case hdyn => (simp (maxSteps := 2000000) (disch := omega) only [go_sem, nbeq_F, nbeq_T, (encL_get zSec), hb] <;> kernel_rfl))) | (refine w_nil ?_) | (refine w_hold2 ?_) | (refine w_then ?_) | (refine w_thenR ?_) | (refine w_blockR ?_) | (refine aw_skip ?_) | (refine aw_ret ?_) | (refine aw_block ?_) | (apply w_end; (next => (simp (maxSteps := 2000000) (disch := omega) only [go_sem, (encL_get zSec), hb, Try.f19] <;> exact rfl))) | (apply w_condT; (next => (simp (maxSteps := 2000000) (disch := omega) only [go_sem, (encL_get zSec), hb] <;> done))) | (apply w_condF; (next => (simp (maxSteps := 2000000) (disch := omega) only [go_sem, (encL_get zSec), hb] <;> done))))
          (simp (maxSteps := 2000000) (disch := omega) only [go_sem, noId_c, noId_agg, noId_tup, noId_snap, encL_noIdE, sec_noIdE] <;> simp [h4])
      · have h4 := sameSec_t hl hok (by omega)
        repeat (first | (refine aw_seq ?_) | (apply w_region (by rfl); (next => (simp (maxSteps := 2000000) (disch := omega) only [go_sem] <;> exact rfl))) | (refine w_nil ?_) | (refine w_hold2 ?_) | (refine w_then ?_) | (refine aw_skip ?_) | (refine aw_ret ?_) | (refine aw_exit ?_) | (refine aw_block ?_) | (apply w_end; (next => (simp (maxSteps := 2000000) (disch := omega) only [go_sem, Try.f19] <;> exact rfl))) | (apply w_condF; (next => (simp (maxSteps := 2000000) (disch := omega) only [go_sem] <;> done))))
        (simp (maxSteps := 2000000) (disch := omega) only [go_sem, noId_c, noId_agg, noId_tup, noId_snap, encL_noIdE, sec_noIdE] <;> simp [h4])
  · have h4 := sameSec_l hl
    have h5 : ((a.length : Int) != (b.length : Int)) = true := by simp; omega
    repeat (first | (refine aw_seq ?_) | (apply w_region (by rfl); (next => (simp (maxSteps := 2000000) (disch := omega) only [go_sem, h5] <;> exact rfl))) | (refine w_nil ?_) | (refine w_hold2 ?_) | (refine w_then ?_) | (refine w_thenR ?_) | (refine aw_ret ?_) | (apply w_end; (next => (simp (maxSteps := 2000000) (disch := omega) only [go_sem, h5, Try.f19] <;> exact rfl))) | (apply w_condT; (next => (simp (maxSteps := 2000000) (disch := omega) only [go_sem, h5] <;> done))))
    (simp (maxSteps := 2000000) (disch := omega) only [go_sem, noId_c, noId_agg, noId_tup, noId_snap, encL_noIdE, sec_noIdE] <;> simp [h4])


def Head_sameInts (a b : List (Int)) (n : Nat) (env : List (Nat × Bool × AV)) (H : Heap) : Prop :=
  ∃ k m, n = a.length - k ∧ k ≤ a.length ∧ (∀ j, j < k → a.getD j 0 = b.getD j 0) ∧ env = [(5, true, zV (k : Int)), (1, true, .snap (encL intRow b)), (0, true, .snap (encL intRow a))] ∧ H = ⟨m, tabG []⟩
theorem sameInts_t {a b : List (Int)} {k : Nat} (hl : a.length = b.length) (h : ∀ j, j < k → a.getD j 0 = b.getD j 0) (hk : a.length ≤ k) : decide (a = b) = true := by
  simp only [decide_eq_true_eq]
  refine List.ext_getElem hl fun i h1 h2 => ?_
  have := h i (by omega)
  simpa [h1, h2] using this
theorem sameInts_f {a b : List (Int)} {k : Nat} (h : a.getD k 0 ≠ b.getD k 0) : decide (a = b) = false := by
  simp only [decide_eq_false_iff_not]
  rintro rfl
  exact h rfl
theorem sameInts_l {a b : List (Int)} (h : a.length ≠ b.length) : decide (a = b) = false := by
  simp only [decide_eq_false_iff_not]
  rintro rfl
  exact h rfl

theorem sameInts_p (a b : List (Int)) (hA : a.length ≤ 1000000) (hB : b.length ≤ 1000000) : PCall Try.prog 24 [.snap (encL intRow a), .snap (encL intRow b)] (· = bV (decide (a = b))) := by
  refine pcall Try.func24 rfl (by kernel_rfl) (by simp [Try.ntmps24]) ?_
  rw [Try.ntmps24]
  by_cases hl : a.length = b.length
  · repeat (first | (refine aw_seq ?_) | (apply w_region (by rfl); (next => (simp (maxSteps := 2000000) (disch := omega) only [go_sem] <;> exact rfl))) | (refine w_nil ?_) | (refine w_hold2 ?_) | (refine w_then ?_) | (refine aw_skip ?_) | (refine aw_ret ?_) | (refine aw_exit ?_) | (refine aw_block ?_) | (apply w_end; (next => (simp (maxSteps := 2000000) (disch := omega) only [go_sem, Try.f24] <;> exact rfl))) | (apply w_condF; (next => (simp (maxSteps := 2000000) (disch := omega) only [go_sem] <;> done))))
    refine w_loop (Head_sameInts a b) a.length ?_ ?_
    · refine ⟨_, _, ⟨0, 1000, by omega, by omega, (fun j hj => by omega), rfl, rfl⟩, ?_⟩
      refine holds_cons (by rfl) (holds_cons (by rfl) (holds_cons (by rfl) (holds_nil (by simp only []; omega) (fun _ _ h => h))))
    · rintro n env H ⟨k, m, rfl, hk, hok, rfl, rfl⟩
      by_cases hlt : k < a.length
      · by_cases he : a.getD k 0 = b.getD k 0
        · have hb : (a.getD k 0 != b.getD k 0) = false := bne_F he
          repeat (first | (refine aw_seq ?_) | (apply w_region (by rfl); (next => (simp (maxSteps := 2000000) (disch := omega) only [go_sem, (encL_get (0 : Int)), hb] <;> exact rfl))) | (apply w_draw (by kernel_rfl) (by kernel_rfl) (by rfl); (case hr => (apply d_run; (next => (simp (maxSteps := 2000000) (disch := omega) only [go_sem, (encL_get (0 : Int)), hb] <;> exact rfl)); exact d_nil)); (case hdyn => (simp (maxSteps := 2000000) (disch := omega) only [go_sem, nbeq_F, nbeq_T, (encL_get (0 : Int)), hb] <;> kernel_rfl))) | (refine w_nil ?_) | (refine w_hold2 ?_) | (refine w_then ?_) | (refine w_thenR ?_) | (refine w_blockR ?_) | (refine aw_skip ?_) | (refine aw_ret ?_) | (refine aw_block ?_) | (apply w_end; (next => (simp (maxSteps := 2000000) (disch := omega) only [go_sem, (encL_get (0 : Int)), hb, Try.f24] <;> exact rfl))) | (apply w_condT; (next => (simp (maxSteps := 2000000) (disch := omega) only [go_sem, (encL_get (0 : Int)), hb] <;> done))) | (apply w_condF; (next => (simp (maxSteps := 2000000) (disch := omega) only [go_sem, (encL_get (0 : Int)), hb] <;> done))))
          refine ⟨a.length - (k + 1), by omega, _, _, ⟨k + 1, m + 1000, rfl, by omega, (fun j hj => if h : j = k then by rw [h]; exact he else hok j (by omega)), rfl, rfl⟩, ?_⟩
          refine holds_cons (by rfl) (holds_cons (by rfl) (holds_cons (by rfl) (holds_nil (by simp only []; omega) (fun _ _ h => h))))
        · have hb : (a.getD k 0 != b.getD k 0) = true := bne_T he
          have h4 := sameInts_f he
          repeat (first | (refine aw_seq ?_) | (apply w_region (by rfl); (next => (simp (maxSteps := 2000000) (disch := omega) only [go_sem, (encL_get (0 : Int)), hb] <;> exact rfl))) | (apply w_draw (by kernel_rfl) (by kernel_rfl) (by rfl); (case hr => (apply d_run; (next => (simp (maxSteps := 2000000) (disch := omega) only [go_sem, (encL_get (0 : Int)), hb] <;> exact rfl)); exact d_nil)); (case hdyn => (simp (maxSteps := 2000000) (disch := omega) only [go_sem, nbeq_F, nbeq_T, (encL_get (0 : Int)), hb] <;> kernel_rfl))) | (refine w_nil ?_) | (refine w_hold2 ?_) | (refine w_then ?_) | (refine w_thenR ?_) | (refine w_blockR ?_) | (refine aw_skip ?_) | (refine aw_ret ?_) | (refine aw_block ?_) | (apply w_end; (next => (simp (maxSteps := 2000000) (disch := omega) only [go_sem, (encL_get (0 : Int)), hb, Try.f24] <;> exact rfl))) | (apply w_condT; (next => (simp (maxSteps := 2000000) (disch := omega) only [go_sem, (encL_get (0 : Int)), hb] <;> done))) | (apply w_condF; (next => (simp (maxSteps := 2000000) (disch := omega) only [go_sem, (encL_get (0 : Int)), hb] <;> done))))
          (simp (maxSteps := 2000000) (disch := omega) only [go_sem, noId_c, noId_agg, noId_tup, noId_snap, encL_noIdE, sec_noIdE] <;> simp [h4])
      · have h4 := sameInts_t hl hok (by omega)
        repeat (first | (refine aw_seq ?_) | (apply w_region (by rfl); (next => (simp (maxSteps := 2000000) (disch := omega) only [go_sem] <;> exact rfl))) | (refine w_nil ?_) | (refine w_hold2 ?_) | (refine w_then ?_) | (refine aw_skip ?_) | (refine aw_ret ?_) | (refine aw_exit ?_) | (refine aw_block ?_) | (apply w_end; (next => (simp (maxSteps := 2000000) (disch := omega) only [go_sem, Try.f24] <;> exact rfl))) | (apply w_condF; (next => (simp (maxSteps := 2000000) (disch := omega) only [go_sem] <;> done))))
        (simp (maxSteps := 2000000) (disch := omega) only [go_sem, noId_c, noId_agg, noId_tup, noId_snap, encL_noIdE, sec_noIdE] <;> simp [h4])
  · have h4 := sameInts_l hl
    have h5 : ((a.length : Int) != (b.length : Int)) = true := by simp; omega
    repeat (first | (refine aw_seq ?_) | (apply w_region (by rfl); (next => (simp (maxSteps := 2000000) (disch := omega) only [go_sem, h5] <;> exact rfl))) | (refine w_nil ?_) | (refine w_hold2 ?_) | (refine w_then ?_) | (refine w_thenR ?_) | (refine aw_ret ?_) | (apply w_end; (next => (simp (maxSteps := 2000000) (disch := omega) only [go_sem, h5, Try.f24] <;> exact rfl))) | (apply w_condT; (next => (simp (maxSteps := 2000000) (disch := omega) only [go_sem, h5] <;> done))))
    (simp (maxSteps := 2000000) (disch := omega) only [go_sem, noId_c, noId_agg, noId_tup, noId_snap, encL_noIdE, sec_noIdE] <;> simp [h4])

end Go.Proofs.Ytniccdnhjbnaeaa

namespace Go.Proofs.Ytniccdnhjbnaeaa
open Go.Proofs Go.AL
set_option maxRecDepth 100000
set_option maxHeartbeats 1000000
set_option linter.unusedVariables false
set_option linter.unusedSimpArgs false
attribute [local irreducible] endA
attribute [local go_sem] dec_ltT dec_ltF dec_leT dec_leF beq_T beq_F bne_T bne_F encD


def sameD (a b : Dsk) : Bool := decide (a.st = b.st) && decide (a.ca = b.ca)
def HeadS (a b : Dsk) (n : Nat) (env : List (Nat × Bool × AV)) (H : Heap) : Prop :=
  ∃ k m, n = a.ca.length - k ∧ k ≤ a.ca.length ∧ (∀ j, j < k → a.ca.getD j zCa = b.ca.getD j zCa) ∧ env = [(5, true, zV (k : Int)), (3, true, .ptr 1 0 0), (2, true, .ptr 0 0 0)] ∧ H = ⟨m, tabG [(0, some (.cells 25 2 [encD a] true false)), (1, some (.cells 25 2 [encD b] true false))]⟩
theorem sameCa_t {a b : List (Int × Sec)} {k : Nat} (hl : a.length = b.length) (h : ∀ j, j < k → a.getD j zCa = b.getD j zCa) (hk : a.length ≤ k) : decide (a = b) = true := by
  simp only [decide_eq_true_eq]
  refine List.ext_getElem hl fun i h1 h2 => ?_
  have := h i (by omega)
  simpa [h1, h2] using this
theorem sameCa_f {a b : List (Int × Sec)} {k : Nat} (h : a.getD k zCa ≠ b.getD k zCa) : decide (a = b) = false := by
  simp only [decide_eq_false_iff_not]
  rintro rfl
  exact h rfl
theorem sameCa_l {a b : List (Int × Sec)} (h : a.length ≠ b.length) : decide (a = b) = false := by
  simp only [decide_eq_false_iff_not]
  rintro rfl
  exact h rfl

theorem same_p (a b : Dsk) (ha : a.st.length ≤ 1000000) (hac : a.ca.length ≤ 1000000) (hb : b.st.length ≤ 1000000) (hbc : b.ca.length ≤ 1000000) : PCall Try.prog 18 [.agg (encD a), .agg (encD b)] (· = bV (sameD a b)) := by
  refine pcall Try.func18 rfl (by kernel_rfl) (by simp [Try.ntmps18]) ?_
  rw [Try.ntmps18]
  cases h0 : decide (a.st = b.st)
  · have h4 : sameD a b = false := by unfold sameD; rw [h0]; rfl
    repeat (first | (refine aw_seq ?_) | (apply w_region (by rfl); (next => (simp (maxSteps := 2000000) (disch := omega) only [go_sem, h0] <;> exact rfl))) | (refine w_nil ?_) | (refine w_hold2 ?_) | (refine w_then ?_) | (refine w_thenR ?_) | (refine aw_ret ?_) | (apply w_end; (next => (simp (maxSteps := 2000000) (disch := omega) only [go_sem, h0, Try.f18] <;> exact rfl))) | (apply w_condT; (next => (simp (maxSteps := 2000000) (disch := omega) only [go_sem, h0] <;> done))) | (apply w_callP (hop := rfl) (hg := rfl) (hp := (sameSec_p a.st b.st ha hb)); (next => (simp (maxSteps := 2000000) (disch := omega) only [go_sem, h0] <;> exact rfl)); (next => (simp [noId_c, noId_agg, noId_snap, noId_tup,encD,sec_noIdE,encL_noId,encL_noIdE,encCa,encOp,encExt]; done)); (next => (simp (maxSteps := 2000000) (disch := omega) only [go_sem, h0] <;> exact rfl))))
    (simp (maxSteps := 2000000) (disch := omega) only [go_sem, noId_c, noId_agg, noId_tup, noId_snap, encL_noIdE, sec_noIdE] <;> simp [h4])
  · by_cases hl : a.ca.length = b.ca.length
    · repeat (first | (refine aw_seq ?_) | (apply w_region (by rfl); (next => (simp (maxSteps := 2000000) (disch := omega) only [go_sem, h0] <;> exact rfl))) | (refine w_nil ?_) | (refine w_then ?_) | (refine aw_skip ?_) | (refine aw_block ?_) | (apply w_condF; (next => (simp (maxSteps := 2000000) (disch := omega) only [go_sem, h0] <;> done))) | (apply w_callP (hop := rfl) (hg := rfl) (hp := (sameSec_p a.st b.st ha hb)); (next => (simp (maxSteps := 2000000) (disch := omega) only [go_sem, h0] <;> exact rfl)); (next => (simp [noId_c, noId_agg, noId_snap, noId_tup,encD,sec_noIdE,encL_noId,encL_noIdE,encCa,encOp,encExt]; done)); (next => (simp (maxSteps := 2000000) (disch := omega) only [go_sem, h0] <;> exact rfl))))
      refine w_loop (HeadS a b) a.ca.length ?_ ?_
      · refine ⟨_, _, ⟨0, 1000, by omega, by omega, (fun j hj => by omega), rfl, rfl⟩, ?_⟩
        refine holds_cons (by rfl) (holds_cons (by rfl) (holds_cons (by rfl) (holds_nil (by simp only []; omega) (fun _ _ h => h))))
      · rintro n env H ⟨k, m, rfl, hk, hok, rfl, rfl⟩
        by_cases hlt : k < a.ca.length
        · by_cases he : a.ca.getD k zCa = b.ca.getD k zCa
          · have hx : decide ((((a.ca.getD k zCa).1, (a.ca.getD k zCa).2) : Int × Sec) = ((b.ca.getD k zCa).1, (b.ca.getD k zCa).2)) = true := by simp only [decide_eq_true_eq]; exact he
            repeat (first | (refine aw_seq ?_) | (apply w_region (by rfl); (next => (simp (maxSteps := 2000000) (disch := omega) only [go_sem, (encL_get zCa), hx] <;> exact rfl))) | (apply w_draw (by kernel_rfl) (by kernel_rfl) (by rfl); (case hr => (apply d_run; (next => (simp (maxSteps := 2000000) (disch := omega) only [go_sem, (encL_get zCa), hx] <;> exact rfl)); exact d_nil)); (case hdyn => (simp (maxSteps := 2000000) (disch := omega) only [go_sem, nbeq_F, nbeq_T, (encL_get zCa), hx] <;> kernel_rfl))) | (refine w_nil ?_) | (refine w_hold2 ?_) | (refine w_then ?_) | (refine w_thenR ?_) | (refine w_blockR ?_) | (refine aw_skip ?_) | (refine aw_ret ?_) | (refine aw_block ?_) | (apply w_end; (next => (simp (maxSteps := 2000000) (disch := omega) only [go_sem, (encL_get zCa), hx, Try.f18] <;> exact rfl))) | (apply w_condT; (next => (simp (maxSteps := 2000000) (disch := omega) only [go_sem, (encL_get zCa), hx] <;> done))) | (apply w_condF; (next => (simp (maxSteps := 2000000) (disch := omega) only [go_sem, (encL_get zCa), hx] <;> done))))
            refine ⟨a.ca.length - (k + 1), by omega, _, _, ⟨k + 1, m + 1000, rfl, by omega, (fun j hj => if h : j = k then by rw [h]; exact he else hok j (by omega)), rfl, rfl⟩, ?_⟩
            refine holds_cons (by rfl) (holds_cons (by rfl) (holds_cons (by rfl) (holds_nil (by simp only []; omega) (fun _ _ h => h))))
          · have hx : decide ((((a.ca.getD k zCa).1, (a.ca.getD k zCa).2) : Int × Sec) = ((b.ca.getD k zCa).1, (b.ca.getD k zCa).2)) = false := by simp only [decide_eq_false_iff_not]; exact he
            have h4 : sameD a b = false := by unfold sameD; rw [sameCa_f he, Bool.and_false]
            repeat (first | (refine aw_seq ?_) | (apply w_region (by rfl); (next => (simp (maxSteps := 2000000) (disch := omega) only [go_sem, (encL_get zCa), hx] <;> exact rfl))) | (apply w_draw (by kernel_rfl) (by kernel_rfl) (by rfl); (case hr => (apply d_run; (next => (simp (maxSteps := 2000000) (disch := omega) only [go_sem, (encL_get zCa), hx] <;> exact rfl)); exact d_nil)); (case hdyn => (simp (maxSteps := 2000000) (disch := omega) only [go_sem, nbeq_F, nbeq_T, (encL_get zCa), hx] <;> kernel_rfl))) | (refine w_nil ?_) | (refine w_hold2 ?_) | (refine w_then ?_) | (refine w_thenR ?_) | (refine w_blockR ?_) | (refine aw_skip ?_) | (refine aw_ret ?_) | (refine aw_block ?_) | (apply w_end; (next => (simp (maxSteps := 2000000) (disch := omega) only [go_sem, (encL_get zCa), hx, Try.f18] <;> exact rfl))) | (apply w_condT; (next => (simp (maxSteps := 2000000) (disch := omega) only [go_sem, (encL_get zCa), hx] <;> done))) | (apply w_condF; (next => (simp (maxSteps := 2000000) (disch := omega) only [go_sem, (encL_get zCa), hx] <;> done))))
            (simp (maxSteps := 2000000) (disch := omega) only [go_sem, noId_c, noId_agg, noId_tup, noId_snap, encL_noIdE, sec_noIdE] <;> simp [h4])
        · have h4 : sameD a b = true := by unfold sameD; rw [h0, sameCa_t hl hok (by omega)]; rfl
          repeat (first | (refine aw_seq ?_) | (apply w_region (by rfl); (next => (simp (maxSteps := 2000000) (disch := omega) only [go_sem] <;> exact rfl))) | (refine w_nil ?_) | (refine w_hold2 ?_) | (refine w_then ?_) | (refine aw_ret ?_) | (refine aw_exit ?_) | (apply w_end; (next => (simp (maxSteps := 2000000) (disch := omega) only [go_sem, Try.f18] <;> exact rfl))) | (apply w_condF; (next => (simp (maxSteps := 2000000) (disch := omega) only [go_sem] <;> done))))
          (simp (maxSteps := 2000000) (disch := omega) only [go_sem, noId_c, noId_agg, noId_tup, noId_snap, encL_noIdE, sec_noIdE] <;> simp [h4])
    · have h4 : sameD a b = false := by unfold sameD; rw [sameCa_l hl, Bool.and_false]
      have h5 : ((a.ca.length : Int) != (b.ca.length : Int)) = true := by simp; omega
      repeat (first | (refine aw_seq ?_) | (apply w_region (by rfl); (next => (simp (maxSteps := 2000000) (disch := omega) only [go_sem, h0, h5] <;> exact rfl))) | (refine w_nil ?_) | (refine w_hold2 ?_) | (refine w_then ?_) | (refine w_thenR ?_) | (refine aw_ret ?_) | (apply w_end; (next => (simp (maxSteps := 2000000) (disch := omega) only [go_sem, h0, h5, Try.f18] <;> exact rfl))) | (apply w_condT; (next => (simp (maxSteps := 2000000) (disch := omega) only [go_sem, h0, h5] <;> done))) | (apply w_callP (hop := rfl) (hg := rfl) (hp := (sameSec_p a.st b.st ha hb)); (next => (simp (maxSteps := 2000000) (disch := omega) only [go_sem, h0, h5] <;> exact rfl)); (next => (simp [noId_c, noId_agg, noId_snap, noId_tup,encD,sec_noIdE,encL_noId,encL_noIdE,encCa,encOp,encExt]; done)); (next => (simp (maxSteps := 2000000) (disch := omega) only [go_sem, h0, h5] <;> exact rfl))))
      (simp (maxSteps := 2000000) (disch := omega) only [go_sem, noId_c, noId_agg, noId_tup, noId_snap, encL_noIdE, sec_noIdE] <;> simp [h4])


def fewD (d : Dsk) : Bool := decide (d.st.length ≤ 400) && decide (d.ca.length ≤ 400)
/-- The sum of the first lengths, as the program reckons it. -/
def fewSum (ops : List Opr) : Nat → Int
  | 0 => 0
  | k + 1 => IntKind.i64.wrap (fewSum ops k + (ops.getD k default).data.length)
def fewOps (ops : List Opr) : Bool := decide (ops.length ≤ 60) && decide (fewSum ops (min ops.length 100) ≤ 400)
theorem fewOps_len {ops : List Opr} (h : fewOps ops = true) : ops.length ≤ 60 := by
  unfold fewOps at h
  simp only [Bool.and_eq_true, decide_eq_true_eq] at h
  exact h.1
theorem fewSum_succ {ops : List Opr} {k : Nat} : IntKind.i64.wrap (fewSum ops k + (ops.getD k default).data.length) = fewSum ops (k + 1) := rfl
def HeadF (ops : List Opr) (n : Nat) (env : List (Nat × Bool × AV)) (H : Heap) : Prop :=
  ∃ k m, n = ops.length - k ∧ k ≤ ops.length ∧ k ≤ 100 ∧ env = [(4, true, zV (k : Int)), (3, true, zV (fewSum ops k)), (0, true, .snap (encL encOp ops))] ∧ H = ⟨m, tabG []⟩

theorem few_p (d : Dsk) (hL : d.st.length ≤ 9223372036854775807) (hC : d.ca.length ≤ 9223372036854775807) : PCall Try.prog 11 [.agg (encD d)] (· = bV (fewD d)) := by
  refine pcall Try.func11 rfl (by kernel_rfl) (by simp [Try.ntmps11]) ?_
  rw [Try.ntmps11]
  by_cases h1 : d.st.length ≤ 400
  · repeat (first | (refine aw_seq ?_) | (apply w_region (by rfl); (next => (simp (maxSteps := 2000000) (disch := omega) only [go_sem] <;> exact rfl))) | (refine w_nil ?_) | (refine w_hold2 ?_) | (refine w_then ?_) | (refine aw_ret ?_) | (apply w_end; (next => (simp (maxSteps := 2000000) (disch := omega) only [go_sem, Try.f11] <;> exact rfl))))
    (simp (maxSteps := 2000000) (disch := omega) only [go_sem, noId_c, noId_agg, noId_tup, noId_snap, encL_noIdE, sec_noIdE] <;> simp [fewD, h1])
    try omega
  · repeat (first | (refine aw_seq ?_) | (apply w_region (by rfl); (next => (simp (maxSteps := 2000000) (disch := omega) only [go_sem] <;> exact rfl))) | (refine w_nil ?_) | (refine w_hold2 ?_) | (refine w_then ?_) | (refine aw_ret ?_) | (apply w_end; (next => (simp (maxSteps := 2000000) (disch := omega) only [go_sem, Try.f11] <;> exact rfl))))
    (simp (maxSteps := 2000000) (disch := omega) only [go_sem, noId_c, noId_agg, noId_tup, noId_snap, encL_noIdE, sec_noIdE] <;> simp [fewD, h1])

theorem fewOps_p (ops : List Opr) (hL : ops.length ≤ 9223372036854775807) : PCall Try.prog 12 [.snap (encL encOp ops)] (· = bV (fewOps ops)) := by
  refine pcall Try.func12 rfl (by kernel_rfl) (by simp [Try.ntmps12]) ?_
  rw [Try.ntmps12]
  repeat (first | (refine aw_seq ?_) | (apply w_region (by rfl); (next => (simp (maxSteps := 2000000) (disch := omega) only [go_sem] <;> exact rfl))) | (refine w_nil ?_) | (refine w_then ?_) | (refine aw_block ?_))
  refine w_loop (HeadF ops) ops.length ?_ ?_
  · refine ⟨_, _, ⟨0, 1000, by omega, by omega, by omega, rfl, rfl⟩, ?_⟩
    refine holds_cons (by rfl) (holds_cons (by rfl) (holds_cons (by rfl) (holds_nil (by simp only []; omega) (fun _ _ h => h))))
  · rintro n env H ⟨k, m, rfl, hk, hk2, rfl, rfl⟩
    by_cases hlt : k < ops.length
    · by_cases h100 : k < 100
      · repeat (first | (refine aw_seq ?_) | (apply w_region (by rfl); (next => (simp (maxSteps := 2000000) (disch := omega) only [go_sem, (encL_get (default : Opr)), fewSum_succ] <;> exact rfl))) | (refine w_nil ?_) | (refine w_then ?_) | (refine aw_skip ?_) | (refine aw_block ?_) | (apply w_condT; (next => (simp (maxSteps := 2000000) (disch := omega) only [go_sem, (encL_get (default : Opr)), fewSum_succ] <;> done))))
        refine ⟨ops.length - (k + 1), by omega, _, _, ⟨k + 1, m + 1000, rfl, by omega, by omega, rfl, rfl⟩, ?_⟩
        refine holds_cons (by rfl) (holds_cons (by rfl) (holds_cons (by rfl) (holds_nil (by simp only []; omega) (fun _ _ h => h))))
      · have h4 : fewOps ops = false := by unfold fewOps; rw [show decide (ops.length ≤ 60) = false by simp; omega]; rfl
        repeat (first | (refine aw_seq ?_) | (apply w_region (by rfl); (next => (simp (maxSteps := 2000000) (disch := omega) only [go_sem] <;> exact rfl))) | (refine w_nil ?_) | (refine w_hold2 ?_) | (refine w_then ?_) | (refine aw_ret ?_) | (refine aw_exit ?_) | (apply w_end; (next => (simp (maxSteps := 2000000) (disch := omega) only [go_sem, Try.f12] <;> exact rfl))) | (apply w_condF; (next => (simp (maxSteps := 2000000) (disch := omega) only [go_sem] <;> done))))
        (simp (maxSteps := 2000000) (disch := omega) only [go_sem, noId_c, noId_agg, noId_tup, noId_snap, encL_noIdE, sec_noIdE] <;> simp [h4])
    · have h5 : fewSum ops (min ops.length 100) = fewSum ops k := by rw [show min ops.length 100 = k by omega]
      by_cases h6 : ops.length ≤ 60
      · repeat (first | (refine aw_seq ?_) | (apply w_region (by rfl); (next => (simp (maxSteps := 2000000) (disch := omega) only [go_sem] <;> exact rfl))) | (refine w_nil ?_) | (refine w_hold2 ?_) | (refine w_then ?_) | (refine aw_ret ?_) | (refine aw_exit ?_) | (apply w_end; (next => (simp (maxSteps := 2000000) (disch := omega) only [go_sem, Try.f12] <;> exact rfl))) | (apply w_condF; (next => (simp (maxSteps := 2000000) (disch := omega) only [go_sem] <;> done))))
        (simp (maxSteps := 2000000) (disch := omega) only [go_sem, noId_c, noId_agg, noId_tup, noId_snap, encL_noIdE, sec_noIdE] <;> simp [fewOps, h5, h6])
        try omega
      · repeat (first | (refine aw_seq ?_) | (apply w_region (by rfl); (next => (simp (maxSteps := 2000000) (disch := omega) only [go_sem] <;> exact rfl))) | (refine w_nil ?_) | (refine w_hold2 ?_) | (refine w_then ?_) | (refine aw_ret ?_) | (refine aw_exit ?_) | (apply w_end; (next => (simp (maxSteps := 2000000) (disch := omega) only [go_sem, Try.f12] <;> exact rfl))) | (apply w_condF; (next => (simp (maxSteps := 2000000) (disch := omega) only [go_sem] <;> done))))
        (simp (maxSteps := 2000000) (disch := omega) only [go_sem, noId_c, noId_agg, noId_tup, noId_snap, encL_noIdE, sec_noIdE] <;> simp [fewOps, h5, h6])


def decS (c : List Int) (n : Int) : Int × List Int := match c with | [] => (0, []) | x :: r => (x % n, r)
def I64 (l : List Int) : Prop := ∀ x ∈ l, -9223372036854775808 ≤ x ∧ x ≤ 9223372036854775807
theorem dec1 {x n : Int} (hn : 0 < n) : (x.tmod n + n).tmod n = x % n := by
  have h0 := Int.emod_nonneg x (show n ≠ 0 by omega)
  have h1 := Int.emod_lt_of_pos x hn
  by_cases h : 0 ≤ x
  · rw [Int.tmod_eq_emod_of_nonneg h, Int.tmod_eq_emod_of_nonneg (by omega), Int.add_emod_right, Int.emod_emod_of_dvd _ (Int.dvd_refl n)]
  · have h2 := Int.tmod_eq_emod_of_nonneg (a := -x) (b := n) (by omega)
    have h3 : x.tmod n = -((-x) % n) := by rw [← h2, Int.neg_tmod]; omega
    have h4 := Int.emod_nonneg (-x) (show n ≠ 0 by omega)
    have h5 := Int.emod_lt_of_pos (-x) hn
    rw [Int.tmod_eq_emod_of_nonneg (by omega), Int.add_emod_right, h3]
    have : -((-x) % n) % n = x % n := by
      rw [Int.emod_def (-x) n, show -(-x - n * (-x / n)) = x + n * (-x / n) by omega, Int.add_mul_emod_self_left]
    exact this


theorem tm_lo {x n : Int} (hn : 0 < n) : -n < x.tmod n ∧ x.tmod n < n := by
  have h := Int.lt_tmod_of_pos x hn
  have h2 := Int.tmod_lt_of_pos x hn
  exact ⟨h, h2⟩

end Go.Proofs.Ytniccdnhjbnaeaa

namespace Go.Proofs.Ytniccdnhjbnaeaa
open Go.Proofs Go.AL
set_option maxRecDepth 100000
set_option maxHeartbeats 1000000
set_option linter.unusedVariables false
set_option linter.unusedSimpArgs false
attribute [local irreducible] endA
attribute [local go_sem] dec_ltT dec_ltF dec_leT dec_leF beq_T beq_F bne_T bne_F encD

theorem cloneS_o (l : List Sec) (h : l ≠ []) (hL : l.length ≤ 1000000) : OCall Try.prog 48 [.snap (encL encSec l)] 65 8 (encL encSec l) := by
  refine ocall (fun a ha => by rw [List.mem_singleton.1 ha]; exact encL_noId l) (encL_ids l) Try.func48 rfl (by kernel_rfl) (by simp [Try.ntmps48]) ?_
  rw [Try.ntmps48]
  have hn := isEmpty_f h
  repeat (first | (refine aw_seq ?_) | (apply w_region (by rfl); (next => (simp (maxSteps := 2000000) (disch := omega) only [go_sem, hn] <;> exact rfl))) | (refine w_nil ?_) | (refine w_hold2 ?_) | (refine w_then ?_) | (refine aw_skip ?_) | (refine aw_ret ?_) | (apply w_end; (next => (simp (maxSteps := 2000000) (disch := omega) only [go_sem, hn, Try.f48] <;> exact rfl))) | (apply w_condF; (next => (simp (maxSteps := 2000000) (disch := omega) only [go_sem, hn] <;> done))))
  simp (maxSteps := 2000000) (disch := omega) only [go_sem]
  exact ⟨_, rfl, rfl⟩

theorem cloneS_s (a : Addr) (cap : Nat) : OCall Try.prog 48 [.c (.slice (some a) 0 cap)] 65 8 (encL encSec []) := by
  refine ocall (fun a ha => by rw [List.mem_singleton.1 ha]; exact .c _) (encL_ids (f := encSec) []) Try.func48 rfl (by kernel_rfl) (by simp [Try.ntmps48]) ?_
  rw [Try.ntmps48]
  repeat (first | (refine aw_seq ?_) | (apply w_region (by rfl); (next => (simp (maxSteps := 2000000) (disch := omega) only [go_sem] <;> exact rfl))) | (refine w_nil ?_) | (refine w_hold2 ?_) | (refine w_then ?_) | (refine aw_skip ?_) | (refine aw_ret ?_) | (apply w_end; (next => (simp (maxSteps := 2000000) (disch := omega) only [go_sem, Try.f48] <;> exact rfl))) | (apply w_condF; (next => (simp (maxSteps := 2000000) (disch := omega) only [go_sem] <;> done))))
  simp (maxSteps := 2000000) (disch := omega) only [go_sem]
  exact ⟨_, rfl, rfl⟩

theorem cloneS_n (cap : Nat) : PCall Try.prog 48 [.c (.slice none 0 cap)] (· = .c (.slice none 0 0)) := by
  refine pcall Try.func48 rfl (by kernel_rfl) (by simp [Try.ntmps48]) ?_
  rw [Try.ntmps48]
  repeat (first | (refine aw_seq ?_) | (apply w_region (by rfl); (next => (simp (maxSteps := 2000000) (disch := omega) only [go_sem] <;> exact rfl))) | (refine w_nil ?_) | (refine w_hold2 ?_) | (refine w_then ?_) | (refine w_thenR ?_) | (refine aw_ret ?_) | (apply w_end; (next => (simp (maxSteps := 2000000) (disch := omega) only [go_sem, Try.f48] <;> exact rfl))) | (apply w_condT; (next => (simp (maxSteps := 2000000) (disch := omega) only [go_sem] <;> done))))
  simp (maxSteps := 2000000) (disch := omega) only [go_sem]

theorem cloneS_p (l : List Sec) (hL : l.length ≤ 1000000) : PCall Try.prog 48 [.snap (encL encSec l)] (· = .snap (encL encSec l)) := by
  by_cases h : l = []
  · subst h
    refine PCall.nil (pre := []) (post := []) fun a cap => ?_
    cases a with
    | none => exact (cloneS_n cap).weak .nil (.snap _ (fun row hr => by cases hr))
    | some a =>
      refine pcall Try.func48 rfl (by kernel_rfl) (by simp [Try.ntmps48]) ?_
      rw [Try.ntmps48]
      repeat (first | (refine aw_seq ?_) | (apply w_region (by rfl); (next => (simp (maxSteps := 2000000) (disch := omega) only [go_sem] <;> exact rfl))) | (refine w_nil ?_) | (refine w_hold2 ?_) | (refine w_then ?_) | (refine aw_skip ?_) | (refine aw_ret ?_) | (apply w_end; (next => (simp (maxSteps := 2000000) (disch := omega) only [go_sem, Try.f48] <;> exact rfl))) | (apply w_condF; (next => (simp (maxSteps := 2000000) (disch := omega) only [go_sem] <;> done))))
      (simp (maxSteps := 2000000) (disch := omega) only [go_sem, noId_c, noId_agg, noId_tup, noId_snap, encL_noIdE, sec_noIdE] <;> simp [encL])
  · have hn := isEmpty_f h
    refine pcall Try.func48 rfl (by kernel_rfl) (by simp [Try.ntmps48]) ?_
    rw [Try.ntmps48]
    repeat (first | (refine aw_seq ?_) | (apply w_region (by rfl); (next => (simp (maxSteps := 2000000) (disch := omega) only [go_sem, hn] <;> exact rfl))) | (refine w_nil ?_) | (refine w_hold2 ?_) | (refine w_then ?_) | (refine aw_skip ?_) | (refine aw_ret ?_) | (apply w_end; (next => (simp (maxSteps := 2000000) (disch := omega) only [go_sem, hn, Try.f48] <;> exact rfl))) | (apply w_condF; (next => (simp (maxSteps := 2000000) (disch := omega) only [go_sem, hn] <;> done))))
    (simp (maxSteps := 2000000) (disch := omega) only [go_sem, noId_c, noId_agg, noId_tup, noId_snap, encL_noIdE, sec_noIdE] <;> simp [])

theorem cloneC_o (l : List (Int × Sec)) (h : l ≠ []) (hL : l.length ≤ 1000000) : OCall Try.prog 61 [.snap (encL encCa l)] 67 9 (encL encCa l) := by
  refine ocall (fun a ha => by rw [List.mem_singleton.1 ha]; exact encL_noId l) (encL_ids l) Try.func61 rfl (by kernel_rfl) (by simp [Try.ntmps61]) ?_
  rw [Try.ntmps61]
  have hn := isEmpty_f h
  repeat (first | (refine aw_seq ?_) | (apply w_region (by rfl); (next => (simp (maxSteps := 2000000) (disch := omega) only [go_sem, hn] <;> exact rfl))) | (refine w_nil ?_) | (refine w_hold2 ?_) | (refine w_then ?_) | (refine aw_skip ?_) | (refine aw_ret ?_) | (apply w_end; (next => (simp (maxSteps := 2000000) (disch := omega) only [go_sem, hn, Try.f61] <;> exact rfl))) | (apply w_condF; (next => (simp (maxSteps := 2000000) (disch := omega) only [go_sem, hn] <;> done))))
  simp (maxSteps := 2000000) (disch := omega) only [go_sem]
  exact ⟨_, rfl, rfl⟩

theorem cloneC_s (a : Addr) (cap : Nat) : OCall Try.prog 61 [.c (.slice (some a) 0 cap)] 67 9 (encL encCa []) := by
  refine ocall (fun a ha => by rw [List.mem_singleton.1 ha]; exact .c _) (encL_ids (f := encCa) []) Try.func61 rfl (by kernel_rfl) (by simp [Try.ntmps61]) ?_
  rw [Try.ntmps61]
  repeat (first | (refine aw_seq ?_) | (apply w_region (by rfl); (next => (simp (maxSteps := 2000000) (disch := omega) only [go_sem] <;> exact rfl))) | (refine w_nil ?_) | (refine w_hold2 ?_) | (refine w_then ?_) | (refine aw_skip ?_) | (refine aw_ret ?_) | (apply w_end; (next => (simp (maxSteps := 2000000) (disch := omega) only [go_sem, Try.f61] <;> exact rfl))) | (apply w_condF; (next => (simp (maxSteps := 2000000) (disch := omega) only [go_sem] <;> done))))
  simp (maxSteps := 2000000) (disch := omega) only [go_sem]
  exact ⟨_, rfl, rfl⟩

theorem cloneC_n (cap : Nat) : PCall Try.prog 61 [.c (.slice none 0 cap)] (· = .c (.slice none 0 0)) := by
  refine pcall Try.func61 rfl (by kernel_rfl) (by simp [Try.ntmps61]) ?_
  rw [Try.ntmps61]
  repeat (first | (refine aw_seq ?_) | (apply w_region (by rfl); (next => (simp (maxSteps := 2000000) (disch := omega) only [go_sem] <;> exact rfl))) | (refine w_nil ?_) | (refine w_hold2 ?_) | (refine w_then ?_) | (refine w_thenR ?_) | (refine aw_ret ?_) | (apply w_end; (next => (simp (maxSteps := 2000000) (disch := omega) only [go_sem, Try.f61] <;> exact rfl))) | (apply w_condT; (next => (simp (maxSteps := 2000000) (disch := omega) only [go_sem] <;> done))))
  simp (maxSteps := 2000000) (disch := omega) only [go_sem]

theorem cloneC_p (l : List (Int × Sec)) (hL : l.length ≤ 1000000) : PCall Try.prog 61 [.snap (encL encCa l)] (· = .snap (encL encCa l)) := by
  by_cases h : l = []
  · subst h
    refine PCall.nil (pre := []) (post := []) fun a cap => ?_
    cases a with
    | none => exact (cloneC_n cap).weak .nil (.snap _ (fun row hr => by cases hr))
    | some a =>
      refine pcall Try.func61 rfl (by kernel_rfl) (by simp [Try.ntmps61]) ?_
      rw [Try.ntmps61]
      repeat (first | (refine aw_seq ?_) | (apply w_region (by rfl); (next => (simp (maxSteps := 2000000) (disch := omega) only [go_sem] <;> exact rfl))) | (refine w_nil ?_) | (refine w_hold2 ?_) | (refine w_then ?_) | (refine aw_skip ?_) | (refine aw_ret ?_) | (apply w_end; (next => (simp (maxSteps := 2000000) (disch := omega) only [go_sem, Try.f61] <;> exact rfl))) | (apply w_condF; (next => (simp (maxSteps := 2000000) (disch := omega) only [go_sem] <;> done))))
      (simp (maxSteps := 2000000) (disch := omega) only [go_sem, noId_c, noId_agg, noId_tup, noId_snap, encL_noIdE, sec_noIdE] <;> simp [encL])
  · have hn := isEmpty_f h
    refine pcall Try.func61 rfl (by kernel_rfl) (by simp [Try.ntmps61]) ?_
    rw [Try.ntmps61]
    repeat (first | (refine aw_seq ?_) | (apply w_region (by rfl); (next => (simp (maxSteps := 2000000) (disch := omega) only [go_sem, hn] <;> exact rfl))) | (refine w_nil ?_) | (refine w_hold2 ?_) | (refine w_then ?_) | (refine aw_skip ?_) | (refine aw_ret ?_) | (apply w_end; (next => (simp (maxSteps := 2000000) (disch := omega) only [go_sem, hn, Try.f61] <;> exact rfl))) | (apply w_condF; (next => (simp (maxSteps := 2000000) (disch := omega) only [go_sem, hn] <;> done))))
    (simp (maxSteps := 2000000) (disch := omega) only [go_sem, noId_c, noId_agg, noId_tup, noId_snap, encL_noIdE, sec_noIdE] <;> simp [])

theorem cloneI_o (l : List Int) (h : l ≠ []) (hL : l.length ≤ 1000000) : OCall Try.prog 52 [.snap (encL intRow l)] 3 1 (encL intRow l) := by
  refine ocall (fun a ha => by rw [List.mem_singleton.1 ha]; exact encL_noId l) (encL_ids l) Try.func52 rfl (by kernel_rfl) (by simp [Try.ntmps52]) ?_
  rw [Try.ntmps52]
  have hn := isEmpty_f h
  repeat (first | (refine aw_seq ?_) | (apply w_region (by rfl); (next => (simp (maxSteps := 2000000) (disch := omega) only [go_sem, hn] <;> exact rfl))) | (refine w_nil ?_) | (refine w_hold2 ?_) | (refine w_then ?_) | (refine aw_skip ?_) | (refine aw_ret ?_) | (apply w_end; (next => (simp (maxSteps := 2000000) (disch := omega) only [go_sem, hn, Try.f52] <;> exact rfl))) | (apply w_condF; (next => (simp (maxSteps := 2000000) (disch := omega) only [go_sem, hn] <;> done))))
  simp (maxSteps := 2000000) (disch := omega) only [go_sem]
  exact ⟨_, rfl, rfl⟩

theorem cloneI_s (a : Addr) (cap : Nat) : OCall Try.prog 52 [.c (.slice (some a) 0 cap)] 3 1 (encL intRow []) := by
  refine ocall (fun a ha => by rw [List.mem_singleton.1 ha]; exact .c _) (encL_ids (f := intRow) []) Try.func52 rfl (by kernel_rfl) (by simp [Try.ntmps52]) ?_
  rw [Try.ntmps52]
  repeat (first | (refine aw_seq ?_) | (apply w_region (by rfl); (next => (simp (maxSteps := 2000000) (disch := omega) only [go_sem] <;> exact rfl))) | (refine w_nil ?_) | (refine w_hold2 ?_) | (refine w_then ?_) | (refine aw_skip ?_) | (refine aw_ret ?_) | (apply w_end; (next => (simp (maxSteps := 2000000) (disch := omega) only [go_sem, Try.f52] <;> exact rfl))) | (apply w_condF; (next => (simp (maxSteps := 2000000) (disch := omega) only [go_sem] <;> done))))
  simp (maxSteps := 2000000) (disch := omega) only [go_sem]
  exact ⟨_, rfl, rfl⟩

theorem cloneI_n (cap : Nat) : PCall Try.prog 52 [.c (.slice none 0 cap)] (· = .c (.slice none 0 0)) := by
  refine pcall Try.func52 rfl (by kernel_rfl) (by simp [Try.ntmps52]) ?_
  rw [Try.ntmps52]
  repeat (first | (refine aw_seq ?_) | (apply w_region (by rfl); (next => (simp (maxSteps := 2000000) (disch := omega) only [go_sem] <;> exact rfl))) | (refine w_nil ?_) | (refine w_hold2 ?_) | (refine w_then ?_) | (refine w_thenR ?_) | (refine aw_ret ?_) | (apply w_end; (next => (simp (maxSteps := 2000000) (disch := omega) only [go_sem, Try.f52] <;> exact rfl))) | (apply w_condT; (next => (simp (maxSteps := 2000000) (disch := omega) only [go_sem] <;> done))))
  simp (maxSteps := 2000000) (disch := omega) only [go_sem]

theorem cloneI_p (l : List Int) (hL : l.length ≤ 1000000) : PCall Try.prog 52 [.snap (encL intRow l)] (· = .snap (encL intRow l)) := by
  by_cases h : l = []
  · subst h
    refine PCall.nil (pre := []) (post := []) fun a cap => ?_
    cases a with
    | none => exact (cloneI_n cap).weak .nil (.snap _ (fun row hr => by cases hr))
    | some a =>
      refine pcall Try.func52 rfl (by kernel_rfl) (by simp [Try.ntmps52]) ?_
      rw [Try.ntmps52]
      repeat (first | (refine aw_seq ?_) | (apply w_region (by rfl); (next => (simp (maxSteps := 2000000) (disch := omega) only [go_sem] <;> exact rfl))) | (refine w_nil ?_) | (refine w_hold2 ?_) | (refine w_then ?_) | (refine aw_skip ?_) | (refine aw_ret ?_) | (apply w_end; (next => (simp (maxSteps := 2000000) (disch := omega) only [go_sem, Try.f52] <;> exact rfl))) | (apply w_condF; (next => (simp (maxSteps := 2000000) (disch := omega) only [go_sem] <;> done))))
      (simp (maxSteps := 2000000) (disch := omega) only [go_sem, noId_c, noId_agg, noId_tup, noId_snap, encL_noIdE, sec_noIdE] <;> simp [encL])
  · have hn := isEmpty_f h
    refine pcall Try.func52 rfl (by kernel_rfl) (by simp [Try.ntmps52]) ?_
    rw [Try.ntmps52]
    repeat (first | (refine aw_seq ?_) | (apply w_region (by rfl); (next => (simp (maxSteps := 2000000) (disch := omega) only [go_sem, hn] <;> exact rfl))) | (refine w_nil ?_) | (refine w_hold2 ?_) | (refine w_then ?_) | (refine aw_skip ?_) | (refine aw_ret ?_) | (apply w_end; (next => (simp (maxSteps := 2000000) (disch := omega) only [go_sem, hn, Try.f52] <;> exact rfl))) | (apply w_condF; (next => (simp (maxSteps := 2000000) (disch := omega) only [go_sem, hn] <;> done))))
    (simp (maxSteps := 2000000) (disch := omega) only [go_sem, noId_c, noId_agg, noId_tup, noId_snap, encL_noIdE, sec_noIdE] <;> simp [])

end Go.Proofs.Ytniccdnhjbnaeaa

namespace Go.Proofs.Ytniccdnhjbnaeaa
open Go.Proofs Go.AL
set_option maxRecDepth 100000
set_option maxHeartbeats 1000000
set_option linter.unusedVariables false
set_option linter.unusedSimpArgs false
attribute [local irreducible] endA
attribute [local go_sem] dec_ltT dec_ltF dec_leT dec_leF beq_T beq_F bne_T bne_F encD


def newTo (d : Dsk) (k : Nat) : List Sec := (d.ca.take k).foldl (fun o c => o.set c.1.toNat c.2) d.st
/-- The newest contents. -/
def newD (d : Dsk) : List Sec := newTo d d.ca.length
theorem newTo_len (d : Dsk) (k : Nat) : (newTo d k).length = d.st.length := by
  have key : ∀ (l : List (Int × Sec)) (o : List Sec), (l.foldl (fun o c => o.set c.1.toNat c.2) o).length = o.length := by
    intro l
    induction l with
    | nil => intro o; rfl
    | cons x r ih => intro o; rw [List.foldl_cons, ih, List.length_set]
  exact key _ _
theorem newD_len (d : Dsk) : (newD d).length = d.st.length := newTo_len d _
theorem newTo_0 (d : Dsk) : newTo d 0 = d.st := by simp [newTo]
theorem newTo_succ {d : Dsk} {k : Nat} (h : k < d.ca.length) : (newTo d k).set (d.ca.getD k zCa).1.toNat (d.ca.getD k zCa).2 = newTo d (k + 1) := by
  unfold newTo
  rw [List.take_succ_eq_append_getElem h, List.foldl_append]
  simp [h]
theorem newTo_end {d : Dsk} {k : Nat} (h : d.ca.length ≤ k) : newTo d k = newD d := by
  unfold newD newTo
  rw [List.take_of_length_le h, List.take_of_length_le (Nat.le_refl _)]
def inAll (d : Dsk) : Prop := ∀ c ∈ d.ca, 0 ≤ c.1 ∧ c.1 < d.st.length
theorem inAll_of {d : Dsk} (h : checkD d = 0) : inAll d ∧ d.st.length ≤ 4096 := by
  unfold checkD at h
  split at h
  · rename_i h1
    refine ⟨fun c hc => ?_, h1.1⟩
    have := List.all_eq_true.1 h1.2 c hc
    simpa [inD] using this
  · cases h
theorem inAll_at {d : Dsk} (h : inAll d) {k : Nat} (hk : k < d.ca.length) : 0 ≤ (d.ca.getD k zCa).1 ∧ (d.ca.getD k zCa).1 < d.st.length := h _ (getD_mem' zCa hk)
theorem inAll_nil {d : Dsk} (h : inAll d) (hs : d.st = []) : d.ca = [] := by
  cases hc : d.ca with
  | nil => rfl
  | cons x r => have := h x (by rw [hc]; simp); rw [hs] at this; simp at this; omega
def HeadN (sl ic si so : Nat) (d : Dsk) (id : Nat) (n : Nat) (env : List (Nat × Bool × AV)) (H : Heap) : Prop :=
  ∃ k m, n = d.ca.length - k ∧ k ≤ d.ca.length ∧ id < m ∧ env = [(si, true, zV (k : Int)), (ic, true, zV (d.ca.length : Int)), (sl, true, .snap (encL encCa d.ca)), (so, true, .own id 0 d.st.length)] ∧ H = ⟨m, tabG [(id, some (.cells 65 8 (encL encSec (newTo d k)) true true))]⟩

theorem newest_p (d : Dsk) (hL : d.st.length ≤ 4096) (hC : d.ca.length ≤ 1000000) (hok : inAll d) : PCall Try.prog 44 [.agg (encD d)] (· = .snap (encL encSec (newD d))) := by
  refine pcall Try.func44 rfl (by kernel_rfl) (by simp [Try.ntmps44]) ?_
  rw [Try.ntmps44]
  by_cases hs : d.st = []
  · have hc := inAll_nil hok hs
    have hn : newD d = [] := by unfold newD newTo; rw [hc, hs]; rfl
    obtain ⟨st, ca⟩ := d
    subst hs; subst hc
    repeat (first | (refine aw_seq ?_) | (apply w_region (by rfl); (next => (simp (maxSteps := 2000000) (disch := omega) only [go_sem] <;> exact rfl))) | (refine w_nil ?_) | (refine w_then ?_) | (refine aw_block ?_) | (apply w_callP (hop := rfl) (hg := rfl) (hp := (cloneS_p [] (by simp))); (next => (simp (maxSteps := 2000000) (disch := omega) only [go_sem] <;> exact rfl)); (next => (simp [noId_c, noId_agg, noId_snap, noId_tup,encD,sec_noIdE,encL_noId,encL_noIdE,encCa,encOp,encExt]; done)); (next => (simp (maxSteps := 2000000) (disch := omega) only [go_sem] <;> exact rfl))))
    refine w_rounds 1 ?_
    repeat (first | (refine aw_seq ?_) | (apply w_region (by rfl); (next => (simp (maxSteps := 2000000) (disch := omega) only [go_sem] <;> exact rfl))) | (refine w_nil ?_) | (refine w_hold2 ?_) | (refine w_then ?_) | (refine aw_ret ?_) | (refine aw_exit ?_) | (apply w_end; (next => (simp (maxSteps := 2000000) (disch := omega) only [go_sem, Try.f44] <;> exact rfl))) | (apply w_condF; (next => (simp (maxSteps := 2000000) (disch := omega) only [go_sem] <;> done))))
    (simp (maxSteps := 2000000) (disch := omega) only [go_sem, noId_c, noId_agg, noId_tup, noId_snap, encL_noIdE, sec_noIdE] <;> simp [hn])
  · repeat (first | (refine aw_seq ?_) | (apply w_region (by rfl); (next => (simp (maxSteps := 2000000) (disch := omega) only [go_sem] <;> exact rfl))) | (refine w_nil ?_) | (refine w_then ?_) | (refine aw_block ?_) | (apply w_callO (hop := rfl) (hg := rfl) (hp := (cloneS_o d.st hs (by omega))); (next => (simp (maxSteps := 2000000) (disch := omega) only [go_sem] <;> exact rfl)); (next => (simp (maxSteps := 2000000) (disch := omega) only [go_sem] <;> exact rfl))))
    refine w_loop (HeadN 10 11 12 3 d 1) d.ca.length ?_ ?_
    · refine ⟨_, _, ⟨0, 1000, by omega, by omega, by omega, rfl, rfl⟩, ?_⟩
      rw [newTo_0]
      refine holds_cons (by rfl) (holds_cons (by rfl) (holds_cons (by rfl) (holds_cons (by rfl) (holds_nil (by simp only []; omega) (sub_cons (by (first | rfl | (simp (disch := omega) only [go_sem, encD]; done) | (simp (disch := omega) only [go_sem, encD]; rfl))) (sub_nil))))))
    · rintro n env H ⟨k, m, rfl, hk, hm, rfl, rfl⟩
      have hl := newTo_len d k
      by_cases hlt : k < d.ca.length
      · obtain ⟨h1, h2⟩ := inAll_at hok hlt
        have h3 := newTo_succ hlt
        repeat (first | (refine aw_seq ?_) | (apply w_region (by rfl); (next => (simp (maxSteps := 2000000) (disch := omega) only [go_sem, (encL_get zCa), (encL_get (f := encSec) zSec), hl, h3] <;> exact rfl))) | (refine w_nil ?_) | (refine w_then ?_) | (refine aw_skip ?_) | (refine aw_block ?_) | (apply w_condT; (next => (simp (maxSteps := 2000000) (disch := omega) only [go_sem, (encL_get zCa), (encL_get (f := encSec) zSec), hl, h3] <;> done))))
        refine ⟨d.ca.length - (k + 1), by omega, _, _, ⟨k + 1, m + 1000, rfl, by omega, by omega, rfl, rfl⟩, ?_⟩
        refine holds_cons (by rfl) (holds_cons (by rfl) (holds_cons (by rfl) (holds_cons (by rfl) (holds_nil (by simp only []; omega) (sub_cons (by (first | rfl | (simp (disch := omega) only [go_sem, encD]; done) | (simp (disch := omega) only [go_sem, encD]; rfl))) (sub_nil))))))
      · have he := newTo_end (show d.ca.length ≤ k by omega)
        have hl2 := newD_len d
        have htk : (newD d).take d.st.length = newD d := List.take_of_length_le (by omega)
        repeat (first | (refine aw_seq ?_) | (apply w_region (by rfl); (next => (simp (maxSteps := 2000000) (disch := omega) only [go_sem, hl, he] <;> exact rfl))) | (refine w_nil ?_) | (refine w_hold2 ?_) | (refine w_then ?_) | (refine aw_ret ?_) | (refine aw_exit ?_) | (apply w_end; (next => (simp (maxSteps := 2000000) (disch := omega) only [go_sem, hl, he, Try.f44] <;> exact rfl))) | (apply w_condF; (next => (simp (maxSteps := 2000000) (disch := omega) only [go_sem, hl, he] <;> done))))
        (simp (maxSteps := 2000000) (disch := omega) only [go_sem, noId_c, noId_agg, noId_tup, noId_snap, encL_noIdE, sec_noIdE, hl2, he, htk, List.drop_zero, Nat.le_refl] <;> simp [])


def HeadN2 (d : Dsk) (id : Nat) (n : Nat) (env : List (Nat × Bool × AV)) (H : Heap) : Prop :=
  ∃ k m, n = d.ca.length - k ∧ k ≤ d.ca.length ∧ id < m ∧ 0 < m ∧ env = [(4, true, zV (k : Int)), (3, true, .own id 0 d.st.length), (1, true, .ptr 0 0 0)] ∧ H = ⟨m, tabG [(0, some (.cells 25 2 [encD d] true false)), (id, some (.cells 65 8 (encL encSec (newTo d k)) true true))]⟩

theorem rnewest_e  : PCall Try.prog 45 [.agg [.snap (encL encSec []), .snap (encL encCa [])]] (· = .snap (encL encSec [])) := by
  refine PCall.wk ?_ (encL_noId (f := encSec) [])
  refine pcall Try.func45 rfl (by kernel_rfl) (by simp [Try.ntmps45]) ?_
  rw [Try.ntmps45]
  repeat (first | (refine aw_seq ?_) | (apply w_region (by rfl); (next => (simp (maxSteps := 2000000) (disch := omega) only [go_sem, encL_nil] <;> exact rfl))) | (refine w_nil ?_) | (refine w_then ?_) | (refine aw_block ?_))
  refine w_rounds 1 ?_
  repeat (first | (refine aw_seq ?_) | (apply w_region (by rfl); (next => (simp (maxSteps := 2000000) (disch := omega) only [go_sem, encL_nil] <;> exact rfl))) | (refine w_nil ?_) | (refine w_hold2 ?_) | (refine w_then ?_) | (refine aw_ret ?_) | (refine aw_exit ?_) | (apply w_end; (next => (simp (maxSteps := 2000000) (disch := omega) only [go_sem, encL_nil, Try.f45] <;> exact rfl))) | (apply w_condF; (next => (simp (maxSteps := 2000000) (disch := omega) only [go_sem, encL_nil] <;> done))))
  first | exact .nil | (simp (maxSteps := 2000000) (disch := omega) only [go_sem]; exact .nil)

theorem rnewest_n (d : Dsk) (hL : d.st.length ≤ 4096) (hC : d.ca.length ≤ 1000000) (hok : inAll d) (hs : d.st ≠ []) : PCall Try.prog 45 [.agg (encD d)] (· = .snap (encL encSec (newD d))) := by
  refine pcall Try.func45 rfl (by kernel_rfl) (by simp [Try.ntmps45]) ?_
  rw [Try.ntmps45]
  have hne := isEmpty_f hs
  repeat (first | (refine aw_seq ?_) | (apply w_region (by rfl); (next => (simp (maxSteps := 2000000) (disch := omega) only [go_sem, hne] <;> exact rfl))) | (refine w_nil ?_) | (refine w_then ?_) | (refine aw_block ?_))
  refine w_loop (HeadN2 d 1) d.ca.length ?_ ?_
  · refine ⟨_, _, ⟨0, 1000, by omega, by omega, by omega, by omega, rfl, rfl⟩, ?_⟩
    rw [newTo_0]
    refine holds_cons (by rfl) (holds_cons (by rfl) (holds_cons (by rfl) (holds_nil (by simp only []; omega) (sub_cons (by (first | rfl | (simp (disch := omega) only [go_sem, encD]; done) | (simp (disch := omega) only [go_sem, encD]; rfl))) (sub_cons (by (first | rfl | (simp (disch := omega) only [go_sem, encD]; done) | (simp (disch := omega) only [go_sem, encD]; rfl))) (sub_nil))))))
  · rintro n env H ⟨k, m, rfl, hk, hm, hm0, rfl, rfl⟩
    have hl := newTo_len d k
    by_cases hlt : k < d.ca.length
    · obtain ⟨h1, h2⟩ := inAll_at hok hlt
      have h3 := newTo_succ hlt
      repeat (first | (refine aw_seq ?_) | (apply w_region (by rfl); (next => (simp (maxSteps := 2000000) (disch := omega) only [go_sem, (encL_get zCa), (encL_get (f := encSec) zSec), hl, h3] <;> exact rfl))) | (apply w_draw (by kernel_rfl) (by kernel_rfl) (by rfl); (case hr => (apply d_run; (next => (simp (maxSteps := 2000000) (disch := omega) only [go_sem, (encL_get zCa), (encL_get (f := encSec) zSec), hl, h3] <;> exact rfl)); exact d_nil)); (case hdyn => (simp (maxSteps := 2000000) (disch := omega) only [go_sem, nbeq_F, nbeq_T, (encL_get zCa), (encL_get (f := encSec) zSec), hl, h3] <;> kernel_rfl))) | (refine w_nil ?_) | (refine w_then ?_) | (refine aw_skip ?_) | (refine aw_block ?_) | (apply w_condT; (next => (simp (maxSteps := 2000000) (disch := omega) only [go_sem, (encL_get zCa), (encL_get (f := encSec) zSec), hl, h3] <;> done))))
      refine ⟨d.ca.length - (k + 1), by omega, _, _, ⟨k + 1, m + 1000, rfl, by omega, by omega, by omega, rfl, rfl⟩, ?_⟩
      refine holds_cons (by rfl) (holds_cons (by rfl) (holds_cons (by rfl) (holds_nil (by simp only []; omega) (sub_cons (by (first | rfl | (simp (disch := omega) only [go_sem, encD]; done) | (simp (disch := omega) only [go_sem, encD]; rfl))) (sub_cons (by (first | rfl | (simp (disch := omega) only [go_sem, encD]; done) | (simp (disch := omega) only [go_sem, encD]; rfl))) (sub_nil))))))
    · have he := newTo_end (show d.ca.length ≤ k by omega)
      have hl2 := newD_len d
      have htk : (newD d).take d.st.length = newD d := List.take_of_length_le (by omega)
      repeat (first | (refine aw_seq ?_) | (apply w_region (by rfl); (next => (simp (maxSteps := 2000000) (disch := omega) only [go_sem, hl, he] <;> exact rfl))) | (refine w_nil ?_) | (refine w_hold2 ?_) | (refine w_then ?_) | (refine aw_ret ?_) | (refine aw_exit ?_) | (apply w_end; (next => (simp (maxSteps := 2000000) (disch := omega) only [go_sem, hl, he, Try.f45] <;> exact rfl))) | (apply w_condF; (next => (simp (maxSteps := 2000000) (disch := omega) only [go_sem, hl, he] <;> done))))
      (simp (maxSteps := 2000000) (disch := omega) only [go_sem, noId_c, noId_agg, noId_tup, noId_snap, encL_noIdE, sec_noIdE, hl2, he, htk, List.drop_zero, Nat.le_refl] <;> simp [])


theorem rnewest_p (d : Dsk) (hL : d.st.length ≤ 4096) (hC : d.ca.length ≤ 1000000) (hok : inAll d) : PCall Try.prog 45 [.agg (encD d)] (· = .snap (encL encSec (newD d))) := by
  by_cases hs : d.st = []
  · have hc := inAll_nil hok hs
    have hn : newD d = [] := by unfold newD newTo; rw [hc, hs]; rfl
    rw [hn]
    obtain ⟨st, ca⟩ := d
    subst hs; subst hc
    exact rnewest_e
  · exact rnewest_n d hL hC hok hs

end Go.Proofs.Ytniccdnhjbnaeaa

namespace Go.Proofs.Ytniccdnhjbnaeaa
open Go.Proofs Go.AL
set_option maxRecDepth 100000
set_option maxHeartbeats 1000000
set_option linter.unusedVariables false
set_option linter.unusedSimpArgs false
attribute [local irreducible] endA
attribute [local go_sem] dec_ltT dec_ltF dec_leT dec_leF beq_T beq_F bne_T bne_F encD


def putS (ca : List (Int × Sec)) (a : Int) (data : List Sec) (k : Nat) : List (Int × Sec) := ca ++ (List.range k).map fun (i : Nat) => (a + (i : Int), data.getD i zSec)
theorem putS_0 (ca : List (Int × Sec)) (a : Int) (data : List Sec) : putS ca a data 0 = ca := by simp [putS]
theorem putS_succ (ca : List (Int × Sec)) (a : Int) (data : List Sec) (k : Nat) : putS ca a data k ++ [(a + (k : Int), data.getD k zSec)] = putS ca a data (k + 1) := by
  simp [putS, List.range_succ]
theorem putS_len (ca : List (Int × Sec)) (a : Int) (data : List Sec) (k : Nat) : (putS ca a data k).length = ca.length + k := by simp [putS]
/-- An operation carried out: the disk, or the error. -/
def stepS (d : Dsk) (o : Opr) : Sum Int Dsk :=
  if o.kind = 0 then (if insideB d.st.length o.at_ o.data.length = true then .inr ⟨d.st, putS d.ca o.at_ o.data o.data.length⟩ else .inl 2)
  else if o.kind = 1 then .inr ⟨newD d, []⟩ else .inl 1
def runL : Dsk → List Opr → Nat → Dsk × Int × Int
  | d, [], i => (d, i, 0)
  | d, o :: r, i => match stepS d o with
    | .inr d' => runL d' r (i + 1)
    | .inl e => (Dsk.empty, i, e)
/-- Operations carried out. -/
def runS (d : Dsk) (ops : List Opr) : Dsk × Int × Int := if checkD d = 0 then runL d ops 0 else (Dsk.empty, 0, checkD d)

theorem inside_len {n m : Nat} {a : Int} (h : insideB n a m = true) : m ≤ n := by
  simp only [insideB, Bool.and_eq_true, decide_eq_true_eq] at h; omega
/-- After the first k operations. -/
structure RunInv (d : Dsk) (ops : List Opr) (k : Nat) (d' : Dsk) : Prop where
  run : runL d ops 0 = runL d' (ops.drop k) k
  ok : inAll d'
  st : d'.st.length = d.st.length
  ca : d'.ca.length ≤ d.ca.length + k * 4096
theorem RunInv.start {d : Dsk} {ops : List Opr} (h : inAll d) : RunInv d ops 0 d := ⟨by simp, h, rfl, by omega⟩
theorem runL_drop {d' : Dsk} {ops : List Opr} {k : Nat} (hk : k < ops.length) : runL d' (ops.drop k) k = match stepS d' (ops.getD k default) with
    | .inr d'' => runL d'' (ops.drop (k + 1)) (k + 1)
    | .inl e => (Dsk.empty, (k : Int), e) := by
  rw [List.drop_eq_getElem_cons hk]
  have : ops.getD k default = ops[k] := by simp [hk]
  rw [this]
  rfl
theorem RunInv.bad {d d' : Dsk} {ops : List Opr} {k : Nat} {e : Int} (h : RunInv d ops k d') (hk : k < ops.length) (hs : stepS d' (ops.getD k default) = .inl e) : runL d ops 0 = (Dsk.empty, (k : Int), e) := by
  rw [h.run, runL_drop hk, hs]
theorem RunInv.fin {d d' : Dsk} {ops : List Opr} {k : Nat} (h : RunInv d ops k d') (hk : k = ops.length) : runL d ops 0 = (d', (k : Int), 0) := by
  rw [h.run, hk, List.drop_length]; rfl
theorem RunInv.next {d d' d'' : Dsk} {ops : List Opr} {k : Nat} (h : RunInv d ops k d') (hk : k < ops.length) (hs : stepS d' (ops.getD k default) = .inr d'') (hok : inAll d'') (hst : d''.st.length = d'.st.length)
    (hca : d''.ca.length ≤ d'.ca.length + 4096) : RunInv d ops (k + 1) d'' :=
  ⟨by rw [h.run, runL_drop hk, hs], hok, hst.trans h.st, by have := h.ca; omega⟩
theorem inAll_put {d : Dsk} {a : Int} {data : List Sec} (h : inAll d) (hi : insideB d.st.length a data.length = true) : inAll ⟨d.st, putS d.ca a data data.length⟩ := by
  intro c hc
  simp only [putS, List.mem_append, List.mem_map, List.mem_range] at hc
  simp only [insideB, Bool.and_eq_true, decide_eq_true_eq] at hi
  rcases hc with hc | ⟨i, hi2, rfl⟩
  · exact h c hc
  · dsimp only; omega
theorem inAll_new (d : Dsk) : inAll ⟨newD d, []⟩ := fun c hc => by cases hc

/-- The cache in the executor. -/
def Cav (cav : AV) (m : Nat) (mb : Option Blk) (ca : List (Int × Sec)) : Prop :=
  (∃ w, cav = .own m 0 ca.length ∧ mb = some (.cells 67 9 (encL encCa ca) w true)) ∨ (∃ a, cav = .c (.slice a 0 0) ∧ mb = none ∧ ca = [])
theorem Cav.mk {m n : Nat} {w : Bool} {ca : List (Int × Sec)} (h : n = ca.length) : Cav (.own m 0 n) m (some (.cells 67 9 (encL encCa ca) w true)) ca := .inl ⟨w, by rw [h], rfl⟩
theorem Cav.nil0 {m : Nat} {a : Option Addr} : Cav (.c (.slice a 0 0)) m none [] := .inr ⟨a, rfl, rfl, rfl⟩
theorem check_x (st : List Sec) (a : Option Addr) (cap : Nat) (hL : st.length ≤ 1000000) : PCall Try.prog 33 [.agg [.snap (encL encSec st), .c (.slice a 0 cap)]] (· = zV (checkD ⟨st, []⟩)) :=
  (check_p ⟨st, []⟩ hL (by simp)).less (wks_cons (wk_agg (wks_cons (.refl _) (wks_cons .nil wks_nil))) wks_nil)


theorem lessD {n : FuncId} {d' : Dsk} {a : Option Addr} {cap : Nat} {rest : List AV} {Q : AV → Prop} (hca : d'.ca = []) (h : PCall Try.prog n (.agg (encD d') :: rest) Q) : PCall Try.prog n (.agg [.snap (encL encSec d'.st), .c (.slice a 0 cap)] :: rest) Q :=
  h.less (wks_cons (wk_agg (wks_cons (.refl _) (wks_cons (by rw [hca]; exact .nil) wks_nil))) (wks_refl _))
theorem res_noId (d : Dsk) (n e : Int) : NoId (.tup [.agg (encD d), zV n, zV e]) := noId_tup.2 fun x hx => by
  simp only [List.mem_cons, List.not_mem_nil, or_false] at hx
  rcases hx with rfl | rfl | rfl
  · exact d_noId d
  · exact .c _
  · exact .c _

end Go.Proofs.Ytniccdnhjbnaeaa
