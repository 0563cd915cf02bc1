/- The witness as data, and the first functions of its State. No condition. -/
import Derived.Test.YtelkpeoilneikaaV
import Derived.Test.YtelkpeoilneikaaLf
import Derived.Test.YtelkpeoilneikaaLd
import Derived.Test.YtelkpeoilneikaaLc
import Derived.Test.YtelkpeoilneikaaD
import Derived.KernelRfl
import Derived.Test.YtelkpeoilneikaaN
import Derived.Test.YtelkpeoilneikaaP
/- The state of the witness's events as abstract values. -/
namespace Go.Proofs.Ytelkpeoilneikaa
open Go.Proofs Go.AL
set_option linter.unusedVariables false
set_option linter.unusedSimpArgs false

abbrev iV (x : Int) : AV := .c (.int .i64 x)
def encMsg (m : Msg) : List AV := [iV m.kind, iV m.frm, iV m.to, iV m.number, iV m.value, iV m.epoch, .c (.slice none 0 0), .c (.slice none 0 0)]
def tailSt (ow : Nat → Int) (r : Bool) : List AV := (List.range 80).map (fun k => iV (ow k)) ++ [.c (.bool r)]
def encInts (xs : List Int) : List (List AV) := xs.map fun x => [iV x]
def encMsgs (ms : List Msg) : List (List AV) := ms.map encMsg
def encSt (st : St) : List AV := iV st.E :: iV st.H :: iV st.U :: iV 0 :: iV (st.l 0).e :: iV (st.l 0).u :: iV 1 :: iV (st.l 1).e :: iV (st.l 1).u :: iV 2 :: iV (st.l 2).e :: iV (st.l 2).u ::
  .snap (encMsgs st.flight) :: .snap (encInts st.sent) :: iV st.now :: tailSt st.owner st.right

theorem tail_len (ow : Nat → Int) (r : Bool) : (tailSt ow r).length = 81 := by simp [tailSt]
theorem tail_take (ow : Nat → Int) (r : Bool) : (tailSt ow r).take 81 = tailSt ow r := List.take_of_length_le (by rw [tail_len]; omega)
theorem tail_right (ow : Nat → Int) (r : Bool) : (tailSt ow r)[80]? = some (.c (.bool r)) := by simp [tailSt]
theorem tail_owner (ow : Nat → Int) (r : Bool) {k : Nat} (h : k < 80) : (tailSt ow r)[k]? = some (iV (ow k)) := by
  unfold tailSt
  rw [List.getElem?_append_left (by simpa using h)]
  simp [h]
theorem tail_setR (ow : Nat → Int) (r r' : Bool) : (tailSt ow r).take 80 ++ [.c (.bool r')] = tailSt ow r' := by simp [tailSt]
theorem tail_drop (ow : Nat → Int) (r : Bool) : (tailSt ow r).drop 81 = [] := List.drop_eq_nil_of_le (by rw [tail_len]; omega)
theorem tail_one (ow : Nat → Int) (r : Bool) : (tailSt ow r).all AV.one = true := by
  simp only [tailSt, List.all_append, List.all_map, List.all_cons, List.all_nil, Bool.and_true]
  simp [AV.one, Value.oneCell']
theorem tail_noId (ow : Nat → Int) (r : Bool) : ∀ x ∈ tailSt ow r, NoId x := by
  intro x hx
  simp only [tailSt, List.mem_append, List.mem_map, List.mem_singleton] at hx
  rcases hx with ⟨k, _, rfl⟩ | rfl <;> exact .c _
theorem tail_expo (G : Nat → Option Blk) (ow : Nat → Int) (r : Bool) : (tailSt ow r).map (expo1 G) = tailSt ow r := by
  simp only [tailSt, List.map_append, List.map_map]
  rfl
theorem msgs_len (ms : List Msg) : (encMsgs ms).length = ms.length := by simp [encMsgs]
theorem ints_len (xs : List Int) : (encInts xs).length = xs.length := by simp [encInts]
theorem msgs_all (ms : List Msg) : (encMsgs ms).all (fun r => r.length == 8 && r.all AV.one) = true := by simp [encMsgs, encMsg, AV.one, Value.oneCell']
theorem ints_all (xs : List Int) : (encInts xs).all (fun r => r.length == 1 && r.all AV.one) = true := by simp [encInts, AV.one, Value.oneCell']
theorem msgs_row (ms : List Msg) : (encMsgs ms).all (fun r => r.length == 8) = true := by simp [encMsgs, encMsg]
theorem ints_row (xs : List Int) : (encInts xs).all (fun r => r.length == 1) = true := by simp [encInts]
theorem msgs_noId (ms : List Msg) : ∀ row ∈ encMsgs ms, ∀ x ∈ row, NoId x := by
  intro row hr x hx
  simp only [encMsgs, List.mem_map] at hr
  obtain ⟨m, _, rfl⟩ := hr
  simp only [encMsg, List.mem_cons, List.not_mem_nil, or_false] at hx
  rcases hx with rfl | rfl | rfl | rfl | rfl | rfl | rfl | rfl <;> exact .c _
theorem ints_noId (xs : List Int) : ∀ row ∈ encInts xs, ∀ x ∈ row, NoId x := by
  intro row hr x hx
  simp only [encInts, List.mem_map] at hr
  obtain ⟨m, _, rfl⟩ := hr
  simp only [List.mem_singleton] at hx
  subst hx; exact .c _
theorem st_noId (st : St) : NoId (.agg (encSt st)) := by
  rw [noId_agg]
  intro x hx
  simp only [encSt, List.mem_cons] at hx
  rcases hx with rfl | rfl | rfl | rfl | rfl | rfl | rfl | rfl | rfl | rfl | rfl | rfl | rfl | rfl | rfl | hx
  all_goals first | exact .c _ | exact noId_snap.2 (msgs_noId _) | exact noId_snap.2 (ints_noId _) | exact tail_noId _ _ x hx
theorem msg_noId (m : Msg) : NoId (.agg (encMsg m)) := by
  rw [noId_agg]
  intro x hx
  simp only [encMsg, List.mem_cons, List.not_mem_nil, or_false] at hx
  rcases hx with rfl | rfl | rfl | rfl | rfl | rfl | rfl | rfl <;> exact .c _
theorem msgs_app (xs ys : List Msg) : encMsgs xs ++ encMsgs ys = encMsgs (xs ++ ys) := by simp [encMsgs]
theorem ints_app (xs ys : List Int) : encInts xs ++ encInts ys = encInts (xs ++ ys) := by simp [encInts]
theorem msgs_snoc (ms : List Msg) (a b c d e f : Int) : encMsgs ms ++ [[iV a, iV b, iV c, iV d, iV e, iV f, .c (.slice none 0 0), .c (.slice none 0 0)]] = encMsgs (ms ++ [⟨a, b, c, d, e, f⟩]) := by simp [encMsgs, encMsg]
theorem ints_snoc (xs : List Int) (a : Int) : encInts xs ++ [[iV a]] = encInts (xs ++ [a]) := by simp [encInts]
theorem msgs_take (ms : List Msg) (n : Nat) : (encMsgs ms).take n = encMsgs (ms.take n) := by simp [encMsgs]
theorem ints_take (ms : List Int) (n : Nat) : (encInts ms).take n = encInts (ms.take n) := by simp [encInts]
theorem msgs_drop (ms : List Msg) (n : Nat) : (encMsgs ms).drop n = encMsgs (ms.drop n) := by simp [encMsgs]
theorem ints_drop (ms : List Int) (n : Nat) : (encInts ms).drop n = encInts (ms.drop n) := by simp [encInts]
theorem take_snoc {α : Type} (xs : List α) (a : α) : (xs ++ [a]).take (xs.length + 1) = xs ++ [a] := List.take_of_length_le (by simp)
theorem msgs_nil : encMsgs [] = [] := rfl
theorem ints_nil' : encInts [] = [] := rfl
theorem msgs_noId' (ms : List Msg) : NoId (.snap (encMsgs ms)) := noId_snap.2 (msgs_noId ms)
theorem ints_noId' (ms : List Int) : NoId (.snap (encInts ms)) := noId_snap.2 (ints_noId ms)
theorem tail_noId' (ow : Nat → Int) (r : Bool) : (∀ x, x ∈ tailSt ow r → NoId x) = True := eq_true (tail_noId ow r)
end Go.Proofs.Ytelkpeoilneikaa

/- The contracts of the witness package, as contracts over data. -/
namespace Go.Proofs.Ytelkpeoilneikaa
open Go.Proofs Go.AL Go.RowKit
set_option linter.unusedVariables false
set_option linter.unusedSimpArgs false

theorem rigid_i (x : Int) : Rigid (iV x) (.int .i64 x) := rigid_c rfl
theorem rigid_msg (m : Msg) : Rigid (.agg (encMsg m)) m.val :=
  rigid_agg (rigids_cons (rigid_i _) (rigids_cons (rigid_i _) (rigids_cons (rigid_i _) (rigids_cons (rigid_i _) (rigids_cons (rigid_i _) (rigids_cons (rigid_i _) (rigids_cons (rigid_c rfl) (rigids_cons (rigid_c rfl) rigids_nil))))))))
theorem rigid3 (a b c : Int) : Rigid (.agg [iV a, iV b, iV c]) (.agg #[.int .i64 a, .int .i64 b, .int .i64 c]) := rigid_agg (rigids_cons (rigid_i _) (rigids_cons (rigid_i _) (rigids_cons (rigid_i _) rigids_nil)))

theorem ask_p (s e u ep : Int) : PCall Try.prog 19 [.agg [iV s, iV e, iV u], iV ep] (· = .tup [.agg (encMsg (askM s e u ep)), iV (askE s e u ep)]) :=
  pcall_of (by kernel_rfl) (rigids_cons (rigid3 _ _ _) (rigids_cons (rigid_i _) rigids_nil)) (rigid_tup (rigids_cons (rigid_msg _) (rigids_cons (rigid_i _) rigids_nil))) (fun w => ask_any s e u ep w)
theorem renew_p (s e u : Int) : PCall Try.prog 21 [.agg [iV s, iV e, iV u]] (· = .tup [.agg (encMsg (renewM s e u)), iV (renewE s e u)]) :=
  pcall_of (by kernel_rfl) (rigids_cons (rigid3 _ _ _) rigids_nil) (rigid_tup (rigids_cons (rigid_msg _) (rigids_cons (rigid_i _) rigids_nil))) (fun w => renew_any s e u w)
theorem give_p (s e u : Int) : PCall Try.prog 23 [.agg [iV s, iV e, iV u]] (· = .tup [.agg [iV s, iV (giveE s e u), iV (giveU s e u)], .agg (encMsg (giveM s e u))]) :=
  pcall_of (by kernel_rfl) (rigids_cons (rigid3 _ _ _) rigids_nil) (rigid_tup (rigids_cons (rigid3 _ _ _) (rigids_cons (rigid_msg _) rigids_nil))) (fun w => give_any s e u w)
theorem holds_p (s e u now : Int) : PCall Try.prog 25 [.agg [iV s, iV e, iV u], iV now] (· = .c (.bool (formedB s e u && decide (now < u)))) :=
  pcall_of (by kernel_rfl) (rigids_cons (rigid3 _ _ _) (rigids_cons (rigid_i _) rigids_nil)) (rigid_c rfl) (fun w => holds_any s e u now w)
end Go.Proofs.Ytelkpeoilneikaa

/- The contracts of the witness package that answer messages, as contracts over data. -/
namespace Go.Proofs.Ytelkpeoilneikaa
open Go.Proofs Go.AL Go.RowKit
set_option linter.unusedVariables false
set_option linter.unusedSimpArgs false

theorem rigid_m8 (a b c d e f : Int) : Rigid (.agg [iV a, iV b, iV c, iV d, iV e, iV f, .c (.slice none 0 0), .c (.slice none 0 0)]) (.agg #[.int .i64 a, .int .i64 b, .int .i64 c, .int .i64 d, .int .i64 e, .int .i64 f, .slice none 0 0, .slice none 0 0]) :=
  rigid_agg (rigids_cons (rigid_i _) (rigids_cons (rigid_i _) (rigids_cons (rigid_i _) (rigids_cons (rigid_i _) (rigids_cons (rigid_i _) (rigids_cons (rigid_i _) (rigids_cons (rigid_c rfl) (rigids_cons (rigid_c rfl) rigids_nil))))))))

theorem learn_p (s e u sent term margin kind frm to number value epoch : Int) (v1 : -9223372036854775808 ≤ value) (v2 : value ≤ 9223372036854775807) :
    PCall Try.prog 17 [.agg [iV s, iV e, iV u], iV sent, iV term, iV margin, .agg [iV kind, iV frm, iV to, iV number, iV value, iV epoch, .c (.slice none 0 0), .c (.slice none 0 0)]]
      (· = .agg [iV s, iV (learnE s e u sent term margin kind to value epoch), iV (learnU s e u sent term margin kind to value epoch)]) :=
  pcall_of (by kernel_rfl) (rigids_cons (rigid3 _ _ _) (rigids_cons (rigid_i _) (rigids_cons (rigid_i _) (rigids_cons (rigid_i _) (rigids_cons (rigid_m8 _ _ _ _ _ _) rigids_nil))))) (rigid3 _ _ _) (fun w => learn17_any s e u sent term margin kind frm to number value epoch none none 0 0 0 0 w v1 v2)
theorem awake_p : PCall Try.prog 11 [] (· = .c (.bool true)) :=
  pcall_of (by kernel_rfl) rigids_nil (rigid_c rfl) (fun w => awake_t w)

theorem cell_i (m : Msg) : encMsg m = (List.range 8).map fun j => .c (m.cell j) := rfl
theorem row_rv {B : Nat} {w : World} {v : Value} {ms : List Msg} (h : MsgRow B w v ms) {L : Nat → Nat} (hL : ∀ b, B ≤ b → b < w.heap.size → 8000000 ≤ L b) : RV (Env0 L) w (.snap (encMsgs ms)) v := by
  obtain ⟨o, cap, rfl, hlen, hc⟩ := h
  cases ms with
  | nil => exact .snap0 _ _
  | cons m0 r =>
    obtain ⟨b, rfl, hB, hbw, hcap, _⟩ := hc 0 (by simp)
    have hrow : ∀ (i : Nat) row, (encMsgs (m0 :: r))[i]? = some row → i < (m0 :: r).length ∧ row = encMsg ((m0 :: r).getD i Msg.zero) := fun i row hr => by
      simp only [encMsgs, List.getElem?_map, Option.map_eq_some_iff] at hr
      obtain ⟨m, hm, rfl⟩ := hr
      refine ⟨(List.getElem?_eq_some_iff.1 hm).1, ?_⟩
      rw [List.getD_eq_getElem?_getD, hm]; rfl
    have hcell : ∀ (i j : Nat) row x, (encMsgs (m0 :: r))[i]? = some row → row[j]? = some x → i < (m0 :: r).length ∧ j < 8 ∧ x = .c (((m0 :: r).getD i Msg.zero).cell j) := fun i j row x h1 h2 => by
      obtain ⟨hi, rfl⟩ := hrow i row h1
      rw [cell_i, List.getElem?_map, Option.map_eq_some_iff] at h2
      obtain ⟨k, hk, rfl⟩ := h2
      rw [List.getElem?_eq_some_iff] at hk
      obtain ⟨hk1, hk2⟩ := hk
      simp at hk1 hk2
      subst hk2
      exact ⟨hi, hk1, rfl⟩
    refine .snap _ b 0 8 _ cap (fun i j => ((m0 :: r).getD i Msg.zero).cell j) (msgs_len _).symm hcap (fun i row hr => by rw [(hrow i row hr).2]; rfl) ?_ (fun i j row x h1 h2 => ?_) (fun i j row x h1 h2 => ?_)
    · rw [msgs_len]
      have := hL b hB hbw
      show 0 + (m0 :: r).length * 8 ≤ L b
      omega
    · obtain ⟨hi, hj, rfl⟩ := hcell i j row x h1 h2
      obtain ⟨b', hb', _, _, _, hcc⟩ := hc i hi
      injection hb' with hb'
      injection hb' with hb'
      subst hb'
      simpa using hcc j hj
    · obtain ⟨hi, hj, rfl⟩ := hcell i j row x h1 h2
      refine .c _ ?_
      match j, hj with
      | 0, _ | 1, _ | 2, _ | 3, _ | 4, _ | 5, _ | 6, _ | 7, _ => rfl

theorem handle_p (q : Req) : PCall Try.prog 12 [.agg [iV q.e, iV q.h, iV q.u], iV q.now, iV q.term, .agg [iV q.kind, iV q.frm, iV q.to, iV q.number, iV q.value, iV q.epoch, .c (.slice none 0 0), .c (.slice none 0 0)]]
    (· = .tup [.agg [iV (handleQ q).1.e, iV (handleQ q).1.h, iV (handleQ q).1.u], .snap (encMsgs (handleQ q).2)]) := by
  refine ⟨by kernel_rfl, fun L W vs hL hrv => ?_⟩
  obtain rfl := ((rigids_cons (rigid3 q.e q.h q.u) (rigids_cons (rigid_i q.now) (rigids_cons (rigid_i q.term) (rigids_cons (rigid_m8 q.kind q.frm q.to q.number q.value q.epoch) rigids_nil)))).2 _ _).2 vs hrv
  refine (handle_any q none none 0 0 0 0 W).mono ?_
  rintro e W' ⟨v, he, hm, hb⟩
  refine ⟨_, he, _, fun b => if b < W.heap.size then L b else if b < W'.heap.size then 8000000 else 0, hb, fun b h => if_pos h, fun b h => ?_, ?_, ?_, rfl⟩
  · have := hb.size
    simp only []
    rw [if_neg (by omega), if_neg (by omega)]
  · refine .tup _ _ rfl fun i x u hx hu => ?_
    match i with
    | 0 => simp at hx hu; subst hx hu; exact ((rigid3 _ _ _).2 _ _).1
    | 1 =>
      simp at hx hu; subst hx hu
      refine row_rv hm fun b h1 h2 => ?_
      rw [if_neg (by omega), if_pos h2]; exact Nat.le_refl _
    | n + 2 => simp at hx
  · rw [noId_tup]
    intro x hx
    simp only [List.mem_cons, List.not_mem_nil, or_false] at hx
    rcases hx with rfl | rfl
    · exact (rigid3 _ _ _).1
    · exact msgs_noId' _
theorem msgs_noIdE (ms : List Msg) : (∀ (row : List AV), row ∈ encMsgs ms → ∀ (x : AV), x ∈ row → NoId x) = True := eq_true (msgs_noId ms)
theorem ints_noIdE (ms : List Int) : (∀ (row : List AV), row ∈ encInts ms → ∀ (x : AV), x ∈ row → NoId x) = True := eq_true (ints_noId ms)
attribute [go_sem] msgs_noIdE ints_noIdE msgs_snoc ints_snoc msgs_take ints_take msgs_drop ints_drop take_snoc msgs_noId' ints_noId' tail_noId' List.length_append tail_len tail_take tail_right tail_drop tail_one tail_expo msgs_len ints_len msgs_all ints_all msgs_row ints_row
end Go.Proofs.Ytelkpeoilneikaa

namespace Go.Proofs.Ytelkpeoilneikaa
open Go.Proofs Go.AL
set_option maxRecDepth 100000
set_option maxHeartbeats 1000000
set_option linter.unusedVariables false
set_option linter.unusedSimpArgs false

theorem begin_p  : PCall Try.prog 27 [] (· = .agg (encSt St.begin)) := by
  refine PCall.wk ?_ (st_noId _)
  refine pcall Try.func27 rfl (by kernel_rfl) (by simp [Try.ntmps27]) ?_
  rw [Try.ntmps27]
  repeat (first | refine aw_seq ?_ | (apply w_region (by rfl); (next => (simp (config := { maxSteps := 2000000 }) (disch := omega) only [go_sem, encSt, encMsg] <;> exact rfl))) | (apply w_draw (by kernel_rfl) (by kernel_rfl) (by rfl); (case hr => (repeat (apply d_run; (next => (simp (config := { maxSteps := 2000000 }) (disch := omega) only [go_sem, encSt, encMsg] <;> exact rfl)); first | exact d_nil))); (case hdyn => (simp (config := { maxSteps := 2000000 }) (disch := omega) only [go_sem, encSt, encMsg] <;> kernel_rfl))) | refine w_nil ?_ | refine w_hold ?_ | refine w_hold2 ?_ | refine w_then ?_ | refine w_thenR ?_ | refine w_thenE ?_ | refine w_blockN ?_ | refine w_blockR ?_ | refine w_blockE ?_ | refine w_blockO (by decide) ?_ | refine aw_skip ?_ | refine aw_ret ?_ | refine aw_exit ?_ | refine aw_block ?_ | (apply w_end; (next => (simp (config := { maxSteps := 2000000 }) (disch := omega) only [go_sem, encSt, encMsg, Try.f27] <;> exact rfl))) | (apply w_endN; (next => (simp (config := { maxSteps := 2000000 }) (disch := omega) only [go_sem, encSt, encMsg, Try.f27] <;> exact rfl))) | (apply w_condT; (next => (simp (config := { maxSteps := 2000000 }) (disch := omega) only [go_sem, encSt, encMsg] <;> done))) | (apply w_condF; (next => (simp (config := { maxSteps := 2000000 }) (disch := omega) only [go_sem, encSt, encMsg] <;> done))) | refine w_round ?_ | (apply w_gF (hg := rfl); (next => (simp (config := { maxSteps := 2000000 }) (disch := omega) only [go_sem, encSt, encMsg] <;> exact rfl)); (next => (simp (config := { maxSteps := 2000000 }) (disch := omega) only [go_sem, encSt, encMsg] <;> exact rfl)); (next => (simp (config := { maxSteps := 2000000 }) (disch := omega) only [go_sem, encSt, encMsg] <;> exact rfl))) | (apply w_pick (hop := rfl) (hg := rfl); (next => (simp (config := { maxSteps := 2000000 }) (disch := omega) only [go_sem, encSt, encMsg] <;> exact rfl)); (next => (simp (config := { maxSteps := 2000000 }) (disch := omega) only [go_sem, encSt, encMsg] <;> exact rfl)); (next => (simp (config := { maxSteps := 2000000 }) (disch := omega) only [go_sem, encSt, encMsg] <;> exact rfl)); (next => (simp (config := { maxSteps := 2000000 }) (disch := omega) only [go_sem, encSt, encMsg] <;> exact rfl))) | (apply w_gT (hop := rfl) (hg := rfl); (next => (simp (config := { maxSteps := 2000000 }) (disch := omega) only [go_sem, encSt, encMsg] <;> exact rfl)); (next => (simp (config := { maxSteps := 2000000 }) (disch := omega) only [go_sem, encSt, encMsg] <;> exact rfl)); (next => (simp (config := { maxSteps := 2000000 }) (disch := omega) only [go_sem, encSt, encMsg] <;> exact rfl))))
  refine w_rounds 4 ?_
  repeat (first | refine aw_seq ?_ | (apply w_region (by rfl); (next => (simp (config := { maxSteps := 2000000 }) (disch := omega) only [go_sem, encSt, encMsg] <;> exact rfl))) | (apply w_draw (by kernel_rfl) (by kernel_rfl) (by rfl); (case hr => (repeat (apply d_run; (next => (simp (config := { maxSteps := 2000000 }) (disch := omega) only [go_sem, encSt, encMsg] <;> exact rfl)); first | exact d_nil))); (case hdyn => (simp (config := { maxSteps := 2000000 }) (disch := omega) only [go_sem, encSt, encMsg] <;> kernel_rfl))) | refine w_nil ?_ | refine w_hold ?_ | refine w_hold2 ?_ | refine w_then ?_ | refine w_thenR ?_ | refine w_thenE ?_ | refine w_blockN ?_ | refine w_blockR ?_ | refine w_blockE ?_ | refine w_blockO (by decide) ?_ | refine aw_skip ?_ | refine aw_ret ?_ | refine aw_exit ?_ | refine aw_block ?_ | (apply w_end; (next => (simp (config := { maxSteps := 2000000 }) (disch := omega) only [go_sem, encSt, encMsg, Try.f27] <;> exact rfl))) | (apply w_endN; (next => (simp (config := { maxSteps := 2000000 }) (disch := omega) only [go_sem, encSt, encMsg, Try.f27] <;> exact rfl))) | (apply w_condT; (next => (simp (config := { maxSteps := 2000000 }) (disch := omega) only [go_sem, encSt, encMsg] <;> done))) | (apply w_condF; (next => (simp (config := { maxSteps := 2000000 }) (disch := omega) only [go_sem, encSt, encMsg] <;> done))) | refine w_round ?_ | (apply w_gF (hg := rfl); (next => (simp (config := { maxSteps := 2000000 }) (disch := omega) only [go_sem, encSt, encMsg] <;> exact rfl)); (next => (simp (config := { maxSteps := 2000000 }) (disch := omega) only [go_sem, encSt, encMsg] <;> exact rfl)); (next => (simp (config := { maxSteps := 2000000 }) (disch := omega) only [go_sem, encSt, encMsg] <;> exact rfl))) | (apply w_pick (hop := rfl) (hg := rfl); (next => (simp (config := { maxSteps := 2000000 }) (disch := omega) only [go_sem, encSt, encMsg] <;> exact rfl)); (next => (simp (config := { maxSteps := 2000000 }) (disch := omega) only [go_sem, encSt, encMsg] <;> exact rfl)); (next => (simp (config := { maxSteps := 2000000 }) (disch := omega) only [go_sem, encSt, encMsg] <;> exact rfl)); (next => (simp (config := { maxSteps := 2000000 }) (disch := omega) only [go_sem, encSt, encMsg] <;> exact rfl))) | (apply w_gT (hop := rfl) (hg := rfl); (next => (simp (config := { maxSteps := 2000000 }) (disch := omega) only [go_sem, encSt, encMsg] <;> exact rfl)); (next => (simp (config := { maxSteps := 2000000 }) (disch := omega) only [go_sem, encSt, encMsg] <;> exact rfl)); (next => (simp (config := { maxSteps := 2000000 }) (disch := omega) only [go_sem, encSt, encMsg] <;> exact rfl))))
  simp (config := { maxSteps := 2000000 }) (disch := omega) only [go_sem, encSt, encMsg]
  refine wk_agg ?_
  iterate 12 refine wks_cons (.refl _) ?_
  refine wks_cons .nil (wks_cons .nil (wks_cons (.refl _) ?_))
  exact (show tailSt (fun _ => 0) true = _ by kernel_rfl) ▸ wks_refl _

theorem request_p (st : St) (m : Msg) (hs : st.sent.length ≤ 1000) (hf : st.flight.length ≤ 1000) : PCall Try.prog 30 [.agg (encSt st), .agg (encMsg m)] (· = .agg (encSt (st.request m))) := by
  refine pcall Try.func30 rfl (by kernel_rfl) (by simp [Try.ntmps30]) ?_
  rw [Try.ntmps30]
  repeat (first | refine aw_seq ?_ | (apply w_region (by rfl); (next => (simp (config := { maxSteps := 2000000 }) (disch := omega) only [go_sem, encSt, encMsg] <;> exact rfl))) | (apply w_draw (by kernel_rfl) (by kernel_rfl) (by rfl); (case hr => (repeat (apply d_run; (next => (simp (config := { maxSteps := 2000000 }) (disch := omega) only [go_sem, encSt, encMsg] <;> exact rfl)); first | exact d_nil))); (case hdyn => (simp (config := { maxSteps := 2000000 }) (disch := omega) only [go_sem, encSt, encMsg] <;> kernel_rfl))) | refine w_nil ?_ | refine w_hold ?_ | refine w_hold2 ?_ | refine w_then ?_ | refine w_thenR ?_ | refine w_thenE ?_ | refine w_blockN ?_ | refine w_blockR ?_ | refine w_blockE ?_ | refine w_blockO (by decide) ?_ | refine aw_skip ?_ | refine aw_ret ?_ | refine aw_exit ?_ | refine aw_block ?_ | (apply w_end; (next => (simp (config := { maxSteps := 2000000 }) (disch := omega) only [go_sem, encSt, encMsg, Try.f30] <;> exact rfl))) | (apply w_endN; (next => (simp (config := { maxSteps := 2000000 }) (disch := omega) only [go_sem, encSt, encMsg, Try.f30] <;> exact rfl))) | (apply w_condT; (next => (simp (config := { maxSteps := 2000000 }) (disch := omega) only [go_sem, encSt, encMsg] <;> done))) | (apply w_condF; (next => (simp (config := { maxSteps := 2000000 }) (disch := omega) only [go_sem, encSt, encMsg] <;> done))) | refine w_round ?_ | (apply w_gF (hg := rfl); (next => (simp (config := { maxSteps := 2000000 }) (disch := omega) only [go_sem, encSt, encMsg] <;> exact rfl)); (next => (simp (config := { maxSteps := 2000000 }) (disch := omega) only [go_sem, encSt, encMsg] <;> exact rfl)); (next => (simp (config := { maxSteps := 2000000 }) (disch := omega) only [go_sem, encSt, encMsg] <;> exact rfl))) | (apply w_pick (hop := rfl) (hg := rfl); (next => (simp (config := { maxSteps := 2000000 }) (disch := omega) only [go_sem, encSt, encMsg] <;> exact rfl)); (next => (simp (config := { maxSteps := 2000000 }) (disch := omega) only [go_sem, encSt, encMsg] <;> exact rfl)); (next => (simp (config := { maxSteps := 2000000 }) (disch := omega) only [go_sem, encSt, encMsg] <;> exact rfl)); (next => (simp (config := { maxSteps := 2000000 }) (disch := omega) only [go_sem, encSt, encMsg] <;> exact rfl))) | (apply w_gT (hop := rfl) (hg := rfl); (next => (simp (config := { maxSteps := 2000000 }) (disch := omega) only [go_sem, encSt, encMsg] <;> exact rfl)); (next => (simp (config := { maxSteps := 2000000 }) (disch := omega) only [go_sem, encSt, encMsg] <;> exact rfl)); (next => (simp (config := { maxSteps := 2000000 }) (disch := omega) only [go_sem, encSt, encMsg] <;> exact rfl))))
  simp (config := { maxSteps := 2000000 }) (disch := omega) only [go_sem, encSt, encMsg, encSt, St.request]


def St.okAt (st : St) (k : Nat) : Bool := st.H == k && decide ((st.l k).e ≤ st.E) && decide (st.now < st.U)
def St.nH (st : St) : Int := (if st.holds 0 = true then 1 else 0) + ((if st.holds 1 = true then 1 else 0) + (if st.holds 2 = true then 1 else 0))
def St.okH (st : St) : Bool := (!st.holds 0 || st.okAt 0) && (!st.holds 1 || st.okAt 1) && (!st.holds 2 || st.okAt 2)

theorem holders_p (st : St) : PCall Try.prog 29 [.agg (encSt st)] (· = .tup [iV st.nH, .c (.bool st.okH)]) := by
  refine pcall Try.func29 rfl (by kernel_rfl) (by simp [Try.ntmps29]) ?_
  rw [Try.ntmps29]
  cases h0 : (formedB 0 (st.l 0).e (st.l 0).u && decide (st.now < (st.l 0).u)) <;> cases h1 : (formedB 1 (st.l 1).e (st.l 1).u && decide (st.now < (st.l 1).u)) <;> cases h2 : (formedB 2 (st.l 2).e (st.l 2).u && decide (st.now < (st.l 2).u))
  all_goals
    have k0 : st.holds 0 = _ := h0
    have k1 : st.holds 1 = _ := h1
    have k2 : st.holds 2 = _ := h2
    repeat (first | refine aw_seq ?_ | (apply w_region (by rfl); (next => (simp (config := { maxSteps := 2000000 }) (disch := omega) only [go_sem, encSt, encMsg, h0, h1, h2] <;> exact rfl))) | (apply w_draw (by kernel_rfl) (by kernel_rfl) (by rfl); (case hr => (repeat (apply d_run; (next => (simp (config := { maxSteps := 2000000 }) (disch := omega) only [go_sem, encSt, encMsg, h0, h1, h2] <;> exact rfl)); first | exact d_nil | (apply d_callP (hop := rfl) (hg := rfl) (hp := (holds_p _ _ _ _)); (next => (simp (config := { maxSteps := 2000000 }) (disch := omega) only [go_sem, encSt, encMsg, h0, h1, h2] <;> exact rfl)); (next => (simp [noId_c, noId_agg, noId_snap, noId_tup,msg_noId,st_noId,encMsg,encSt,msgs_noId',ints_noId',tail_noId']; done))) | (apply d_callG (hop := rfl) (hg := rfl) (hp := (holds_p _ _ _ _)); (next => (simp (config := { maxSteps := 2000000 }) (disch := omega) only [go_sem, encSt, encMsg, h0, h1, h2] <;> exact rfl)); (next => (simp (config := { maxSteps := 2000000 }) (disch := omega) only [go_sem, encSt, encMsg, h0, h1, h2] <;> exact rfl)); (next => (simp [noId_c, noId_agg, noId_snap, noId_tup,msg_noId,st_noId,encMsg,encSt,msgs_noId',ints_noId',tail_noId']; done)))))); (case hdyn => (simp (config := { maxSteps := 2000000 }) (disch := omega) only [go_sem, encSt, encMsg, h0, h1, h2] <;> kernel_rfl))) | refine w_nil ?_ | refine w_hold ?_ | refine w_hold2 ?_ | refine w_then ?_ | refine w_thenR ?_ | refine w_thenE ?_ | refine w_blockN ?_ | refine w_blockR ?_ | refine w_blockE ?_ | refine w_blockO (by decide) ?_ | refine aw_skip ?_ | refine aw_ret ?_ | refine aw_exit ?_ | refine aw_block ?_ | (apply w_end; (next => (simp (config := { maxSteps := 2000000 }) (disch := omega) only [go_sem, encSt, encMsg, h0, h1, h2, Try.f29] <;> exact rfl))) | (apply w_endN; (next => (simp (config := { maxSteps := 2000000 }) (disch := omega) only [go_sem, encSt, encMsg, h0, h1, h2, Try.f29] <;> exact rfl))) | (apply w_condT; (next => (simp (config := { maxSteps := 2000000 }) (disch := omega) only [go_sem, encSt, encMsg, h0, h1, h2] <;> done))) | (apply w_condF; (next => (simp (config := { maxSteps := 2000000 }) (disch := omega) only [go_sem, encSt, encMsg, h0, h1, h2] <;> done))) | refine w_round ?_ | (apply w_callP (hop := rfl) (hg := rfl) (hp := (holds_p _ _ _ _)); (next => (simp (config := { maxSteps := 2000000 }) (disch := omega) only [go_sem, encSt, encMsg, h0, h1, h2] <;> exact rfl)); (next => (simp [noId_c, noId_agg, noId_snap, noId_tup,msg_noId,st_noId,encMsg,encSt,msgs_noId',ints_noId',tail_noId']; done)); (next => (simp (config := { maxSteps := 2000000 }) (disch := omega) only [go_sem, encSt, encMsg, h0, h1, h2] <;> exact rfl))) | (apply w_callX (hop := rfl) (hg := rfl) (hp := (holds_p _ _ _ _)); (next => (simp (config := { maxSteps := 2000000 }) (disch := omega) only [go_sem, encSt, encMsg, h0, h1, h2] <;> exact rfl)); (next => (simp (config := { maxSteps := 2000000 }) (disch := omega) only [go_sem, encSt, encMsg, h0, h1, h2] <;> exact rfl)); (next => (simp [noId_c, noId_agg, noId_snap, noId_tup,msg_noId,st_noId,encMsg,encSt,msgs_noId',ints_noId',tail_noId']; done)); (next => (simp (config := { maxSteps := 2000000 }) (disch := omega) only [go_sem, encSt, encMsg, h0, h1, h2] <;> exact rfl)); (next => (simp (config := { maxSteps := 2000000 }) (disch := omega) only [go_sem, encSt, encMsg, h0, h1, h2] <;> exact rfl))) | (apply w_callXG (hop := rfl) (hg := rfl) (hp := (holds_p _ _ _ _)); (next => (simp (config := { maxSteps := 2000000 }) (disch := omega) only [go_sem, encSt, encMsg, h0, h1, h2] <;> done)); (next => (simp (config := { maxSteps := 2000000 }) (disch := omega) only [go_sem, encSt, encMsg, h0, h1, h2] <;> exact rfl)); (next => (simp (config := { maxSteps := 2000000 }) (disch := omega) only [go_sem, encSt, encMsg, h0, h1, h2] <;> exact rfl)); (next => (simp [noId_c, noId_agg, noId_snap, noId_tup,msg_noId,st_noId,encMsg,encSt,msgs_noId',ints_noId',tail_noId']; done)); (next => (simp (config := { maxSteps := 2000000 }) (disch := omega) only [go_sem, encSt, encMsg, h0, h1, h2] <;> exact rfl)); (next => (simp (config := { maxSteps := 2000000 }) (disch := omega) only [go_sem, encSt, encMsg, h0, h1, h2] <;> exact rfl))) | (apply w_callG (hop := rfl) (hg := rfl) (hp := (holds_p _ _ _ _)); (next => (simp (config := { maxSteps := 2000000 }) (disch := omega) only [go_sem, encSt, encMsg, h0, h1, h2] <;> exact rfl)); (next => (simp (config := { maxSteps := 2000000 }) (disch := omega) only [go_sem, encSt, encMsg, h0, h1, h2] <;> exact rfl)); (next => (simp [noId_c, noId_agg, noId_snap, noId_tup,msg_noId,st_noId,encMsg,encSt,msgs_noId',ints_noId',tail_noId']; done)); (next => (simp (config := { maxSteps := 2000000 }) (disch := omega) only [go_sem, encSt, encMsg, h0, h1, h2] <;> exact rfl))) | (apply w_gF (hg := rfl); (next => (simp (config := { maxSteps := 2000000 }) (disch := omega) only [go_sem, encSt, encMsg, h0, h1, h2] <;> exact rfl)); (next => (simp (config := { maxSteps := 2000000 }) (disch := omega) only [go_sem, encSt, encMsg, h0, h1, h2] <;> exact rfl)); (next => (simp (config := { maxSteps := 2000000 }) (disch := omega) only [go_sem, encSt, encMsg, h0, h1, h2] <;> exact rfl))) | (apply w_pick (hop := rfl) (hg := rfl); (next => (simp (config := { maxSteps := 2000000 }) (disch := omega) only [go_sem, encSt, encMsg, h0, h1, h2] <;> exact rfl)); (next => (simp (config := { maxSteps := 2000000 }) (disch := omega) only [go_sem, encSt, encMsg, h0, h1, h2] <;> exact rfl)); (next => (simp (config := { maxSteps := 2000000 }) (disch := omega) only [go_sem, encSt, encMsg, h0, h1, h2] <;> exact rfl)); (next => (simp (config := { maxSteps := 2000000 }) (disch := omega) only [go_sem, encSt, encMsg, h0, h1, h2] <;> exact rfl))) | (apply w_gT (hop := rfl) (hg := rfl); (next => (simp (config := { maxSteps := 2000000 }) (disch := omega) only [go_sem, encSt, encMsg, h0, h1, h2] <;> exact rfl)); (next => (simp (config := { maxSteps := 2000000 }) (disch := omega) only [go_sem, encSt, encMsg, h0, h1, h2] <;> exact rfl)); (next => (simp (config := { maxSteps := 2000000 }) (disch := omega) only [go_sem, encSt, encMsg, h0, h1, h2] <;> exact rfl))))
    refine w_rounds 4 ?_
    repeat (first | refine aw_seq ?_ | (apply w_region (by rfl); (next => (simp (config := { maxSteps := 2000000 }) (disch := omega) only [go_sem, encSt, encMsg, h0, h1, h2] <;> exact rfl))) | (apply w_draw (by kernel_rfl) (by kernel_rfl) (by rfl); (case hr => (repeat (apply d_run; (next => (simp (config := { maxSteps := 2000000 }) (disch := omega) only [go_sem, encSt, encMsg, h0, h1, h2] <;> exact rfl)); first | exact d_nil | (apply d_callP (hop := rfl) (hg := rfl) (hp := (holds_p _ _ _ _)); (next => (simp (config := { maxSteps := 2000000 }) (disch := omega) only [go_sem, encSt, encMsg, h0, h1, h2] <;> exact rfl)); (next => (simp [noId_c, noId_agg, noId_snap, noId_tup,msg_noId,st_noId,encMsg,encSt,msgs_noId',ints_noId',tail_noId']; done))) | (apply d_callG (hop := rfl) (hg := rfl) (hp := (holds_p _ _ _ _)); (next => (simp (config := { maxSteps := 2000000 }) (disch := omega) only [go_sem, encSt, encMsg, h0, h1, h2] <;> exact rfl)); (next => (simp (config := { maxSteps := 2000000 }) (disch := omega) only [go_sem, encSt, encMsg, h0, h1, h2] <;> exact rfl)); (next => (simp [noId_c, noId_agg, noId_snap, noId_tup,msg_noId,st_noId,encMsg,encSt,msgs_noId',ints_noId',tail_noId']; done)))))); (case hdyn => (simp (config := { maxSteps := 2000000 }) (disch := omega) only [go_sem, encSt, encMsg, h0, h1, h2] <;> kernel_rfl))) | refine w_nil ?_ | refine w_hold ?_ | refine w_hold2 ?_ | refine w_then ?_ | refine w_thenR ?_ | refine w_thenE ?_ | refine w_blockN ?_ | refine w_blockR ?_ | refine w_blockE ?_ | refine w_blockO (by decide) ?_ | refine aw_skip ?_ | refine aw_ret ?_ | refine aw_exit ?_ | refine aw_block ?_ | (apply w_end; (next => (simp (config := { maxSteps := 2000000 }) (disch := omega) only [go_sem, encSt, encMsg, h0, h1, h2, Try.f29] <;> exact rfl))) | (apply w_endN; (next => (simp (config := { maxSteps := 2000000 }) (disch := omega) only [go_sem, encSt, encMsg, h0, h1, h2, Try.f29] <;> exact rfl))) | (apply w_condT; (next => (simp (config := { maxSteps := 2000000 }) (disch := omega) only [go_sem, encSt, encMsg, h0, h1, h2] <;> done))) | (apply w_condF; (next => (simp (config := { maxSteps := 2000000 }) (disch := omega) only [go_sem, encSt, encMsg, h0, h1, h2] <;> done))) | refine w_round ?_ | (apply w_callP (hop := rfl) (hg := rfl) (hp := (holds_p _ _ _ _)); (next => (simp (config := { maxSteps := 2000000 }) (disch := omega) only [go_sem, encSt, encMsg, h0, h1, h2] <;> exact rfl)); (next => (simp [noId_c, noId_agg, noId_snap, noId_tup,msg_noId,st_noId,encMsg,encSt,msgs_noId',ints_noId',tail_noId']; done)); (next => (simp (config := { maxSteps := 2000000 }) (disch := omega) only [go_sem, encSt, encMsg, h0, h1, h2] <;> exact rfl))) | (apply w_callX (hop := rfl) (hg := rfl) (hp := (holds_p _ _ _ _)); (next => (simp (config := { maxSteps := 2000000 }) (disch := omega) only [go_sem, encSt, encMsg, h0, h1, h2] <;> exact rfl)); (next => (simp (config := { maxSteps := 2000000 }) (disch := omega) only [go_sem, encSt, encMsg, h0, h1, h2] <;> exact rfl)); (next => (simp [noId_c, noId_agg, noId_snap, noId_tup,msg_noId,st_noId,encMsg,encSt,msgs_noId',ints_noId',tail_noId']; done)); (next => (simp (config := { maxSteps := 2000000 }) (disch := omega) only [go_sem, encSt, encMsg, h0, h1, h2] <;> exact rfl)); (next => (simp (config := { maxSteps := 2000000 }) (disch := omega) only [go_sem, encSt, encMsg, h0, h1, h2] <;> exact rfl))) | (apply w_callXG (hop := rfl) (hg := rfl) (hp := (holds_p _ _ _ _)); (next => (simp (config := { maxSteps := 2000000 }) (disch := omega) only [go_sem, encSt, encMsg, h0, h1, h2] <;> done)); (next => (simp (config := { maxSteps := 2000000 }) (disch := omega) only [go_sem, encSt, encMsg, h0, h1, h2] <;> exact rfl)); (next => (simp (config := { maxSteps := 2000000 }) (disch := omega) only [go_sem, encSt, encMsg, h0, h1, h2] <;> exact rfl)); (next => (simp [noId_c, noId_agg, noId_snap, noId_tup,msg_noId,st_noId,encMsg,encSt,msgs_noId',ints_noId',tail_noId']; done)); (next => (simp (config := { maxSteps := 2000000 }) (disch := omega) only [go_sem, encSt, encMsg, h0, h1, h2] <;> exact rfl)); (next => (simp (config := { maxSteps := 2000000 }) (disch := omega) only [go_sem, encSt, encMsg, h0, h1, h2] <;> exact rfl))) | (apply w_callG (hop := rfl) (hg := rfl) (hp := (holds_p _ _ _ _)); (next => (simp (config := { maxSteps := 2000000 }) (disch := omega) only [go_sem, encSt, encMsg, h0, h1, h2] <;> exact rfl)); (next => (simp (config := { maxSteps := 2000000 }) (disch := omega) only [go_sem, encSt, encMsg, h0, h1, h2] <;> exact rfl)); (next => (simp [noId_c, noId_agg, noId_snap, noId_tup,msg_noId,st_noId,encMsg,encSt,msgs_noId',ints_noId',tail_noId']; done)); (next => (simp (config := { maxSteps := 2000000 }) (disch := omega) only [go_sem, encSt, encMsg, h0, h1, h2] <;> exact rfl))) | (apply w_gF (hg := rfl); (next => (simp (config := { maxSteps := 2000000 }) (disch := omega) only [go_sem, encSt, encMsg, h0, h1, h2] <;> exact rfl)); (next => (simp (config := { maxSteps := 2000000 }) (disch := omega) only [go_sem, encSt, encMsg, h0, h1, h2] <;> exact rfl)); (next => (simp (config := { maxSteps := 2000000 }) (disch := omega) only [go_sem, encSt, encMsg, h0, h1, h2] <;> exact rfl))) | (apply w_pick (hop := rfl) (hg := rfl); (next => (simp (config := { maxSteps := 2000000 }) (disch := omega) only [go_sem, encSt, encMsg, h0, h1, h2] <;> exact rfl)); (next => (simp (config := { maxSteps := 2000000 }) (disch := omega) only [go_sem, encSt, encMsg, h0, h1, h2] <;> exact rfl)); (next => (simp (config := { maxSteps := 2000000 }) (disch := omega) only [go_sem, encSt, encMsg, h0, h1, h2] <;> exact rfl)); (next => (simp (config := { maxSteps := 2000000 }) (disch := omega) only [go_sem, encSt, encMsg, h0, h1, h2] <;> exact rfl))) | (apply w_gT (hop := rfl) (hg := rfl); (next => (simp (config := { maxSteps := 2000000 }) (disch := omega) only [go_sem, encSt, encMsg, h0, h1, h2] <;> exact rfl)); (next => (simp (config := { maxSteps := 2000000 }) (disch := omega) only [go_sem, encSt, encMsg, h0, h1, h2] <;> exact rfl)); (next => (simp (config := { maxSteps := 2000000 }) (disch := omega) only [go_sem, encSt, encMsg, h0, h1, h2] <;> exact rfl))))
    simp (config := { maxSteps := 2000000 }) (disch := omega) only [go_sem, encSt, encMsg]
    simp [St.nH, St.okH, St.okAt, k0, k1, k2, Bool.and_assoc]

end Go.Proofs.Ytelkpeoilneikaa
