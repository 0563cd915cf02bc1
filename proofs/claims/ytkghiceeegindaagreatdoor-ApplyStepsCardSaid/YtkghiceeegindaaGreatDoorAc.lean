/- Apply: contracts of its functions. No condition but those named. -/
import Derived.Test.YtkghiceeegindaaGreatDoorAb
import Derived.Laws.BitsLemmas
/- Copies of a superblock, in the reference; generations. -/
namespace Go.Proofs.YtkghiceeegindaaGreatDoor
open Go.Proofs Go.AL
set_option maxRecDepth 100000
set_option maxHeartbeats 1000000
set_option linter.unusedVariables false
set_option linter.unusedSimpArgs false
attribute [local irreducible] endA AW aops thenA blockA hold

def ByteOK (x : Int) : Prop := 0 ≤ x ∧ x < 256
def GenOK (s : Sec) : Prop := ByteOK s.1.1 ∧ ByteOK s.1.2.1 ∧ ByteOK s.1.2.2.1 ∧ ByteOK s.1.2.2.2
/-- The generation of a sector. -/
def genS (s : Sec) : Int := s.1.1 + 256 * s.1.2.1 + 65536 * s.1.2.2.1 + 16777216 * s.1.2.2.2
theorem bits64 {i : Nat} {x y : Int} (h0 : 0 ≤ x) (hx : x % 2 ^ i = 0) (h1 : x < 4294967296) (h2 : 0 ≤ y) (h3 : y < 2 ^ i) (h4 : y < 4294967296) : bits .or .i64 x y = x + y :=
  bits_join .i64 32 (by decide) (fun n a b => IntWalk.i64_in _ (by have : (2 : Int) ^ 32 = 4294967296 := by decide
                                                                   omega)) i x y h0 hx (by have : (2 : Int) ^ 32 = 4294967296 := by decide
                                                                                           omega) h2 h3 (by have : (2 : Int) ^ 32 = 4294967296 := by decide
                                                                                                            omega)
theorem or_comm' (k : IntKind) (x y : Int) : bits .or k x y = bits .or k y x := by
  simp only [bits, BitVec.or_comm]
theorem bits32 {i : Nat} {x y : Int} (h0 : 0 ≤ x) (hx : x % 2 ^ i = 0) (h1 : x < 4294967296) (h2 : 0 ≤ y) (h3 : y < 2 ^ i) (h4 : y < 4294967296) : bits .or .u32 y x = y + x := by
  have e : (2 : Int) ^ 32 = 4294967296 := by decide
  rw [or_comm', bits_join .u32 32 (by decide) (fun n a b => by rw [IntKind.wrap_u32]; omega) i x y h0 hx (by omega) h2 h3 (by omega), Int.add_comm]
theorem generation_p (s : Sec) (h : GenOK s) : PC 155 [.agg (encSec s)] (zV (genS s)) := by
  refine pstart Tryz.func155 Tryz.ntmps155 (.c _) ?_
  obtain ⟨⟨a, b, c, d⟩, x1, x2, x3, x4⟩ := s
  have hs : encSec ((a, b, c, d), x1, x2, x3, x4) = [uV a, uV b, uV c, uV d, uV x1, uV x2, uV x3, uV x4] := rfl
  obtain ⟨⟨a0, a1⟩, ⟨b0, b1⟩, ⟨c0, c1⟩, ⟨d0, d1⟩⟩ := h
  simp only [] at a0 a1 b0 b1 c0 c1 d0 d1
  have p8 : (2 : Int) ^ 8 = 256 := by decide
  have pm : (2 : Int) ^ min 8 64 = 256 := by decide
  have e1 : bits .or .i64 (0 * 2 ^ min 8 64) d = d := by
    rw [bits64 (i := 8) (by omega) (by omega) (by omega) d0 (by omega) (by omega)]; omega
  have e2 : IntKind.i64.wrap (d * 2 ^ min 8 64) = d * 256 := by rw [pm]; exact IntWalk.i64_in _ (by omega)
  have e3 : bits .or .i64 (d * 256) c = d * 256 + c := bits64 (i := 8) (by omega) (by omega) (by omega) c0 (by omega) (by omega)
  have e4 : IntKind.i64.wrap ((d * 256 + c) * 2 ^ min 8 64) = (d * 256 + c) * 256 := by rw [pm]; exact IntWalk.i64_in _ (by omega)
  have e5 : bits .or .i64 ((d * 256 + c) * 256) b = (d * 256 + c) * 256 + b := bits64 (i := 8) (by omega) (by omega) (by omega) b0 (by omega) (by omega)
  have e6 : IntKind.i64.wrap (((d * 256 + c) * 256 + b) * 2 ^ min 8 64) = ((d * 256 + c) * 256 + b) * 256 := by rw [pm]; exact IntWalk.i64_in _ (by omega)
  have e7 : bits .or .i64 (((d * 256 + c) * 256 + b) * 256) a = genS ((a, b, c, d), x1, x2, x3, x4) := by
    rw [bits64 (i := 8) (by omega) (by omega) (by omega) a0 (by omega) (by omega)]
    simp only [genS]; omega
  clear p8 pm
  refine zgo ?_
  refine w_rounds 5 ?_
  refine w_round ?_
  refine zgo ?_
  exact zfin
theorem rgen_p (s : Sec) (h : GenOK s) : PC 156 [.agg (encSec s)] (.c (.int .u32 (genS s))) := by
  refine pstart Tryz.func156 Tryz.ntmps156 (.c _) ?_
  obtain ⟨⟨a, b, c, d⟩, x1, x2, x3, x4⟩ := s
  have hs : encSec ((a, b, c, d), x1, x2, x3, x4) = [uV a, uV b, uV c, uV d, uV x1, uV x2, uV x3, uV x4] := rfl
  obtain ⟨⟨a0, a1⟩, ⟨b0, b1⟩, ⟨c0, c1⟩, ⟨d0, d1⟩⟩ := h
  simp only [] at a0 a1 b0 b1 c0 c1 d0 d1
  have p8 : (2 : Int) ^ 8 = 256 := by decide
  have p16 : (2 : Int) ^ 16 = 65536 := by decide
  have p24 : (2 : Int) ^ 24 = 16777216 := by decide
  have m8 : (2 : Int) ^ min 8 32 = 256 := by decide
  have m16 : (2 : Int) ^ min 16 32 = 65536 := by decide
  have m24 : (2 : Int) ^ min 24 32 = 16777216 := by decide
  have wa : IntKind.u32.wrap a = a := by rw [IntKind.wrap_u32]; omega
  have wb : IntKind.u32.wrap b = b := by rw [IntKind.wrap_u32]; omega
  have wc : IntKind.u32.wrap c = c := by rw [IntKind.wrap_u32]; omega
  have wd : IntKind.u32.wrap d = d := by rw [IntKind.wrap_u32]; omega
  have e1 : IntKind.u32.wrap (b * 2 ^ min 8 32) = b * 256 := by rw [m8, IntKind.wrap_u32]; omega
  have e2 : IntKind.u32.wrap (c * 2 ^ min 16 32) = c * 65536 := by rw [m16, IntKind.wrap_u32]; omega
  have e3 : IntKind.u32.wrap (d * 2 ^ min 24 32) = d * 16777216 := by rw [m24, IntKind.wrap_u32]; omega
  have e4 : bits .or .u32 a (b * 256) = a + b * 256 := bits32 (i := 8) (by omega) (by omega) (by omega) a0 (by omega) (by omega)
  have e5 : bits .or .u32 (a + b * 256) (c * 65536) = a + b * 256 + c * 65536 := bits32 (i := 16) (by omega) (by omega) (by omega) (by omega) (by omega) (by omega)
  have e6 : bits .or .u32 (a + b * 256 + c * 65536) (d * 16777216) = genS ((a, b, c, d), x1, x2, x3, x4) := by
    rw [bits32 (i := 24) (by omega) (by omega) (by omega) (by omega) (by omega) (by omega)]
    simp only [genS]; omega
  clear p8 p16 p24 m8 m16 m24
  refine zgo ?_
  exact zfin
end Go.Proofs.YtkghiceeegindaaGreatDoor

/- Copies of a superblock, in the reference. -/
namespace Go.Proofs.YtkghiceeegindaaGreatDoor
open Go.Proofs Go.AL
set_option maxRecDepth 100000
set_option maxHeartbeats 1000000
set_option linter.unusedVariables false
set_option linter.unusedSimpArgs false
attribute [local irreducible] endA AW aops thenA blockA hold

/-- The data after k bytes. -/
def cp (p : List Int) (k : Nat) : List Int := (p.length : Int) :: (p.take k ++ List.replicate (31 - k) 0)
theorem cp_set {p : List Int} {k : Nat} (h : k < p.length) (hp : p.length ≤ 31) : (cp p k).set (k + 1) (p.getD k 0) = cp p (k + 1) := by
  unfold cp
  have e : (p.take k).length = k := by rw [List.length_take]; omega
  rw [List.set_cons_succ, List.set_append_right _ _ (by omega), e, Nat.sub_self, List.take_succ_eq_append_getElem h, show 31 - k = (31 - (k + 1)) + 1 by omega, List.replicate_succ, List.set_cons_zero]
  simp only [List.getD_eq_getElem?_getD, List.getElem?_eq_getElem h, Option.getD_some, List.append_assoc, List.singleton_append]
theorem cp_len {p : List Int} {k : Nat} (h : k ≤ p.length) (hp : p.length ≤ 31) : (cp p k).length = 32 := by
  unfold cp; simp; omega
theorem cp_end {p : List Int} : cp p p.length = dat p := by unfold cp dat; rw [List.take_length]
def outV : Nat → Nat → AV
  | 0, _ => .c (.slice none 0 0)
  | k + 1, id => .own id 0 (k + 1)
def outT : Nat → Nat → List (List AV) → List (Nat × Option Blk)
  | 0, _, _ => []
  | k + 1, id, l => [(id, some (.cells 96 8 (l.take (k + 1)) true true))]
theorem rcopy_p (n : Int) (p : List Int) (hp : p.length ≤ 31) : PC 103 [.c (.int .u32 n), .snap (encL byteRow p)] (.snap (encL encSec (putS n p))) := by
  refine pstart Tryz.func103 Tryz.ntmps103 (encL_noId _) ?_
  have hg := gB p
  have hw : IntKind.u8.wrap (p.length : Int) = p.length := by rw [IntKind.wrap_u8]; omega
  have w0 : IntKind.u64.wrap 0 = 0 := by rfl
  have w8 : IntKind.u64.wrap 8 = 8 := by rfl
  have w16 : IntKind.u64.wrap 16 = 16 := by rfl
  have w24 : IntKind.u64.wrap 24 = 24 := by rfl
  have hz : encSec zSec = [uV 0, uV 0, uV 0, uV 0, uV 0, uV 0, uV 0, uV 0] := by rfl
  have hc0 : encL byteRow (cp p 0) = [[uV (p.length : Int)], [uV 0], [uV 0], [uV 0], [uV 0], [uV 0], [uV 0], [uV 0], [uV 0], [uV 0], [uV 0], [uV 0], [uV 0], [uV 0], [uV 0], [uV 0], [uV 0], [uV 0], [uV 0], [uV 0], [uV 0], [uV 0], [uV 0], [uV 0], [uV 0], [uV 0], [uV 0], [uV 0], [uV 0], [uV 0], [uV 0], [uV 0]] := by rfl
  refine zgo ?_
  refine zfor (α := Unit) p.length (fun k _ => [(6, true, zV k), (5, true, .own 0 0 32), (4, true, .c (.slice none 0 0)), (0, true, .c (.int .u32 n)), (1, true, .snap (encL byteRow p))]) (fun k _ => [(0, some (.cells 5 1 (encL byteRow (cp p k)) true true))]) (fun _ m _ => 2 ≤ m) ⟨2, (), Nat.le_refl _, ?_⟩ (fun k m _ hk hm => ?_) (fun m _ hm => ?_)
  · rw [hc0]
    exact zholds
  · have h1 := cp_set hk hp
    have h2 := cp_len (Nat.le_of_lt hk) hp
    have h3 := gB (cp p k)
    refine zgo ?_
    exact ⟨m + 1, (), by omega, zholds⟩
  · rw [cp_end]
    obtain ⟨d0, d1, d2, d3, d4, d5, d6, d7, d8, d9, d10, d11, d12, d13, d14, d15, d16, d17, d18, d19, d20, d21, d22, d23, d24, d25, d26, d27, d28, d29, d30, d31, hD⟩ := split32 (dat_len hp)
    have hP : encL encSec (putS n p) = [[.c (.int .u8 (IntKind.u8.wrap (n.fdiv (2 ^ min 0 32)))), .c (.int .u8 (IntKind.u8.wrap (n.fdiv (2 ^ min 8 32)))), .c (.int .u8 (IntKind.u8.wrap (n.fdiv (2 ^ min 16 32)))), .c (.int .u8 (IntKind.u8.wrap (n.fdiv (2 ^ min 24 32)))), uV d0, uV d1, uV d2, uV d3], [.c (.int .u8 (IntKind.u8.wrap (n.fdiv (2 ^ min 0 32)))), .c (.int .u8 (IntKind.u8.wrap (n.fdiv (2 ^ min 8 32)))), .c (.int .u8 (IntKind.u8.wrap (n.fdiv (2 ^ min 16 32)))), .c (.int .u8 (IntKind.u8.wrap (n.fdiv (2 ^ min 24 32)))), uV d4, uV d5, uV d6, uV d7], [.c (.int .u8 (IntKind.u8.wrap (n.fdiv (2 ^ min 0 32)))), .c (.int .u8 (IntKind.u8.wrap (n.fdiv (2 ^ min 8 32)))), .c (.int .u8 (IntKind.u8.wrap (n.fdiv (2 ^ min 16 32)))), .c (.int .u8 (IntKind.u8.wrap (n.fdiv (2 ^ min 24 32)))), uV d8, uV d9, uV d10, uV d11], [.c (.int .u8 (IntKind.u8.wrap (n.fdiv (2 ^ min 0 32)))), .c (.int .u8 (IntKind.u8.wrap (n.fdiv (2 ^ min 8 32)))), .c (.int .u8 (IntKind.u8.wrap (n.fdiv (2 ^ min 16 32)))), .c (.int .u8 (IntKind.u8.wrap (n.fdiv (2 ^ min 24 32)))), uV d12, uV d13, uV d14, uV d15], [.c (.int .u8 (IntKind.u8.wrap (n.fdiv (2 ^ min 0 32)))), .c (.int .u8 (IntKind.u8.wrap (n.fdiv (2 ^ min 8 32)))), .c (.int .u8 (IntKind.u8.wrap (n.fdiv (2 ^ min 16 32)))), .c (.int .u8 (IntKind.u8.wrap (n.fdiv (2 ^ min 24 32)))), uV d16, uV d17, uV d18, uV d19], [.c (.int .u8 (IntKind.u8.wrap (n.fdiv (2 ^ min 0 32)))), .c (.int .u8 (IntKind.u8.wrap (n.fdiv (2 ^ min 8 32)))), .c (.int .u8 (IntKind.u8.wrap (n.fdiv (2 ^ min 16 32)))), .c (.int .u8 (IntKind.u8.wrap (n.fdiv (2 ^ min 24 32)))), uV d20, uV d21, uV d22, uV d23], [.c (.int .u8 (IntKind.u8.wrap (n.fdiv (2 ^ min 0 32)))), .c (.int .u8 (IntKind.u8.wrap (n.fdiv (2 ^ min 8 32)))), .c (.int .u8 (IntKind.u8.wrap (n.fdiv (2 ^ min 16 32)))), .c (.int .u8 (IntKind.u8.wrap (n.fdiv (2 ^ min 24 32)))), uV d24, uV d25, uV d26, uV d27], [.c (.int .u8 (IntKind.u8.wrap (n.fdiv (2 ^ min 0 32)))), .c (.int .u8 (IntKind.u8.wrap (n.fdiv (2 ^ min 8 32)))), .c (.int .u8 (IntKind.u8.wrap (n.fdiv (2 ^ min 16 32)))), .c (.int .u8 (IntKind.u8.wrap (n.fdiv (2 ^ min 24 32)))), uV d28, uV d29, uV d30, uV d31]] := by
      unfold putS secOf gb
      rw [hD]
      rfl
    rw [hD]
    have hE : encL byteRow [d0, d1, d2, d3, d4, d5, d6, d7, d8, d9, d10, d11, d12, d13, d14, d15, d16, d17, d18, d19, d20, d21, d22, d23, d24, d25, d26, d27, d28, d29, d30, d31] = [[uV d0], [uV d1], [uV d2], [uV d3], [uV d4], [uV d5], [uV d6], [uV d7], [uV d8], [uV d9], [uV d10], [uV d11], [uV d12], [uV d13], [uV d14], [uV d15], [uV d16], [uV d17], [uV d18], [uV d19], [uV d20], [uV d21], [uV d22], [uV d23], [uV d24], [uV d25], [uV d26], [uV d27], [uV d28], [uV d29], [uV d30], [uV d31]] := rfl
    rw [hE]
    clear hE hD hc0
    refine zgo ?_
    refine zfor (α := Nat) 8 (fun k id => [(8, true, .c (.int .i64 (4 * (k : Int)))), (7, true, outV k id), (5, true, .own 0 0 32), (0, true, .c (.int .u32 n)), (1, true, .snap (encL byteRow p))]) (fun k id => (0, some (.cells 5 1 [[uV d0], [uV d1], [uV d2], [uV d3], [uV d4], [uV d5], [uV d6], [uV d7], [uV d8], [uV d9], [uV d10], [uV d11], [uV d12], [uV d13], [uV d14], [uV d15], [uV d16], [uV d17], [uV d18], [uV d19], [uV d20], [uV d21], [uV d22], [uV d23], [uV d24], [uV d25], [uV d26], [uV d27], [uV d28], [uV d29], [uV d30], [uV d31]] true true)) :: outT k id (encL encSec (putS n p))) (fun k m id => 2 ≤ m ∧ 0 < id ∧ id < m) ⟨m, 1, ?_, ?_⟩ (fun k m id hk hm => ?_) (fun m id hm => ?_)
    · exact ⟨hm, by omega, by omega⟩
    · simp only [outV, outT]
      exact zholds
    · rw [hP]
      obtain ⟨hm1, hm2, hm3⟩ := hm
      match k, hk with
      | 0, _ =>
        simp only [outV, outT, List.take]
        refine zgo ?_
        refine w_rounds 5 ?_
        refine w_round ?_
        refine zgo ?_
        refine ⟨m + 11, m + 10, ⟨by omega, by omega, by omega⟩, ?_⟩
        simp only [outV, outT, List.take]
        exact zholds
      | 1, _ =>
        simp only [outV, outT, List.take]
        refine zgo ?_
        refine w_rounds 5 ?_
        refine w_round ?_
        refine zgo ?_
        refine ⟨m + 11, m + 10, ⟨by omega, by omega, by omega⟩, ?_⟩
        simp only [outV, outT, List.take]
        exact zholds
      | 2, _ =>
        simp only [outV, outT, List.take]
        refine zgo ?_
        refine w_rounds 5 ?_
        refine w_round ?_
        refine zgo ?_
        refine ⟨m + 11, m + 10, ⟨by omega, by omega, by omega⟩, ?_⟩
        simp only [outV, outT, List.take]
        exact zholds
      | 3, _ =>
        simp only [outV, outT, List.take]
        refine zgo ?_
        refine w_rounds 5 ?_
        refine w_round ?_
        refine zgo ?_
        refine ⟨m + 11, m + 10, ⟨by omega, by omega, by omega⟩, ?_⟩
        simp only [outV, outT, List.take]
        exact zholds
      | 4, _ =>
        simp only [outV, outT, List.take]
        refine zgo ?_
        refine w_rounds 5 ?_
        refine w_round ?_
        refine zgo ?_
        refine ⟨m + 11, m + 10, ⟨by omega, by omega, by omega⟩, ?_⟩
        simp only [outV, outT, List.take]
        exact zholds
      | 5, _ =>
        simp only [outV, outT, List.take]
        refine zgo ?_
        refine w_rounds 5 ?_
        refine w_round ?_
        refine zgo ?_
        refine ⟨m + 11, m + 10, ⟨by omega, by omega, by omega⟩, ?_⟩
        simp only [outV, outT, List.take]
        exact zholds
      | 6, _ =>
        simp only [outV, outT, List.take]
        refine zgo ?_
        refine w_rounds 5 ?_
        refine w_round ?_
        refine zgo ?_
        refine ⟨m + 11, m + 10, ⟨by omega, by omega, by omega⟩, ?_⟩
        simp only [outV, outT, List.take]
        exact zholds
      | 7, _ =>
        simp only [outV, outT, List.take]
        refine zgo ?_
        refine w_rounds 5 ?_
        refine w_round ?_
        refine zgo ?_
        refine ⟨m + 11, m + 10, ⟨by omega, by omega, by omega⟩, ?_⟩
        simp only [outV, outT, List.take]
        exact zholds
    · simp only [outV, outT]
      rw [hP]
      obtain ⟨hm1, hm2, hm3⟩ := hm
      refine zgo ?_
      exact zfin
end Go.Proofs.YtkghiceeegindaaGreatDoor

/- Reading a copy, in the reference. -/
namespace Go.Proofs.YtkghiceeegindaaGreatDoor
open Go.Proofs Go.AL
set_option maxRecDepth 100000
set_option maxHeartbeats 1000000
set_option linter.unusedVariables false
set_option linter.unusedSimpArgs false
attribute [local irreducible] endA AW aops thenA blockA hold

theorem gS (l : List Sec) (k : Nat) (h : k < l.length) : (encL encSec l)[k]? = some (encSec (l.getD k zSec)) := encL_get zSec h
def d4 (s : Sec) : List Int := [s.2.1, s.2.2.1, s.2.2.2.1, s.2.2.2.2]
def dataS (l : List Sec) : List Int := l.flatMap d4
def SecOK (s : Sec) : Prop := GenOK s ∧ ∀ x ∈ d4 s, ByteOK x
@[go_sem] theorem sec_tail (s : Sec) : List.map (fun x => [x]) (List.take 4 (List.drop 4 (encSec s))) = encL byteRow (d4 s) := rfl
@[go_sem] theorem d4_len (s : Sec) : (d4 s).length = 4 := rfl
@[go_sem] theorem d4_ne (s : Sec) : (d4 s).isEmpty = false := rfl
theorem dataS_succ {l : List Sec} {k : Nat} (h : k < l.length) : encL byteRow (dataS (l.take k)) ++ encL byteRow (d4 (l.getD k zSec)) = encL byteRow (dataS (l.take (k + 1))) := by
  rw [List.take_succ_eq_append_getElem h]
  simp only [dataS, List.flatMap_append, List.flatMap_cons, List.flatMap_nil, List.append_nil, encL, List.map_append, List.getD_eq_getElem?_getD, List.getElem?_eq_getElem h, Option.getD_some]
theorem dataS_len : ∀ (l : List Sec), (dataS l).length = 4 * l.length
  | [] => rfl
  | s :: l => by
    have := dataS_len l
    simp only [dataS, List.flatMap_cons, List.length_append, List.length_cons] at this ⊢
    rw [this]; simp [d4]; omega
def oV : Nat → Nat → AV
  | 0, _ => .c (.slice none 0 0)
  | k + 1, id => .own id 0 (4 * (k + 1))
def oT : Nat → Nat → List Int → List (Nat × Option Blk)
  | 0, _, _ => []
  | k + 1, id, D => [(id, some (.cells 5 1 (encL byteRow D) true true))]
def sameG (l : List Sec) : Bool := l.all fun s => genS s == genS (l.getD 0 zSec)
/-- The payload and the generation of a copy. -/
def parseS (l : List Sec) : List Int × Int :=
  if sameG l = true then
    if 31 < (dataS l).getD 0 0 then ([], 0)
    else if ((dataS l).drop (((dataS l).getD 0 0).toNat + 1)).all (fun x => x == 0) = true then (((dataS l).drop 1).take ((dataS l).getD 0 0).toNat, genS (l.getD 0 zSec)) else ([], 0)
  else ([], 0)
theorem rcap_p : PC 102 [] (zV 31) := by
  refine pstart Tryz.func102 Tryz.ntmps102 (.c _) ?_
  refine zgo ?_
  exact zfin
theorem parse_p (l : List Sec) (hl : l.length = 8) (h : ∀ s ∈ l, SecOK s) : PC 143 [.snap (encL encSec l)] (.tup [.snap (encL byteRow (parseS l).1), .c (.int .u32 (parseS l).2)]) := by
  refine pstart Tryz.func143 Tryz.ntmps143 (by simp only [go_sem]) ?_
  have hg := gS l
  have c0 := rcap_p
  have c1 := rgen_p (l.getD 0 zSec) (h _ (getD_mem' zSec (by omega))).1
  refine zgo ?_
  refine zfor (α := Nat) 8 (fun k id => [(6, true, zV k), (5, true, oV k id), (4, true, .c (.int .u32 (genS (l.getD 0 zSec)))), (0, true, .snap (encL encSec l))]) (fun k id => oT k id (dataS (l.take k))) (fun k m id => (k = 0 ∨ id < m) ∧ ∀ i, i < k → genS (l.getD i zSec) = genS (l.getD 0 zSec)) ⟨0, 0, ⟨.inl rfl, fun i hi => by omega⟩, ?_⟩ (fun k m id hk hm => ?_) (fun m id hm => ?_)
  · simp only [oV, oT]
    exact zholds
  · have c2 := rgen_p (l.getD k zSec) (h _ (getD_mem' zSec (by omega))).1
    obtain ⟨hm1, hm2⟩ := hm
    have h5 := dataS_succ (l := l) (k := k) (by omega)
    by_cases g : genS (l.getD k zSec) = genS (l.getD 0 zSec)
    · have h6 : ∀ i, i < k + 1 → genS (l.getD i zSec) = genS (l.getD 0 zSec) := fun i hi => by
        by_cases hik : i = k
        · subst hik; exact g
        · exact hm2 i (by omega)
      clear hm2
      cases k with
      | zero =>
        simp only [oV, oT, List.take_zero] at h5 ⊢
        have h9 : encL byteRow (d4 (l.getD 0 zSec)) = encL byteRow (dataS (List.take (0 + 1) l)) := h5
        have h8 : (dataS (List.take 1 l)).length = 4 := by rw [dataS_len, List.length_take]; omega
        have h10 : (dataS (List.take 1 l)).isEmpty = false := by
          cases hx : dataS (List.take 1 l) with
          | nil => rw [hx] at h8; simp at h8
          | cons a b => rfl
        clear h5
        refine zgo ?_
        refine ⟨m + 1, m, ⟨by omega, h6⟩, ?_⟩
        simp only [oV, oT]
        exact zholds
      | succ k =>
        simp only [oV, oT] at h5 ⊢
        have hm3 : id < m := by omega
        have h8 : (dataS (List.take (k + 1) l)).length = 4 * (k + 1) := by rw [dataS_len, List.length_take]; omega
        refine zgo ?_
        refine ⟨m + 1, m, ⟨by omega, h6⟩, ?_⟩
        simp only [oV, oT]
        exact zholds
    · have h7 : sameG l = false := by
        unfold sameG
        rw [List.all_eq_false]
        exact ⟨_, getD_mem' zSec (by omega : k < l.length), by simpa using g⟩
      unfold parseS
      clear hm2
      refine zgo ?_
      exact zfin
  · simp only [oV, oT]
    rw [List.take_of_length_le (by omega : l.length ≤ 8)]
    obtain ⟨hm1, hm2⟩ := hm
    have hm3 : id < m := by omega
    have h6 : sameG l = true := by
      unfold sameG
      rw [List.all_eq_true]
      intro x hx
      obtain ⟨i, hi, rfl⟩ := List.mem_iff_getElem.1 hx
      have := hm2 i (by omega)
      rw [List.getD_eq_getElem?_getD, List.getElem?_eq_getElem hi] at this
      simpa using this
    have h7 : (dataS l).length = 32 := by rw [dataS_len, hl]
    have h8 : ∀ x ∈ dataS l, ByteOK x := fun x hx => by
      obtain ⟨s, hs, hx⟩ := List.mem_flatMap.1 hx
      exact (h s hs).2 x hx
    unfold parseS
    generalize hD : dataS l = D at *
    clear hm2
    have h9 := h8 _ (getD_mem' 0 (by omega : 0 < D.length))
    obtain ⟨n, hn⟩ := Int.eq_ofNat_of_zero_le h9.1
    have h10 : n < 256 := by have := h9.2; omega
    have hgD := gB D
    have hw : IntKind.i64.wrap (n : Int) = n := IntWalk.i64_in _ (by omega)
    clear h9 h8 h c1
    by_cases g1 : 31 < n
    · have g2 : (31 : Int) < (n : Int) := by omega
      refine zgo ?_
      exact zfin
    · have g2 : ¬ (31 : Int) < (n : Int) := by omega
      refine zgo ?_
      refine zfor (α := Unit) (31 - n) (fun j _ => [(8, true, .c (.int .i64 ((n + 1 + j : Nat) : Int))), (7, true, zV n), (5, true, .own id 0 32), (4, true, .c (.int .u32 (genS (l.getD 0 zSec)))), (0, true, .snap (encL encSec l))]) (fun j _ => [(id, some (.cells 5 1 (encL byteRow D) true true))]) (fun j m _ => id < m ∧ ∀ i, i < j → D.getD (n + 1 + i) 0 = 0) ⟨m, (), ⟨hm3, fun i hi => by omega⟩, zholds⟩ (fun j m _ hj hR => ?_) (fun m _ hR => ?_)
      · obtain ⟨hR1, hR2⟩ := hR
        by_cases g3 : D.getD (n + 1 + j) 0 = 0
        · have hR3 : ∀ i, i < j + 1 → D.getD (n + 1 + i) 0 = 0 := fun i hi => by
            by_cases hij : i = j
            · subst hij; exact g3
            · exact hR2 i (by omega)
          clear hR2
          refine zgo ?_
          exact ⟨m, (), ⟨hR1, hR3⟩, zholds⟩
        · have g4 : ((D.drop (n + 1)).all fun x => x == 0) = false := by
            rw [List.all_eq_false]
            refine ⟨D.getD (n + 1 + j) 0, ?_, by simpa using g3⟩
            have h11 : n + 1 + j < D.length := by omega
            rw [List.getD_eq_getElem?_getD, List.getElem?_eq_getElem h11, Option.getD_some]
            exact List.mem_drop_iff_getElem.2 ⟨j, by omega, rfl⟩
          clear hR2
          refine zgo ?_
          exact zfin
      · obtain ⟨hR1, hR2⟩ := hR
        have g4 : ((D.drop (n + 1)).all fun x => x == 0) = true := by
          rw [List.all_eq_true]
          intro x hx
          obtain ⟨j, hj, rfl⟩ := List.mem_drop_iff_getElem.1 hx
          have := hR2 j (by omega)
          rw [List.getD_eq_getElem?_getD, List.getElem?_eq_getElem (by omega), Option.getD_some] at this
          simpa using this
        clear hR2
        refine zgo ?_
        have e1 : n + 1 - 1 = n := by omega
        exact zfin
end Go.Proofs.YtkghiceeegindaaGreatDoor

/- Trimming. -/
namespace Go.Proofs.YtkghiceeegindaaGreatDoor
open Go.Proofs Go.AL
set_option maxRecDepth 100000
set_option maxHeartbeats 1000000
set_option linter.unusedVariables false
set_option linter.unusedSimpArgs false
attribute [local irreducible] endA AW aops thenA blockA hold

def trimR (c : Int) (l : List Int) : List Int := (l.reverse.dropWhile fun x => x == c).reverse
theorem trimR_eq {c : Int} {b : List Int} : trimR c (b ++ [c]) = trimR c b := by simp [trimR, List.dropWhile_cons]
theorem trimR_ne {c x : Int} {b : List Int} (h : ¬ x = c) : trimR c (b ++ [x]) = b ++ [x] := by simp [trimR, List.dropWhile_cons, h]
theorem trimB_p (l : List Int) (c : Int) (hl : l.length ≤ 100000) : PC 175 [.snap (encL byteRow l), uV c] (.snap (encL byteRow (trimR c l))) := by
  refine pstart Tryz.func175 Tryz.ntmps175 (encL_noId _) ?_
  refine zgo ?_
  refine zwhile (α := List Int) (fun a => [(0, true, .snap (encL byteRow a)), (1, true, uV c)]) (fun _ => []) (fun m a => a.length ≤ 100000 ∧ trimR c a = trimR c l) List.length l ⟨0, ⟨hl, rfl⟩, zholds⟩ (fun m a hR => ?_)
  obtain ⟨hR1, hR2⟩ := hR
  rcases List.eq_nil_or_concat a with rfl | ⟨b, x, rfl⟩
  · have h5 : trimR c l = [] := by rw [← hR2]; rfl
    rw [h5]
    clear hR2 h5
    refine zgo ?_
    exact zfin
  · simp only [List.concat_eq_append] at hR1 hR2 ⊢
    have h1 : (b ++ [x]).length = b.length + 1 := by simp
    have h2 : (encL byteRow (b ++ [x]))[b.length]? = some (byteRow x) := by
      rw [encL_get 0 (by simp)]; simp
    have h3 : (encL byteRow (b ++ [x])).take b.length = encL byteRow b := by rw [encL_take]; simp
    have h4 : (b ++ [x]).isEmpty = false := by cases b <;> rfl
    have e1 : ((b.length + 1 : Nat) : Int) - 1 = (b.length : Int) := by omega
    generalize hA : b ++ [x] = A at *
    by_cases g : x = c
    · subst g
      have h5 : trimR x b = trimR x l := by rw [← hR2, ← hA, trimR_eq]
      clear hR2
      refine zgo ?_
      exact ⟨m, b, by omega, ⟨by omega, h5⟩, zholds⟩
    · have h5 : trimR c l = A := by rw [← hR2, ← hA, trimR_ne g]
      rw [h5]
      clear hR2 h5
      refine zgo ?_
      exact zfin
theorem str1 : ((⟨#[0]⟩ : ByteArray).toList == (⟨#[]⟩ : ByteArray).toList) = false := by
  simp [ByteArray.toList, ByteArray.toList.loop, ByteArray.size, ByteArray.get!]
theorem str2 : (⟨#[0]⟩ : ByteArray).size = 1 := rfl
theorem str3 : (⟨#[0]⟩ : ByteArray)[0]? = some (0 : UInt8) := by rfl
theorem trim_p (l : List Int) (hl : l.length ≤ 100000) : PC 168 [.snap (encL byteRow l), .c (.string ⟨#[0]⟩)] (.snap (encL byteRow (trimR 0 l))) := by
  refine pstart Tryz.func168 Tryz.ntmps168 (encL_noId _) ?_
  have c1 := trimB_p l 0 hl
  by_cases h : l = []
  · subst h
    have h5 : trimR 0 [] = [] := rfl
    refine zgo ?_
    exact zfin
  · have h1 := isEmpty_f h
    have s1 := str1
    have s2 := str2
    have s3 := str3
    have s4 : ((UInt8.toNat 0 : Nat) : Int) = 0 := rfl
    have h2 : ¬ l.length = 0 := by rw [List.length_eq_zero_iff]; exact h
    refine zgo ?_
    exact zfin
end Go.Proofs.YtkghiceeegindaaGreatDoor

/- Reading a copy. -/
namespace Go.Proofs.YtkghiceeegindaaGreatDoor
open Go.Proofs Go.AL
set_option maxRecDepth 100000
set_option maxHeartbeats 1000000
set_option linter.unusedVariables false
set_option linter.unusedSimpArgs false
attribute [local irreducible] endA AW aops thenA blockA hold

theorem trim_all {l : List Int} : (trimR 0 l = []) ↔ (l.all fun x => x == 0) = true := by
  unfold trimR
  rw [List.reverse_eq_nil_iff]
  have h : ∀ m : List Int, m.dropWhile (fun x => x == 0) = [] ↔ ∀ x ∈ m, x = 0 := by
    intro m
    induction m with
    | nil => simp
    | cons a m ih =>
      by_cases ha : a = 0
      · simp [List.dropWhile_cons, ha, ih]
      · simp [List.dropWhile_cons, ha]
  rw [h]
  simp
/-- A copy as a value. -/
def copyV (g : Int) (p : List Int) (l : List Sec) : AV := .agg [zV g, .snap (encL byteRow p), .snap (encL encSec l)]
theorem get_p (l : List Sec) (hl : l.length = 8) (h : ∀ s ∈ l, SecOK s) : PC 140 [.snap (encL encSec l)] (copyV (parseS l).2 (parseS l).1 l) := by
  unfold copyV
  refine pstart Tryz.func140 Tryz.ntmps140 (by simp only [go_sem]) ?_
  have hg := gS l
  have c1 := generation_p (l.getD 0 zSec) (h _ (getD_mem' zSec (by omega))).1
  refine zgo ?_
  refine w_rounds 2 ?_
  refine w_round ?_
  refine zgo ?_
  refine zfor (α := Nat) 8 (fun k id => [(12, true, zV k), (11, true, zV (8 : Nat)), (10, true, .snap (encL encSec l)), (4, true, oV k id), (3, true, .ptr 1 0 0), (2, true, .ptr 0 0 0), (0, true, .snap (encL encSec l))]) (fun k id => (0, some (.cells 162 3 [[.c (.int .i64 0), .c (.slice none 0 0), .c (.slice none 0 0)]] true false)) :: (1, some (.cells 162 3 [[.c (.int .i64 0), .c (.slice none 0 0), .snap (encL encSec l)]] true false)) :: oT k id (dataS (l.take k))) (fun k m id => (3 ≤ m ∧ (k = 0 ∨ (1 < id ∧ id < m))) ∧ ∀ i, i < k → genS (l.getD i zSec) = genS (l.getD 0 zSec)) ⟨3, 0, ⟨⟨by omega, .inl rfl⟩, fun i hi => by omega⟩, ?_⟩ (fun k m id hk hm => ?_) (fun m id hm => ?_)
  · simp only [oV, oT]
    exact zholds
  · have c2 := generation_p (l.getD k zSec) (h _ (getD_mem' zSec (by omega))).1
    obtain ⟨⟨hm0, hm1⟩, hm2⟩ := hm
    have h5 := dataS_succ (l := l) (k := k) (by omega)
    by_cases g : genS (l.getD k zSec) = genS (l.getD 0 zSec)
    · have h6 : ∀ i, i < k + 1 → genS (l.getD i zSec) = genS (l.getD 0 zSec) := fun i hi => by
        by_cases hik : i = k
        · subst hik; exact g
        · exact hm2 i (by omega)
      clear hm2
      cases k with
      | zero =>
        simp only [oV, oT, List.take_zero] at h5 ⊢
        have h9 : encL byteRow (d4 (l.getD 0 zSec)) = encL byteRow (dataS (List.take (0 + 1) l)) := h5
        have h8 : (dataS (List.take 1 l)).length = 4 := by rw [dataS_len, List.length_take]; omega
        have h10 : (dataS (List.take 1 l)).isEmpty = false := by
          cases hx : dataS (List.take 1 l) with
          | nil => rw [hx] at h8; simp at h8
          | cons a b => rfl
        clear h5
        refine zgo ?_
        refine ⟨m + 10, m + 9, ⟨⟨by omega, by omega⟩, h6⟩, ?_⟩
        simp only [oV, oT]
        exact zholds
      | succ k =>
        simp only [oV, oT] at h5 ⊢
        have hm3 : 1 < id ∧ id < m := by omega
        obtain ⟨hm4, hm5⟩ := hm3
        have h8 : (dataS (List.take (k + 1) l)).length = 4 * (k + 1) := by rw [dataS_len, List.length_take]; omega
        refine zgo ?_
        refine ⟨m + 10, m + 9, ⟨⟨by omega, by omega⟩, h6⟩, ?_⟩
        simp only [oV, oT]
        exact zholds
    · have h7 : sameG l = false := by
        unfold sameG
        rw [List.all_eq_false]
        exact ⟨_, getD_mem' zSec (by omega : k < l.length), by simpa using g⟩
      have h11 : parseS l = ([], 0) := by unfold parseS; rw [h7]; rfl
      rw [h11]
      clear hm2
      cases k with
      | zero => exact absurd rfl g
      | succ k =>
        simp only [oV, oT]
        have hm3 : 1 < id ∧ id < m := by omega
        obtain ⟨hm4, hm5⟩ := hm3
        refine zgo ?_
        exact zfin
  · simp only [oV, oT]
    rw [List.take_of_length_le (by omega : l.length ≤ 8)]
    obtain ⟨⟨hm0, hm1⟩, hm2⟩ := hm
    have hm3 : 1 < id := by omega
    have hm4 : id < m := by omega
    have h6 : sameG l = true := by
      unfold sameG
      rw [List.all_eq_true]
      intro x hx
      obtain ⟨i, hi, rfl⟩ := List.mem_iff_getElem.1 hx
      have := hm2 i (by omega)
      rw [List.getD_eq_getElem?_getD, List.getElem?_eq_getElem hi] at this
      simpa using this
    have h7 : (dataS l).length = 32 := by rw [dataS_len, hl]
    have h8 : ∀ x ∈ dataS l, ByteOK x := fun x hx => by
      obtain ⟨s, hs, hx⟩ := List.mem_flatMap.1 hx
      exact (h s hs).2 x hx
    unfold parseS
    generalize hD : dataS l = D at *
    clear hm2
    have h9 := h8 _ (getD_mem' 0 (by omega : 0 < D.length))
    obtain ⟨n, hn⟩ := Int.eq_ofNat_of_zero_le h9.1
    have h10 : n < 256 := by have := h9.2; omega
    have hgD := gB D
    have hw : IntKind.i64.wrap (n : Int) = n := IntWalk.i64_in _ (by omega)
    clear h9 h8 h hD hm1
    by_cases g1 : 31 < n
    · have g2 : (31 : Int) < (n : Int) := by omega
      refine zgo ?_
      exact zfin
    · have g2 : ¬ (31 : Int) < (n : Int) := by omega
      have c3 := trim_p (D.drop (n + 1)) (by rw [List.length_drop]; omega)
      have h12 : (encL byteRow (D.drop (n + 1))).length = 32 - (n + 1) := by rw [encL_len, List.length_drop]; omega
      have h13 : List.take (32 - (n + 1)) (D.drop (n + 1)) = D.drop (n + 1) := List.take_of_length_le (by rw [List.length_drop]; omega)
      have h14 : List.take (32 - (n + 1)) (encL byteRow (D.drop (n + 1))) = encL byteRow (D.drop (n + 1)) := List.take_of_length_le (by omega)
      by_cases g3 : trimR 0 (D.drop (n + 1)) = []
      · have g4 := trim_all.1 g3
        refine zgo ?_
        have e1 : n + 1 - 1 = n := by omega
        exact zfin
      · have g4 : ((D.drop (n + 1)).all fun x => x == 0) = false := by
          cases hb : ((D.drop (n + 1)).all fun x => x == 0) with
          | false => rfl
          | true => exact absurd (trim_all.2 hb) g3
        have g5 : 0 < (trimR 0 (D.drop (n + 1))).length := List.length_pos_iff.2 g3
        refine zgo ?_
        exact zfin
end Go.Proofs.YtkghiceeegindaaGreatDoor

/- Formats of a superblock. -/
namespace Go.Proofs.YtkghiceeegindaaGreatDoor
open Go.Proofs Go.AL
set_option maxRecDepth 100000
set_option maxHeartbeats 1000000
set_option linter.unusedVariables false
set_option linter.unusedSimpArgs false
attribute [local irreducible] endA AW aops thenA blockA hold

/-- An operation as a row. -/
def opRow (o : Int × Int × List Sec) : List AV := [zV o.1, zV o.2.1, .snap (encL encSec o.2.2)]
@[go_sem] theorem sec_expoD (G : Nat → Option Blk) (k : Nat) (s : Sec) : (encSec s).map (expoD G k) = encSec s := by
  cases k <;> simp [encSec, expoD]
theorem op_noId (o : Int × Int × List Sec) : ∀ x ∈ opRow o, NoId x := by
  intro x hx
  simp only [opRow, List.mem_cons, List.not_mem_nil, or_false] at hx
  rcases hx with rfl | rfl | rfl
  · exact .c _
  · exact .c _
  · exact encL_noId _
instance : RowEnc opRow 3 := ⟨fun _ => rfl, fun _ => rfl, op_noId⟩
def zs16 : List Sec := List.replicate 16 zSec
/-- What a format of a superblock is. -/
def sbFmt (a : Int) (p : List Int) : List (Int × Int × List Sec) × Int :=
  if a < 0 ∨ 4080 < a then ([], 2)
  else if 31 < p.length then ([], 5)
  else ([(0, a, zs16), (1, 0, []), (0, a, putS 1 p), (1, 0, [])], 0)
theorem sbFormat_p (a : Int) (p : List Int) (hp : p.length ≤ 100000) : PC 51 [zV a, .snap (encL byteRow p)] (.tup [.snap (encL opRow (sbFmt a p).1), zV (sbFmt a p).2]) := by
  refine pstartD Tryz.func51 Tryz.ntmps51 (by simp only [go_sem]) ?_
  unfold sbFmt
  by_cases g1 : a < 0
  · refine zgo ?_
    exact zfin
  by_cases g2 : 4080 < a
  · refine zgo ?_
    exact zfin
  have g3 : ¬ (a < 0 ∨ 4080 < a) := by omega
  rw [if_neg g3]
  clear g3
  by_cases g4 : 31 < p.length
  · have g5 : (31 : Int) < p.length := by omega
    refine zgo ?_
    exact zfin
  have g5 : ¬ (31 : Int) < p.length := by omega
  have c1 := put_p 1 p (by omega)
  rw [if_neg g4]
  unfold zs16
  refine zgo ?_
  exact zfin
theorem rsbFormat_p (a : Int) (p : List Int) (hp : p.length ≤ 100000) : PC 58 [zV a, .snap (encL byteRow p)] (.tup [.snap (encL opRow (sbFmt a p).1), zV (sbFmt a p).2]) := by
  refine pstartD Tryz.func58 Tryz.ntmps58 (by simp only [go_sem]) ?_
  have c0 := rcap_p
  unfold sbFmt
  by_cases g1 : a < 0
  · refine zgo ?_
    exact zfin
  by_cases g2 : 4080 < a
  · refine zgo ?_
    exact zfin
  have g3 : ¬ (a < 0 ∨ 4080 < a) := by omega
  rw [if_neg g3]
  clear g3
  by_cases g4 : 31 < p.length
  · have g5 : (31 : Int) < p.length := by omega
    refine zgo ?_
    exact zfin
  have g5 : ¬ (31 : Int) < p.length := by omega
  have c1 := rcopy_p 1 p (by omega)
  rw [if_neg g4]
  unfold zs16
  refine zgo ?_
  exact zfin
end Go.Proofs.YtkghiceeegindaaGreatDoor

/- Formats of a replica. -/
namespace Go.Proofs.YtkghiceeegindaaGreatDoor
open Go.Proofs Go.AL
set_option maxRecDepth 100000
set_option maxHeartbeats 1000000
set_option linter.unusedVariables false
set_option linter.unusedSimpArgs false
attribute [local irreducible] endA AW aops thenA blockA hold

theorem wkr_refl (xs : List (List AV)) : Wkr xs xs := ⟨rfl, fun k a b h1 h2 => by rw [h1] at h2; injection h2 with h2; subst h2; exact wks_refl a⟩
theorem zfin2 {A : Prop} (w : A := by (simp (maxSteps := 2000000) (disch := omega) only [go_sem, noId_c, noId_agg, noId_tup, noId_snap, false_implies, implies_true, *]; (repeat (first | exact .refl _ | exact .nil | exact wks_nil | refine wks_cons ?_ ?_ | refine wk_tup ?_ | refine wk_agg ?_ | refine wk_snap ?_ | exact wkr_nil | exact wkr_refl _ | refine wkr_cons ?_ ?_)))) : A := w
@[go_sem] theorem op_expoD (G : Nat → Option Blk) (k : Nat) (F : List (Int × Int × List Sec)) : (encL opRow F).map (fun row => row.map (expoD G k)) = encL opRow F := by
  unfold encL
  rw [List.map_map]
  refine List.map_congr_left fun o _ => ?_
  cases k <;> simp [opRow, expoD]
@[go_sem] theorem secs_expoD (G : Nat → Option Blk) (k : Nat) (F : List Sec) : (encL encSec F).map (fun row => row.map (expoD G k)) = encL encSec F := by
  unfold encL
  rw [List.map_map]
  exact List.map_congr_left fun o _ => sec_expoD G k o
def rep0 : Rep := ⟨[], 0, 0, 0, 0, 0⟩
/-- What a format of a replica is. -/
def fmtE (l : List Int) (s d n : Int) : Rep × List (Int × Int × List Sec) × Int :=
  if layE l s d = 0 then
    if timeB n = true then
      if (sbFmt s (repV ⟨l, s, d, n, 0, 0⟩)).2 = 0 then (⟨l, s, d, n, 0, 0⟩, [(0, d, zeros (sum l)), (1, 0, [])] ++ (sbFmt s (repV ⟨l, s, d, n, 0, 0⟩)).1, 0)
      else (rep0, [], (sbFmt s (repV ⟨l, s, d, n, 0, 0⟩)).2)
    else (rep0, [], 2)
  else (rep0, [], layE l s d)
theorem copied_p (r : Rep) (hl : r.sizes.length ≤ 1000000) : PC 56 [.agg (encR r)] (.agg (encR r)) := by
  refine pstartD Tryz.func56 Tryz.ntmps56 (rep_noId r) ?_
  obtain ⟨l, a, b, c, d, e⟩ := r
  unfold encR
  simp only [] at hl ⊢
  by_cases h : l = []
  · subst h
    refine zgo ?_
    exact zfin
  · have h1 := isEmpty_f h
    refine zgo ?_
    exact zfin
theorem failed_p (e : Int) : PC 49 [zV e] (.tup [.agg (encR rep0), .snap (encL opRow []), zV e]) := by
  refine pstart Tryz.func49 Tryz.ntmps49 (by simp only [go_sem, encR, rep0]) ?_
  unfold encR rep0
  refine zgo ?_
  exact zfin
theorem sbFmt_len (a : Int) (p : List Int) : (sbFmt a p).1.length ≤ 4 := by
  unfold sbFmt
  split
  · simp
  · split
    · simp
    · simp
theorem repV_len (r : Rep) : (repV r).length ≤ 100000 := by
  have h1 := vint_len r.epoch
  have h2 := vint_len r.applied
  have h3 := vint_len r.applying
  unfold repV
  simp only [List.length_append, List.length_nil]
  omega
theorem rformat_p (l : List Int) (s d n : Int) (hl : l.length ≤ 1000000) : PC 13 [.snap (encL intRow l), zV s, zV d, zV n] (.tup [.agg (encR (fmtE l s d n).1), .snap (encL opRow (fmtE l s d n).2.1), zV (fmtE l s d n).2.2]) := by
  refine pstartD Tryz.func13 Tryz.ntmps13 (by simp only [go_sem, encR]) ?_
  have c1 := rlayout_p l s d hl
  have c2 := rtime_p n
  have c3 := rtotal_p l hl
  have c4 := copied_p ⟨l, s, d, n, 0, 0⟩ hl
  have c5 := rvalue_p ⟨l, s, d, n, 0, 0⟩
  unfold fmtE
  by_cases g1 : layE l s d = 0
  · have g0 : sizesE l = 0 := by
      unfold layE at g1
      by_cases h : sizesE l = 0
      · exact h
      · rw [if_neg h] at g1; exact absurd g1 h
    obtain ⟨h1, h2, h3⟩ := sum_ok g0
    rw [h1] at c3
    rw [g1] at c1
    cases g2 : timeB n with
    | false =>
      rw [g2] at c2
      clear h1
      unfold encR rep0
      refine zgo ?_
      exact zfin
    | true =>
      rw [g2] at c2
      have c6 := rsbFormat_p s (repV ⟨l, s, d, n, 0, 0⟩) (repV_len _)
      have hF := sbFmt_len s (repV ⟨l, s, d, n, 0, 0⟩)
      generalize sbFmt s (repV ⟨l, s, d, n, 0, 0⟩) = F at *
      generalize repV ⟨l, s, d, n, 0, 0⟩ = V at *
      unfold encR at c4 c5 ⊢
      simp only [] at c4 c5
      obtain ⟨F1, F2⟩ := F
      simp only [] at c6 hF
      clear h1 g2
      by_cases g3 : F2 = 0
      · have hT : ∀ a b : List AV, List.take (2 + F1.length) (a :: b :: encL opRow F1) = a :: b :: encL opRow F1 := fun a b => List.take_of_length_le (by simp only [List.length_cons, encL_len]; omega)
        refine zgo ?_
        exact zfin2
      · unfold rep0
        refine zgo ?_
        exact zfin
  · unfold encR rep0
    refine zgo ?_
    exact zfin
end Go.Proofs.YtkghiceeegindaaGreatDoor

/- Formats of a replica. -/
namespace Go.Proofs.YtkghiceeegindaaGreatDoor
open Go.Proofs Go.AL
set_option maxRecDepth 100000
set_option maxHeartbeats 1000000
set_option linter.unusedVariables false
set_option linter.unusedSimpArgs false
attribute [local irreducible] endA AW aops thenA blockA hold

theorem format_n (l : List Int) (s d n : Int) (hne : l ≠ []) (hl : l.length ≤ 1000000) : PC 12 [.snap (encL intRow l), zV s, zV d, zV n] (.tup [.agg (encR (fmtE l s d n).1), .snap (encL opRow (fmtE l s d n).2.1), zV (fmtE l s d n).2.2]) := by
  refine pstartD Tryz.func12 Tryz.ntmps12 (by simp only [go_sem, encR]) ?_
  have c1 := layout_p ⟨l, s, d, 0, 0, 0⟩ hl
  have c2 := time_p n
  have c3 := total_p l hl
  have c4 := cloneI_o l hne hl
  have c5 := value_fo ⟨l, s, d, n, 0, 0⟩
  have c7 := failed_p
  refine zgo ?_
  refine zin Tryz.func47 Tryz.ntmps47 ?_
  refine zgo ?_
  unfold fmtE
  unfold encR at c1 c5 c7 ⊢
  simp only [] at c1 c5 c7
  unfold rep0 at c7 ⊢
  by_cases g1 : layE l s d = 0
  · have g0 : sizesE l = 0 := by
      unfold layE at g1
      by_cases h : sizesE l = 0
      · exact h
      · rw [if_neg h] at g1; exact absurd g1 h
    obtain ⟨h1, h2, h3⟩ := sum_ok g0
    rw [h1] at c3
    rw [g1] at c1
    cases g2 : timeB n with
    | false =>
      rw [g2] at c2
      clear h1
      refine zgo ?_
      exact zfin
    | true =>
      rw [g2] at c2
      have c6 := sbFormat_p s (repV ⟨l, s, d, n, 0, 0⟩) (repV_len _)
      have hF := sbFmt_len s (repV ⟨l, s, d, n, 0, 0⟩)
      generalize sbFmt s (repV ⟨l, s, d, n, 0, 0⟩) = F at *
      generalize repV ⟨l, s, d, n, 0, 0⟩ = V at *
      obtain ⟨F1, F2⟩ := F
      simp only [] at c6 hF
      clear h1 g2
      by_cases g3 : F2 = 0
      · have hT : ∀ a b : List AV, List.take (2 + F1.length) (a :: b :: encL opRow F1) = a :: b :: encL opRow F1 := fun a b => List.take_of_length_le (by simp only [List.length_cons, encL_len]; omega)
        refine zgo ?_
        exact zfin2
      · refine zgo ?_
        exact zfin2
  · refine zgo ?_
    exact zfin
theorem format_e (s d n : Int) (a : Option Addr) (cap : Nat) : PC 12 [.c (.slice a 0 cap), zV s, zV d, zV n] (.tup [.agg (encR (fmtE [] s d n).1), .snap (encL opRow (fmtE [] s d n).2.1), zV (fmtE [] s d n).2.2]) := by
  refine pstartD Tryz.func12 Tryz.ntmps12 (by simp only [go_sem, encR]) ?_
  have c1 := layout_p ⟨[], s, d, 0, 0, 0⟩ (Nat.zero_le _)
  have c4 := cloneI_e a cap
  have c7 := failed_p
  have g1 : layE [] s d = 6 := rfl
  have g2 : fmtE [] s d n = (rep0, [], 6) := by unfold fmtE; rw [g1]; rfl
  rw [g2]
  refine zgo ?_
  refine zin Tryz.func47 Tryz.ntmps47 ?_
  refine zgo ?_
  unfold encR at c1 c7 ⊢
  simp only [] at c1 c7
  unfold rep0 at c7 ⊢
  refine zgo ?_
  exact zfin
theorem format_p (l : List Int) (s d n : Int) (hl : l.length ≤ 1000000) : PC 12 [.snap (encL intRow l), zV s, zV d, zV n] (.tup [.agg (encR (fmtE l s d n).1), .snap (encL opRow (fmtE l s d n).2.1), zV (fmtE l s d n).2.2]) := by
  by_cases h : l = []
  · subst h
    exact PCall.nil (pre := []) (post := [zV s, zV d, zV n]) (format_e s d n)
  · exact format_n l s d n h hl
end Go.Proofs.YtkghiceeegindaaGreatDoor

/- The error of a replica; places. -/
namespace Go.Proofs.YtkghiceeegindaaGreatDoor
open Go.Proofs Go.AL
set_option maxRecDepth 100000
set_option maxHeartbeats 1000000
set_option linter.unusedVariables false
set_option linter.unusedSimpArgs false
attribute [local irreducible] endA AW aops thenA blockA hold

theorem acheck_p (r : Rep) (hl : r.sizes.length ≤ 1000000) : PC 25 [.agg (encR r)] (zV (repE r)) := by
  refine pstart Tryz.func25 Tryz.ntmps25 (.c _) ?_
  have c1 := check_p r hl
  have c4 := cloneI_p r.sizes hl
  unfold encR at c1 ⊢
  refine zgo ?_
  refine zin Tryz.func47 Tryz.ntmps47 ?_
  refine zgo ?_
  exact zfin
/-- The first sector of a volume. -/
def placeE (r : Rep) (v : Nat) : Int := IntKind.i64.wrap (r.data + sumW (r.sizes.take v))
theorem place_p (r : Rep) (v : Nat) (hv : v ≤ r.sizes.length) (hl : r.sizes.length ≤ 1000000) : FC 70 [.sptr [encR r] 0 0, zV v] (zV (placeE r v)) := by
  refine FCall.ofK ?_ rfl
  refine pstart Tryz.func70 Tryz.ntmps70 (.c _) ?_
  have c1 := total_p (r.sizes.take v) (by rw [List.length_take]; omega)
  unfold encR placeE
  refine zgo ?_
  exact zfin
theorem rplace_p (r : Rep) (v : Nat) (x : Int) (hv : v ≤ r.sizes.length) (hl : r.sizes.length ≤ 1000000) : PC 73 [.agg (encR r), zV v, zV x] (zV (IntKind.i64.wrap (placeE r v + x))) := by
  refine pstart Tryz.func73 Tryz.ntmps73 (.c _) ?_
  have c1 := rtotal_p (r.sizes.take v) (by rw [List.length_take]; omega)
  unfold encR placeE
  refine zgo ?_
  exact zfin
end Go.Proofs.YtkghiceeegindaaGreatDoor

/- Disks, in the reference. -/
namespace Go.Proofs.YtkghiceeegindaaGreatDoor
open Go.Proofs Go.AL
set_option maxRecDepth 100000
set_option maxHeartbeats 1000000
set_option linter.unusedVariables false
set_option linter.unusedSimpArgs false
attribute [local irreducible] endA AW aops thenA blockA hold

/-- A disk: the sectors, and the sectors that are written and not yet synced. -/
structure Dsk where
  st : List Sec
  ca : List (Int × Sec)
def encD (d : Dsk) : List AV := [.snap (encL encSec d.st), .snap (encL encCa d.ca)]
theorem encD_noId (d : Dsk) : NoId (.agg (encD d)) := noId_agg.2 fun x hx => by
  simp only [encD, List.mem_cons, List.not_mem_nil, or_false] at hx
  rcases hx with rfl | rfl
  · exact encL_noId _
  · exact encL_noId _
theorem gC (l : List (Int × Sec)) (k : Nat) (h : k < l.length) : (encL encCa l)[k]? = some (encCa (l.getD k (0, zSec))) := encL_get (0, zSec) h
def badC (n : Nat) (c : Int × Sec) : Bool := decide (c.1 < 0) || decide ((n : Int) ≤ c.1)
/-- The error of a disk. -/
def dskE (d : Dsk) : Int := if 4096 < d.st.length then 2 else if d.ca.any (badC d.st.length) = true then 2 else 0
theorem rdcheck_p (d : Dsk) (h1 : d.st.length ≤ 1000000) (h2 : d.ca.length ≤ 1000000) : PC 79 [.agg (encD d)] (zV (dskE d)) := by
  refine pstart Tryz.func79 Tryz.ntmps79 (.c _) ?_
  obtain ⟨st, ca⟩ := d
  unfold encD dskE
  simp only [] at h1 h2 ⊢
  have hg := gC ca
  by_cases g1 : 4096 < st.length
  · have g2 : (4096 : Int) < (st.length : Int) := by omega
    refine zgo ?_
    exact zfin
  have g2 : ¬ (4096 : Int) < (st.length : Int) := by omega
  refine zgo ?_
  refine zfor (α := Unit) ca.length (fun k _ => [(3, true, zV k), (1, true, .ptr 0 0 0)]) (fun _ _ => [(0, some (.cells 25 2 [[.snap (encL encSec st), .snap (encL encCa ca)]] true false))]) (fun k m _ => 1 ≤ m ∧ ∀ i, i < k → badC st.length (ca.getD i (0, zSec)) = false) ⟨1, (), ⟨Nat.le_refl _, fun i hi => by omega⟩, zholds⟩ (fun k m _ hk hR => ?_) (fun m _ hR => ?_)
  · obtain ⟨hR1, hR2⟩ := hR
    by_cases g3 : (ca.getD k (0, zSec)).1 < 0
    · have g5 : ca.any (badC st.length) = true := List.any_eq_true.2 ⟨_, getD_mem' (0, zSec) hk, by unfold badC; rw [dec_ltT g3]; rfl⟩
      clear hR2
      refine zgo ?_
      exact zfin
    by_cases g4 : (st.length : Int) ≤ (ca.getD k (0, zSec)).1
    · have g5 : ca.any (badC st.length) = true := List.any_eq_true.2 ⟨_, getD_mem' (0, zSec) hk, by unfold badC; rw [dec_leT g4]; simp⟩
      clear hR2
      refine zgo ?_
      exact zfin
    have hR3 : ∀ i, i < k + 1 → badC st.length (ca.getD i (0, zSec)) = false := fun i hi => by
      by_cases hik : i = k
      · subst hik; unfold badC; rw [dec_ltF g3, dec_leF g4]; rfl
      · exact hR2 i (by omega)
    clear hR2
    refine zgo ?_
    exact ⟨m + 19, (), ⟨by omega, hR3⟩, zholds⟩
  · have g5 : ca.any (badC st.length) = false := by
      rw [List.any_eq_false]
      intro x hx
      obtain ⟨i, hi, rfl⟩ := List.mem_iff_getElem.1 hx
      have := hR.2 i hi
      rw [List.getD_eq_getElem?_getD, List.getElem?_eq_getElem hi] at this
      simpa using this
    clear hR
    refine zgo ?_
    exact zfin
end Go.Proofs.YtkghiceeegindaaGreatDoor
