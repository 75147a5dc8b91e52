/- Contracts of the program's functions, and laws over them. There is no further condition. -/
import Derived.Test.YtdpbddomncjkjaaDoorU1me
import Derived.Test.YtdpbddomncjkjaaDoorU0me
import Derived.Test.YtdpbddomncjkjaaDoorEngGl
set_option linter.unusedVariables false
set_option linter.unusedSimpArgs false
set_option linter.unusedSectionVars false
set_option exponentiation.threshold 2000
namespace Eng
open Go Go.Proofs
set_option linter.unusedSimpArgs false
set_option linter.unusedVariables false
/-! The words of a block. -/
def wordN (b : List Int) (i : Nat) : Nat → Nat
  | 0 => 0
  | k + 1 => wordN b i k * 256 + (b.getD (8 * i + k) 0).toNat
theorem wordN_lt {b : List Int} (h : U8L b) (i : Nat) : ∀ k, wordN b i k < 256 ^ k
  | 0 => by simp [wordN]
  | k + 1 => by
    have h1 := wordN_lt h i k
    have h2 := h.at (8 * i + k)
    rw [wordN, Nat.pow_succ]; omega
def sig0 (x : Int) : Int := xorZ .u64 (xorZ .u64 (rorI x 1) (rorI x 8)) (shrZ .u64 x 7)
def sig1 (x : Int) : Int := xorZ .u64 (xorZ .u64 (rorI x 19) (rorI x 61)) (shrZ .u64 x 6)
def nextW (b : List Int) (l : List Int) (n : Nat) : Int := if n < 16 then (wordN b n 8 : Int) else w64 (w64 (w64 (l.getD (n - 16) 0 + sig0 (l.getD (n - 15) 0)) + l.getD (n - 7) 0) + sig1 (l.getD (n - 2) 0))
def schedL (b : List Int) : Nat → List Int
  | 0 => []
  | n + 1 => schedL b n ++ [nextW b (schedL b n) n]
theorem schedL_len (b : List Int) : ∀ n, (schedL b n).length = n
  | 0 => rfl
  | n + 1 => by rw [schedL, List.length_append, schedL_len b n]; rfl
/-- The first words, and noughts. -/
def pad80 (b : List Int) (i : Nat) : List Int := schedL b i ++ List.replicate (80 - i) 0
theorem pad80_len (b : List Int) {i : Nat} (h : i ≤ 80) : (pad80 b i).length = 80 := by rw [pad80, List.length_append, schedL_len, List.length_replicate]; omega
theorem pad80_zero (b : List Int) : pad80 b 0 = List.replicate 80 0 := rfl
theorem pad80_full (b : List Int) : pad80 b 80 = schedL b 80 := by rw [pad80]; simp
theorem pad80_at (b : List Int) {i j : Nat} (h : j < i) : (pad80 b i).getD j 0 = (schedL b i).getD j 0 := by
  rw [pad80, List.getD_eq_getElem?_getD, List.getD_eq_getElem?_getD, List.getElem?_append_left (by rw [schedL_len]; exact h)]
theorem pad80_set (b : List Int) {i : Nat} (h : i < 80) (v : Int) (hv : v = nextW b (schedL b i) i) : (pad80 b i).set i v = pad80 b (i + 1) := by
  subst hv
  rw [pad80, List.set_append_right _ _ (by rw [schedL_len]; exact Nat.le_refl _), schedL_len, Nat.sub_self, pad80, schedL]
  obtain ⟨m, hm⟩ : ∃ m, 80 - i = m + 1 := ⟨80 - i - 1, by omega⟩
  rw [hm, show 80 - (i + 1) = m by omega, List.replicate_succ, List.set_cons_zero, List.append_assoc]; rfl
theorem pad80_word (b : List Int) {i : Nat} (h : i < 80) : (pad80 b i).set i 0 = pad80 b i := by
  rw [pad80, List.set_append_right _ _ (by rw [schedL_len]; exact Nat.le_refl _), schedL_len, Nat.sub_self]
  obtain ⟨m, hm⟩ : ∃ m, 80 - i = m + 1 := ⟨80 - i - 1, by omega⟩
  rw [hm, List.replicate_succ, List.set_cons_zero]
theorem set_set (l : List Int) (i : Nat) (u v : Int) : (l.set i u).set i v = l.set i v := List.set_set ..
theorem getD_set_self (l : List Int) {i : Nat} (h : i < l.length) (v : Int) : (l.set i v).getD i 0 = v := by
  rw [List.getD_eq_getElem?_getD, List.getElem?_set]; simp [h]
/-- A word, and one byte more. -/
theorem shl8_or {w d : Nat} (hw : w < 256 ^ 7) (hd : d < 256) : orZ .u64 (shlZ .u64 (w : Int) 8) (d : Int) = ((w * 256 + d : Nat) : Int) := by
  have h : shlZ .u64 (w : Int) 8 = IntKind.u64.wrap ((w : Int) * 2 ^ (min (8 : Int).toNat 64)) := rfl
  have h2 : (w : Int) * 2 ^ (min (8 : Int).toNat 64) = ((w * 256 : Nat) : Int) := by rw [show (2 : Int) ^ (min (8 : Int).toNat 64) = 256 from rfl]; omega
  rw [h, h2, wrap_u64 (by omega) (by omega), orZ_u64, BitVec.toNat_or, ofInt_toNat (by omega) (by omega), ofInt_toNat (by omega) (by omega), Int.toNat_natCast, Int.toNat_natCast]
  congr 1
  rw [show w * 256 = w <<< 8 by rw [Nat.shiftLeft_eq], ← Nat.shiftLeft_add_eq_or_of_lt (show d < 2 ^ 8 from hd)]

def schV (b : List Int) : AV := if b.length = 128 then .slc 80 (ints .u64 (schedL b 80)) else .nils
def schE (b : List Int) : AV := if b.length = 128 then .nili else .iface 34 (.int .i64 1)

noncomputable def S24 : List AV → Option Ret := nz (sumOf (fun p : List Int => match p with | b => (U8L b) ∧ (b.length ≤ 9223372036854775807)) (fun p : List Int => match p with | b => [.slc b.length (ints .u8 b)]) (fun p : List Int => match p with | b => ⟨.tup [schV b, schE b], none⟩))
theorem S24_eq (b : List Int) (h0 : U8L b) (h1 : b.length ≤ 9223372036854775807) : S24 [.slc b.length (ints .u8 b)] = some ⟨.tup [schV b, schE b], none⟩ :=
  sumOf_eq (dom := (fun p : List Int => match p with | b => (U8L b) ∧ (b.length ≤ 9223372036854775807))) (enc := (fun p : List Int => match p with | b => [.slc b.length (ints .u8 b)])) (out := (fun p : List Int => match p with | b => ⟨.tup [schV b, schE b], none⟩)) b ⟨h0, h1⟩ (fun y _ e => by
    simp only [List.cons.injEq, AV.slc.injEq, ints_injEq, and_true] at e
    first | with_reducible rfl | simp only [e] | rfl)
theorem S24_inv {args : List AV} {r : Ret} (h : sumOf (fun p : List Int => match p with | b => (U8L b) ∧ (b.length ≤ 9223372036854775807)) (fun p : List Int => match p with | b => [.slc b.length (ints .u8 b)]) (fun p : List Int => match p with | b => ⟨.tup [schV b, schE b], none⟩) args = some r) : ∃ (b : List Int), ((U8L b) ∧ (b.length ≤ 9223372036854775807)) ∧ args = [.slc b.length (ints .u8 b)] ∧ r = ⟨.tup [schV b, schE b], none⟩ := by
  obtain ⟨x, h1, h2, h3⟩ := sumOf_inv h
  exact ⟨x, h1, h2.symm, h3⟩


def St40 (b : List Int) (i : Nat) : AState := { nt := 93, env := [(0, .slc 128 (ints .u8 b)), (4, .osl 5 0 80 1), (17, .int .i64 i)], mem := [(5, ints .u64 (pad80 b i))], next := 20 }
def St40k (b : List Int) (i k : Nat) : AState := { nt := 93, env := [(0, .slc 128 (ints .u8 b)), (4, .osl 5 0 80 1), (5, .int .i64 i), (17, .int .i64 i), (20, .int .i64 k)], mem := [(5, ints .u64 ((pad80 b i).set i (wordN b i k : Nat)))], next := 20 }
def St40e (b : List Int) (i : Nat) : AState := { nt := 93, env := [(0, .slc 128 (ints .u8 b)), (4, .osl 5 0 80 1), (7, .int .i64 i)], mem := [(5, ints .u64 (pad80 b i))], next := 20 }

set_option maxRecDepth 100000 in
theorem snd24 : SndE Tryd.prog NoG 24 S24 := by
  refine snd_nz (snd_by [(37, S37)] [] Tryd.func24 (by kernel_rfl) lite24 nt24 rs24 ⟨snd37, trivial⟩ trivial (fun hT args r h => ?_))
  obtain ⟨b, ⟨hd0, hd1⟩, rfl, rfl⟩ := S24_inv h
  clear h
  have hM := hM0
  refine ⟨Nat.le_of_ble_eq_true rfl, fun F => ?_⟩
  unfold L24
  refine Lwp.seq (Lwp.regI hT ?_)
  simp only [L24r0, go_sem, eq_self, Nat.reduceAdd, Nat.reduceLT, decide_true]
  refine Lwp.seq ?_
  by_cases hl : b.length = 128
  · have e1 : schV b = .slc 80 (ints .u64 (schedL b 80)) := by unfold schV; rw [if_pos hl]
    have e2 : schE b = .nili := by unfold schE; rw [if_pos hl]
    rw [e1, e2, hl]
    have rl : (List.replicate 80 (0 : Int)).length = 80 := by simp
    refine Lwp.seq (Lwp.regI hT ?_)
    simp only [L24r1, go_sem, eq_self, Nat.reduceAdd, Nat.reduceLT, Nat.reduceEqDiff, Int.reduceBNe, reduceCtorEq, decide_true, ty24]
    refine Lwp.cond rfl (fun h => by cases h) (fun _ => Lwp.skip ?_)
    simp only [go_sem]
    refine Lwp.seq (Lwp.regI hT ?_)
    simp only [L24r3, go_sem, eq_self, Nat.reduceAdd, Nat.reduceLT, Nat.reduceEqDiff, Int.reduceLE, Int.reduceToNat, Int.reduceMul, reduceCtorEq, decide_true, ty22, ty25, ints_zeros]
    refine Lwp.seq ?_
    refine Lwp.seq (Lwp.regI hT ?_)
    simp only [L24r4, go_sem, eq_self, Nat.reduceAdd, Nat.reduceLT, decide_true]
    refine Lwp.block (Lwp.range (St40 b) 16 ?_ (fun i hi => ?_) ?_)
    · refine weak_of rfl ?_ ?_ ?_
      · (simp only [go_sem, eq_self, Nat.reduceEqDiff, reduceCtorEq, St40, pad80_zero]; try rfl)
      · (simp only [go_sem, eq_self, St40, pad80_zero]; try rfl)
      · (simp only [go_sem, eq_self, St40, pad80_zero]; try rfl)
    · have h1 : (i : Int) < 16 := by omega
      have h4 := wrap_succ hi (by decide)
      have c1 : (0 : Int) ≤ i := by omega
      have c2 : (i : Int) < 80 := by omega
      have c3 : i < 80 := by omega
      have c4 : i ≤ 79 := by omega
      have pl := pad80_len b (i := i) (by omega)
      have p0 := pad80_word b c3
      unfold St40
      refine Lwp.seq (Lwp.regI hT ?_)
      simp only [L24r5, go_sem, eq_self, Nat.reduceAdd, Nat.reduceLT, Nat.reduceEqDiff, reduceCtorEq, decide_true, h1]
      refine Lwp.seq (Lwp.cond rfl (fun _ => Lwp.skip ?_) (fun h => by cases h))
      simp only [go_sem]
      refine Lwp.seq (Lwp.block ?_)
      refine Lwp.seq (Lwp.regI hT ?_)
      simp only [L24r6, go_sem, eq_self, Nat.reduceAdd, Nat.reduceLT, Nat.reduceEqDiff, reduceCtorEq, decide_true]
      refine Lwp.seq (Lwp.regI hT ?_)
      simp only [L24r7, go_sem, eq_self, Nat.reduceAdd, Nat.reduceLT, decide_true]
      refine Lwp.block (Lwp.range (St40k b i) 8 ?_ (fun k hk => ?_) ?_)
      · refine weak_of rfl ?_ ?_ ?_
        · (simp only [go_sem, eq_self, Nat.reduceEqDiff, reduceCtorEq, St40k, wordN, p0, Int.natCast_zero]; try rfl)
        · (simp only [go_sem, eq_self, St40k, wordN, p0, Int.natCast_zero]; try rfl)
        · (simp only [go_sem, eq_self, St40k, wordN, p0, Int.natCast_zero]; try rfl)
      · have k1 : (k : Int) < 8 := by omega
        have k4 := wrap_succ hk (by decide)
        have wl := wordN_lt hd0 i k
        have wl7 : wordN b i k < 256 ^ 7 := Nat.lt_of_lt_of_le wl (Nat.pow_le_pow_right (by decide) (by omega))
        have hb := hd0.at (8 * i + k)
        obtain ⟨d, hd⟩ : ∃ d : Nat, b.getD (8 * i + k) 0 = (d : Int) := ⟨(b.getD (8 * i + k) 0).toNat, by omega⟩
        have hd256 : d < 256 := by omega
        have e3 : wordN b i (k + 1) = wordN b i k * 256 + d := by rw [wordN, hd, Int.toNat_natCast]
        have e4 := shl8_or wl7 hd256
        rw [← e3] at e4
        have e5 : IntKind.u64.wrap (d : Int) = d := wrap_u64 (by omega) (by omega)
        have e6 : IntKind.i64.wrap (8 * (i : Int)) = 8 * (i : Int) := wrap_i64 (by omega) (by omega)
        have e7 : IntKind.i64.wrap (8 * (i : Int) + (k : Int)) = ((8 * i + k : Nat) : Int) := by rw [wrap_i64 (by omega) (by omega)]; omega
        have e8 : (0 : Int) ≤ ((8 * i + k : Nat) : Int) := by omega
        have e9 : ((8 * i + k : Nat) : Int) < 128 := by omega
        have e10 : 8 * i + k < 128 := by omega
        have f1 := getD_set_self (pad80 b i) (i := i) (by omega) ((wordN b i k : Nat) : Int)
        have f2 : ((pad80 b i).set i ((wordN b i k : Nat) : Int)).length = 80 := by rw [List.length_set]; exact pl
        have f3 := set_set (pad80 b i) i ((wordN b i k : Nat) : Int) ((wordN b i (k + 1) : Nat) : Int)
        unfold St40k
        refine Lwp.seq (Lwp.regI hT ?_)
        simp only [L24r8, go_sem, eq_self, Nat.reduceAdd, Nat.reduceLT, Nat.reduceEqDiff, reduceCtorEq, decide_true, k1]
        refine Lwp.seq (Lwp.cond rfl (fun _ => Lwp.skip ?_) (fun h => by cases h))
        simp only [go_sem]
        refine Lwp.seq (Lwp.block ?_)
        refine Lwp.seq (Lwp.regI hT ?_)
        simp only [L24r9, go_sem, eq_self, Nat.reduceAdd, Nat.reduceLT, Nat.reduceEqDiff, reduceCtorEq, decide_true]
        generalize wordN b i (k + 1) = w2 at *
        generalize wordN b i k = w1 at *
        generalize (pad80 b i).set i ((w2 : Nat) : Int) = l2 at *
        generalize (pad80 b i).set i ((w1 : Nat) : Int) = l1 at *
        generalize 8 * i + k = q at *
        refine Lwp.regD hT hM ?_
        simp only [L24r10, go_sem, eq_self, Nat.reduceAdd, Nat.reduceSub, Nat.reduceLT, Nat.reduceLeDiff, Nat.reduceEqDiff, Nat.reduceDiv, Nat.reduceMod, Nat.reducePow, Int.reduceLT, reduceCtorEq, decide_true, decide_false, Bool.false_eq_true, ty5, ty24, ty22, ty25, c1, c2, c3, c4, e4, e5, e6, e7, e8, e9, e10, hd, f1, f2, hl]
        refine Lwp.regI hT ?_
        simp only [L24r11, go_sem, eq_self, Nat.reduceAdd, Nat.reduceLT, Nat.reduceEqDiff, reduceCtorEq, decide_true, k4]
        refine weak_of rfl ?_ ?_ ?_
        · (simp only [go_sem, eq_self, Nat.reduceEqDiff, reduceCtorEq]; try rfl)
        · (simp only [go_sem, eq_self, f3]; try rfl)
        · (simp only [go_sem, eq_self]; try rfl)
      · unfold St40k
        refine Lwp.seq (Lwp.regI hT ?_)
        simp only [L24r8, go_sem, eq_self, Nat.reduceAdd, Nat.reduceLT, Nat.reduceEqDiff, Int.reduceLT, reduceCtorEq, decide_true, decide_false]
        refine Lwp.seq (Lwp.cond rfl (fun h => by cases h) (fun _ => Lwp.exit ?_))
        simp only [go_sem, eq_self, Nat.reduceEqDiff, reduceCtorEq]
        have f4 := pad80_set b c3 ((wordN b i 8 : Nat) : Int) (by unfold nextW; rw [if_pos hi])
        refine Lwp.regI hT ?_
        simp only [L24r12, go_sem, eq_self, Nat.reduceAdd, Nat.reduceLT, Nat.reduceEqDiff, reduceCtorEq, decide_true, h4]
        refine weak_of rfl ?_ ?_ ?_
        · (simp only [go_sem, eq_self, Nat.reduceEqDiff, reduceCtorEq]; try rfl)
        · (simp only [go_sem, eq_self, f4]; try rfl)
        · (simp only [go_sem, eq_self]; try rfl)
    · unfold St40
      refine Lwp.seq (Lwp.regI hT ?_)
      simp only [L24r5, go_sem, eq_self, Nat.reduceAdd, Nat.reduceLT, Nat.reduceEqDiff, Int.reduceLT, reduceCtorEq, decide_true, decide_false]
      refine Lwp.seq (Lwp.cond rfl (fun h => by cases h) (fun _ => Lwp.exit ?_))
      simp only [go_sem, eq_self]
      refine Lwp.seq ?_
      refine Lwp.seq (Lwp.regI hT ?_)
      simp only [L24r13, go_sem, eq_self, Nat.reduceAdd, Nat.reduceLT, decide_true]
      refine Lwp.block (Lwp.whl (St40e b) (fun i => 16 ≤ i ∧ i ≤ 80) (fun i => 80 - i) 16 ⟨by decide, by decide⟩ ?_ ?_)
      · refine weak_of rfl ?_ ?_ ?_
        · (simp only [go_sem, eq_self, Nat.reduceEqDiff, reduceCtorEq, St40e]; try rfl)
        · (simp only [go_sem, eq_self, St40e]; try rfl)
        · (simp only [go_sem, eq_self, St40e]; try rfl)
      · rintro i ⟨hi1, hi2⟩
        have pl := pad80_len b hi2
        unfold St40e
        refine Lwp.seq ?_
        by_cases hi : i < 80
        · have h1 : (i : Int) < 80 := by omega
          have h4 : IntKind.i64.wrap ((i : Int) + 1) = ((i + 1 : Nat) : Int) := by rw [wrap_i64 (by omega) (by omega)]; omega
          have a1 : IntKind.i64.wrap ((i : Int) - 15) = ((i - 15 : Nat) : Int) := by rw [wrap_i64 (by omega) (by omega)]; omega
          have a2 : IntKind.i64.wrap ((i : Int) - 2) = ((i - 2 : Nat) : Int) := by rw [wrap_i64 (by omega) (by omega)]; omega
          have a3 : IntKind.i64.wrap ((i : Int) - 16) = ((i - 16 : Nat) : Int) := by rw [wrap_i64 (by omega) (by omega)]; omega
          have a4 : IntKind.i64.wrap ((i : Int) - 7) = ((i - 7 : Nat) : Int) := by rw [wrap_i64 (by omega) (by omega)]; omega
          have b1 : (0 : Int) ≤ ((i - 15 : Nat) : Int) ∧ ((i - 15 : Nat) : Int) < 80 ∧ i - 15 < 80 := by omega
          have b2 : (0 : Int) ≤ ((i - 2 : Nat) : Int) ∧ ((i - 2 : Nat) : Int) < 80 ∧ i - 2 < 80 := by omega
          have b3 : (0 : Int) ≤ ((i - 16 : Nat) : Int) ∧ ((i - 16 : Nat) : Int) < 80 ∧ i - 16 < 80 := by omega
          have b4 : (0 : Int) ≤ ((i - 7 : Nat) : Int) ∧ ((i - 7 : Nat) : Int) < 80 ∧ i - 7 < 80 := by omega
          have b5 : (0 : Int) ≤ (i : Int) := by omega
          have b6 : i ≤ 79 := by omega
          have g1 := pad80_at b (i := i) (j := i - 15) (by omega)
          have g2 := pad80_at b (i := i) (j := i - 2) (by omega)
          have g3 := pad80_at b (i := i) (j := i - 16) (by omega)
          have g4 := pad80_at b (i := i) (j := i - 7) (by omega)
          have ff1 (x : Int) : S37 [.int .u64 x, .int .i64 (-1)] = some ⟨.int .u64 (rorI x 1), none⟩ := S37_eq x (-1) (by decide) (by decide)
          have ff2 (x : Int) : S37 [.int .u64 x, .int .i64 (-8)] = some ⟨.int .u64 (rorI x 8), none⟩ := S37_eq x (-8) (by decide) (by decide)
          have ff3 (x : Int) : S37 [.int .u64 x, .int .i64 (-19)] = some ⟨.int .u64 (rorI x 19), none⟩ := S37_eq x (-19) (by decide) (by decide)
          have ff4 (x : Int) : S37 [.int .u64 x, .int .i64 (-61)] = some ⟨.int .u64 (rorI x 61), none⟩ := S37_eq x (-61) (by decide) (by decide)
          have fs := pad80_set b hi (w64 (w64 (w64 ((schedL b i).getD (i - 16) 0 + sig0 ((schedL b i).getD (i - 15) 0)) + (schedL b i).getD (i - 7) 0) + sig1 ((schedL b i).getD (i - 2) 0))) (by unfold nextW; rw [if_neg (by omega)])
          generalize (schedL b i).getD (i - 16) 0 = x16 at *
          generalize (schedL b i).getD (i - 15) 0 = x15 at *
          generalize (schedL b i).getD (i - 7) 0 = x7 at *
          generalize (schedL b i).getD (i - 2) 0 = x2 at *
          unfold w64 sig0 sig1 at fs
          generalize pad80 b i = l1 at *
          generalize i - 16 = q16 at *
          generalize i - 15 = q15 at *
          generalize i - 7 = q7 at *
          generalize i - 2 = q2 at *
          refine Lwp.seq (Lwp.regI hT ?_)
          simp only [L24r14, go_sem, eq_self, Nat.reduceAdd, Nat.reduceLT, Nat.reduceEqDiff, reduceCtorEq, decide_true, ty25, h1]
          refine Lwp.cond rfl (fun _ => Lwp.skip ?_) (fun h => by cases h)
          simp only [go_sem]
          refine Lwp.seq (Lwp.block ?_)
          refine Lwp.seq (Lwp.regD hT hM ?_)
          simp only [L24r16, go_sem, eq_self, Nat.reduceAdd, Nat.reduceSub, Nat.reduceLT, Nat.reduceLeDiff, Nat.reduceEqDiff, Nat.reduceDiv, Nat.reduceMod, Nat.reducePow, reduceCtorEq, decide_true, decide_false, Bool.false_eq_true, ty22, ty25, a1, a2, b1, b2, g1, g2, pl]
          refine Lwp.seq (Lwp.regI hT ?_)
          simp only [L24r17, go_sem, eq_self, Nat.reduceAdd, Nat.reduceLT, Nat.reduceEqDiff, Int.reduceLT, Int.reduceNeg, reduceCtorEq, decide_true, ff1, ff2]
          refine Lwp.seq (Lwp.regI hT ?_)
          simp only [L24r18, go_sem, eq_self, Nat.reduceAdd, Nat.reduceLT, Nat.reduceEqDiff, Int.reduceLT, Int.reduceNeg, reduceCtorEq, decide_true, ff3, ff4]
          refine Lwp.regD hT hM ?_
          simp only [L24r19, go_sem, eq_self, Nat.reduceAdd, Nat.reduceSub, Nat.reduceLT, Nat.reduceLeDiff, Nat.reduceEqDiff, Nat.reduceDiv, Nat.reduceMod, Nat.reducePow, reduceCtorEq, decide_true, decide_false, Bool.false_eq_true, ty22, ty25, a3, a4, b3, b4, b5, b6, h1, g3, g4, pl]
          refine Lwp.regI hT ?_
          simp only [L24r15, go_sem, eq_self, Nat.reduceAdd, Nat.reduceLT, Nat.reduceEqDiff, reduceCtorEq, decide_true, h4]
          refine ⟨i + 1, ⟨by omega, by omega⟩, by omega, ?_⟩
          refine weak_of rfl ?_ ?_ ?_
          · (simp only [go_sem, eq_self, Nat.reduceEqDiff, reduceCtorEq]; try rfl)
          · (simp only [go_sem, eq_self, fs]; try rfl)
          · (simp only [go_sem, eq_self]; try rfl)
        · have hi3 : i = 80 := by omega
          subst hi3
          refine Lwp.seq (Lwp.regI hT ?_)
          simp only [L24r14, go_sem, eq_self, Nat.reduceAdd, Nat.reduceSub, Nat.reduceLT, Nat.reduceEqDiff, Int.reduceLT, reduceCtorEq, decide_true, decide_false, ty25]
          refine Lwp.cond rfl (fun h => by cases h) (fun _ => Lwp.exit ?_)
          simp only [go_sem, eq_self, pad80_full]
          have sl := schedL_len b 80
          refine Lwp.seq (Lwp.regI hT ?_)
          simp only [L24r20, go_sem, eq_self, Nat.reduceAdd, Nat.reduceLT, Nat.reduceEqDiff, reduceCtorEq, decide_true]
          refine Lwp.ret (post_val (v := .tup [.osl 5 0 80 1, .nili]) ?_ ?_)
          · simp only [go_sem, eq_self, Nat.reduceEqDiff, reduceCtorEq]
          · simp only [go_sem, eq_self, Nat.reduceLeDiff, reduceCtorEq, sl]
  · have e1 : schV b = .nils := by unfold schV; rw [if_neg hl]
    have e2 : schE b = .iface 34 (.int .i64 1) := by unfold schE; rw [if_neg hl]
    have b1 : (((b.length : Nat) : Int) != 128) = true := by simp only [bne_iff_ne, ne_eq]; omega
    refine Lwp.seq (Lwp.regI hT ?_)
    simp only [L24r1, go_sem, eq_self, Nat.reduceAdd, Nat.reduceLT, Nat.reduceEqDiff, reduceCtorEq, decide_true, ty24, b1]
    refine Lwp.cond rfl (fun _ => ?_) (fun h => by cases h)
    refine Lwp.seq (Lwp.regI hT ?_)
    simp only [L24r2, go_sem, eq_self, Nat.reduceAdd, Nat.reduceLT, Nat.reduceEqDiff, reduceCtorEq, decide_true, ty34]
    refine Lwp.ret (post_val (v := .tup [.nils, .iface 34 (.int .i64 1)]) ?_ ?_)
    · simp only [go_sem, eq_self, Nat.reduceEqDiff, reduceCtorEq]
    · simp only [go_sem, eq_self, e1, e2]

noncomputable def S27 : List AV → Option Ret := nz (sumOf (fun p : List Int => match p with | b => (U8L b) ∧ (b.length = 128)) (fun p : List Int => match p with | b => [.slc b.length (ints .u8 b)]) (fun p : List Int => match p with | b => ⟨.slc 80 (ints .u64 (schedL b 80)), none⟩))
theorem S27_eq (b : List Int) (h0 : U8L b) (h1 : b.length = 128) : S27 [.slc b.length (ints .u8 b)] = some ⟨.slc 80 (ints .u64 (schedL b 80)), none⟩ :=
  sumOf_eq (dom := (fun p : List Int => match p with | b => (U8L b) ∧ (b.length = 128))) (enc := (fun p : List Int => match p with | b => [.slc b.length (ints .u8 b)])) (out := (fun p : List Int => match p with | b => ⟨.slc 80 (ints .u64 (schedL b 80)), none⟩)) b ⟨h0, h1⟩ (fun y _ e => by
    simp only [List.cons.injEq, AV.slc.injEq, ints_injEq, and_true] at e
    first | with_reducible rfl | simp only [e] | rfl)
theorem S27_inv {args : List AV} {r : Ret} (h : sumOf (fun p : List Int => match p with | b => (U8L b) ∧ (b.length = 128)) (fun p : List Int => match p with | b => [.slc b.length (ints .u8 b)]) (fun p : List Int => match p with | b => ⟨.slc 80 (ints .u64 (schedL b 80)), none⟩) args = some r) : ∃ (b : List Int), ((U8L b) ∧ (b.length = 128)) ∧ args = [.slc b.length (ints .u8 b)] ∧ r = ⟨.slc 80 (ints .u64 (schedL b 80)), none⟩ := by
  obtain ⟨x, h1, h2, h3⟩ := sumOf_inv h
  exact ⟨x, h1, h2.symm, h3⟩


def St41 (b : List Int) (i : Nat) : AState := { nt := 93, env := [(0, .slc 128 (ints .u8 b)), (3, .osl 50 0 i 1), (4, .int .i64 i)], mem := [(50, ints .u64 (schedL b i))], next := 60 }
def St41q (b : List Int) (i k : Nat) : AState := { nt := 93, env := [(0, .slc 128 (ints .u8 b)), (3, .osl 50 0 i 1), (4, .int .i64 i), (5, .int .u64 (wordN b i k : Nat)), (6, .int .i64 k)], mem := [(50, ints .u64 (schedL b i))], next := 60 }

set_option maxRecDepth 100000 in
theorem snd27 : SndE Tryd.prog NoG 27 S27 := by
  refine snd_nz (snd_by [(38, S38)] [] Tryd.func27 (by kernel_rfl) lite27 nt27 rs27 ⟨snd38, trivial⟩ trivial (fun hT args r h => ?_))
  obtain ⟨b, ⟨hd0, hd1⟩, rfl, rfl⟩ := S27_inv h
  clear h
  have hM := hM0
  refine ⟨Nat.le_of_ble_eq_true rfl, fun F => ?_⟩
  unfold L27
  rw [hd1]
  refine Lwp.seq (Lwp.regI hT ?_)
  simp only [L27r0, go_sem, eq_self, Nat.reduceLT, decide_true]
  refine Lwp.seq (Lwp.regI hT ?_)
  simp only [L27r1, go_sem, eq_self, Nat.reduceAdd, Nat.reduceLT, decide_true]
  refine Lwp.seq ?_
  refine Lwp.seq (Lwp.regI hT ?_)
  simp only [L27r2, go_sem, eq_self, Nat.reduceAdd, Nat.reduceLT, decide_true]
  refine Lwp.block (Lwp.range (St41 b) 80 ?_ (fun i hi => ?_) ?_)
  · refine Weak.trans (weak_nil (t := 3) (id := 50) (sz := 1) rfl rfl) ?_
    refine weak_of rfl ?_ ?_ ?_
    · (simp only [go_sem, eq_self, Nat.reduceEqDiff, reduceCtorEq, St41, schedL, ints_nil]; try rfl)
    · (simp only [go_sem, eq_self, St41, schedL, ints_nil]; try rfl)
    · (simp only [go_sem, eq_self, St41, schedL, ints_nil]; try rfl)
  · have h1 : (i : Int) < 80 := by omega
    have h4 := wrap_succ hi (by decide)
    have sl := schedL_len b i
    have al : (i + 1) * 8 ≤ 140737488355328 := by omega
    unfold St41
    refine Lwp.seq ?_
    refine Lwp.seq (Lwp.regI hT ?_)
    simp only [L27r3, go_sem, eq_self, Nat.reduceAdd, Nat.reduceLT, Nat.reduceEqDiff, reduceCtorEq, decide_true, h1]
    refine Lwp.cond rfl (fun _ => Lwp.skip ?_) (fun h => by cases h)
    simp only [go_sem]
    refine Lwp.seq (Lwp.block ?_)
    refine Lwp.seq ?_
    by_cases h16 : i < 16
    · have c16 : (i : Int) < 16 := by omega
      have hn : schedL b (i + 1) = schedL b i ++ [((wordN b i 8 : Nat) : Int)] := by rw [schedL, nextW, if_pos h16]
      refine Lwp.seq (Lwp.regI hT ?_)
      simp only [L27r5, go_sem, eq_self, Nat.reduceAdd, Nat.reduceLT, Nat.reduceEqDiff, reduceCtorEq, decide_true, c16]
      refine Lwp.cond rfl (fun _ => ?_) (fun h => by cases h)
      refine Lwp.seq (Lwp.regI hT ?_)
      simp only [L27r6, go_sem, eq_self, Nat.reduceAdd, Nat.reduceLT, decide_true]
      refine Lwp.seq ?_
      refine Lwp.seq (Lwp.regI hT ?_)
      simp only [L27r7, go_sem, eq_self, Nat.reduceAdd, Nat.reduceLT, decide_true]
      refine Lwp.block (Lwp.range (St41q b i) 8 ?_ (fun k hk => ?_) ?_)
      · refine weak_of rfl ?_ ?_ ?_
        · (simp only [go_sem, eq_self, Nat.reduceEqDiff, reduceCtorEq, St41q, wordN, Int.natCast_zero]; try rfl)
        · (simp only [go_sem, eq_self, St41q, wordN, Int.natCast_zero]; try rfl)
        · (simp only [go_sem, eq_self, St41q, wordN, Int.natCast_zero]; try rfl)
      · have k1 : (k : Int) < 8 := by omega
        have k4 := wrap_succ hk (by decide)
        have wl := wordN_lt hd0 i k
        have wl7 : wordN b i k < 256 ^ 7 := Nat.lt_of_lt_of_le wl (Nat.pow_le_pow_right (by decide) (by omega))
        have hb := hd0.at (8 * i + k)
        obtain ⟨d, hd⟩ : ∃ d : Nat, b.getD (8 * i + k) 0 = (d : Int) := ⟨(b.getD (8 * i + k) 0).toNat, by omega⟩
        have hd256 : d < 256 := by omega
        have e3 : wordN b i (k + 1) = wordN b i k * 256 + d := by rw [wordN, hd, Int.toNat_natCast]
        have e4 : IntKind.u64.wrap (256 * ((wordN b i k : Nat) : Int)) = ((wordN b i k * 256 : Nat) : Int) := by rw [wrap_u64 (by omega) (by omega)]; omega
        have e4' : IntKind.u64.wrap (((wordN b i k * 256 : Nat) : Int) + (d : Int)) = ((wordN b i (k + 1) : Nat) : Int) := by rw [e3, wrap_u64 (by omega) (by omega)]; omega
        have e5 : IntKind.u64.wrap (d : Int) = d := wrap_u64 (by omega) (by omega)
        have e6 : IntKind.i64.wrap (8 * (i : Int)) = 8 * (i : Int) := wrap_i64 (by omega) (by omega)
        have e7 : IntKind.i64.wrap (8 * (i : Int) + (k : Int)) = ((8 * i + k : Nat) : Int) := by rw [wrap_i64 (by omega) (by omega)]; omega
        have e8 : (0 : Int) ≤ ((8 * i + k : Nat) : Int) := by omega
        have e9 : ((8 * i + k : Nat) : Int) < 128 := by omega
        have e10 : 8 * i + k < 128 := by omega
        unfold St41q
        refine Lwp.seq ?_
        refine Lwp.seq (Lwp.regI hT ?_)
        simp only [L27r8, go_sem, eq_self, Nat.reduceAdd, Nat.reduceLT, Nat.reduceEqDiff, reduceCtorEq, decide_true, k1]
        refine Lwp.cond rfl (fun _ => Lwp.skip ?_) (fun h => by cases h)
        simp only [go_sem]
        refine Lwp.seq (Lwp.block ?_)
        generalize wordN b i k * 256 = w256 at *
        generalize 8 * i + k = q at *
        refine Lwp.regI hT ?_
        simp only [L27r10, go_sem, eq_self, Nat.reduceAdd, Nat.reduceLT, Nat.reduceLeDiff, Nat.reduceEqDiff, reduceCtorEq, decide_true, Bool.false_eq_true, ty5, ty24, ty22, e4, e4', e5, e6, e7, e8, e9, e10, hd, hd1]
        refine Lwp.regI hT ?_
        simp only [L27r9, go_sem, eq_self, Nat.reduceAdd, Nat.reduceLT, Nat.reduceEqDiff, reduceCtorEq, decide_true, k4]
        refine weak_of rfl ?_ ?_ ?_
        · (simp only [go_sem, eq_self, Nat.reduceEqDiff, reduceCtorEq]; try rfl)
        · (simp only [go_sem, eq_self]; try rfl)
        · (simp only [go_sem, eq_self]; try rfl)
      · unfold St41q
        refine Lwp.seq ?_
        refine Lwp.seq (Lwp.regI hT ?_)
        simp only [L27r8, go_sem, eq_self, Nat.reduceAdd, Nat.reduceLT, Nat.reduceEqDiff, Int.reduceLT, reduceCtorEq, decide_true, decide_false]
        refine Lwp.cond rfl (fun h => by cases h) (fun _ => Lwp.exit ?_)
        simp only [go_sem, eq_self, Nat.reduceEqDiff, reduceCtorEq]
        have al2 : i ≤ 17592186044415 := by omega
        refine Lwp.seq (Lwp.regI hT ?_)
        simp only [L27r11, go_sem, eq_self, Nat.reduceAdd, Nat.reduceLT, Nat.reduceLeDiff, Nat.reduceEqDiff, Nat.reduceBEq, Nat.reduceBNe, reduceCtorEq, decide_true, Bool.false_eq_true, ty22, ty25, sl, al]
        refine Lwp.exit ?_
        simp only [go_sem, eq_self, reduceCtorEq]
        refine Lwp.regI hT ?_
        simp only [L27r4, go_sem, eq_self, Nat.reduceAdd, Nat.reduceLT, Nat.reduceEqDiff, reduceCtorEq, decide_true, h4]
        refine weak_of rfl ?_ ?_ ?_
        · (simp only [go_sem, eq_self, Nat.reduceEqDiff, reduceCtorEq]; try rfl)
        · (simp only [go_sem, eq_self, Nat.reduceEqDiff, hn]; try rfl)
        · (simp only [go_sem, eq_self, hn]; try rfl)
    · have c16 : ¬ (i : Int) < 16 := by omega
      have hn : schedL b (i + 1) = schedL b i ++ [w64 (w64 (w64 ((schedL b i).getD (i - 16) 0 + sig0 ((schedL b i).getD (i - 15) 0)) + (schedL b i).getD (i - 7) 0) + sig1 ((schedL b i).getD (i - 2) 0))] := by rw [schedL, nextW, if_neg h16]
      unfold w64 sig0 sig1 at hn
      have a1 : IntKind.i64.wrap ((i : Int) - 15) = ((i - 15 : Nat) : Int) := by rw [wrap_i64 (by omega) (by omega)]; omega
      have a2 : IntKind.i64.wrap ((i : Int) - 2) = ((i - 2 : Nat) : Int) := by rw [wrap_i64 (by omega) (by omega)]; omega
      have a3 : IntKind.i64.wrap ((i : Int) - 16) = ((i - 16 : Nat) : Int) := by rw [wrap_i64 (by omega) (by omega)]; omega
      have a4 : IntKind.i64.wrap ((i : Int) - 7) = ((i - 7 : Nat) : Int) := by rw [wrap_i64 (by omega) (by omega)]; omega
      have b1 : (0 : Int) ≤ ((i - 15 : Nat) : Int) ∧ ((i - 15 : Nat) : Int) < (i : Int) ∧ i - 15 < i ∧ i - 15 + 1 ≤ i := by omega
      have b2 : (0 : Int) ≤ ((i - 2 : Nat) : Int) ∧ ((i - 2 : Nat) : Int) < (i : Int) ∧ i - 2 < i ∧ i - 2 + 1 ≤ i := by omega
      have b3 : (0 : Int) ≤ ((i - 16 : Nat) : Int) ∧ ((i - 16 : Nat) : Int) < (i : Int) ∧ i - 16 < i ∧ i - 16 + 1 ≤ i := by omega
      have b4 : (0 : Int) ≤ ((i - 7 : Nat) : Int) ∧ ((i - 7 : Nat) : Int) < (i : Int) ∧ i - 7 < i ∧ i - 7 + 1 ≤ i := by omega
      have ff1 (x : Int) : S38 [.int .u64 x, .int .i64 1] = some ⟨.int .u64 (rorI x 1), none⟩ := S38_eq x 1 (by decide)
      have ff2 (x : Int) : S38 [.int .u64 x, .int .i64 8] = some ⟨.int .u64 (rorI x 8), none⟩ := S38_eq x 8 (by decide)
      have ff3 (x : Int) : S38 [.int .u64 x, .int .i64 19] = some ⟨.int .u64 (rorI x 19), none⟩ := S38_eq x 19 (by decide)
      have ff4 (x : Int) : S38 [.int .u64 x, .int .i64 61] = some ⟨.int .u64 (rorI x 61), none⟩ := S38_eq x 61 (by decide)
      have al2 : i ≤ 17592186044415 := by omega
      refine Lwp.seq (Lwp.regI hT ?_)
      simp only [L27r5, go_sem, eq_self, Nat.reduceAdd, Nat.reduceLT, Nat.reduceEqDiff, reduceCtorEq, decide_true, decide_false, c16]
      refine Lwp.cond rfl (fun h => by cases h) (fun _ => Lwp.skip ?_)
      simp only [go_sem]
      generalize schedL b i = l1 at *
      generalize i - 16 = q16 at *
      generalize i - 15 = q15 at *
      generalize i - 7 = q7 at *
      generalize i - 2 = q2 at *
      refine Lwp.seq (Lwp.regD hT hM ?_)
      simp only [L27r12, go_sem, List.isEmpty_nil, eq_self, Nat.reduceAdd, Nat.reduceSub, Nat.reduceLT, Nat.reduceLeDiff, Nat.reduceEqDiff, Nat.reduceDiv, Nat.reduceMod, Nat.reducePow, Int.reduceLT, reduceCtorEq, decide_true, decide_false, Bool.false_eq_true, ty22, ty25, a1, b1, ff1, ff2, sl]
      refine Lwp.seq (Lwp.regD hT hM ?_)
      simp only [L27r13, go_sem, List.isEmpty_nil, eq_self, Nat.reduceAdd, Nat.reduceSub, Nat.reduceLT, Nat.reduceLeDiff, Nat.reduceEqDiff, Nat.reduceDiv, Nat.reduceMod, Nat.reducePow, Int.reduceLT, reduceCtorEq, decide_true, decide_false, Bool.false_eq_true, ty22, ty25, a2, b2, ff3, ff4, sl]
      refine Lwp.regD hT hM ?_
      simp only [L27r14, go_sem, eq_self, Nat.reduceAdd, Nat.reduceSub, Nat.reduceLT, Nat.reduceLeDiff, Nat.reduceEqDiff, Nat.reduceDiv, Nat.reduceMod, Nat.reducePow, Nat.reduceBEq, Nat.reduceBNe, reduceCtorEq, decide_true, decide_false, Bool.false_eq_true, ty22, ty25, a3, a4, b3, b4, sl, al]
      refine Lwp.regI hT ?_
      simp only [L27r4, go_sem, eq_self, Nat.reduceAdd, Nat.reduceLT, Nat.reduceEqDiff, reduceCtorEq, decide_true, h4]
      refine weak_of rfl ?_ ?_ ?_
      · (simp only [go_sem, eq_self, Nat.reduceEqDiff, reduceCtorEq]; try rfl)
      · (simp only [go_sem, eq_self, Nat.reduceEqDiff, hn]; try rfl)
      · (simp only [go_sem, eq_self, hn]; try rfl)
  · unfold St41
    refine Lwp.seq ?_
    refine Lwp.seq (Lwp.regI hT ?_)
    simp only [L27r3, go_sem, eq_self, Nat.reduceAdd, Nat.reduceLT, Nat.reduceEqDiff, Int.reduceLT, reduceCtorEq, decide_true, decide_false]
    refine Lwp.cond rfl (fun h => by cases h) (fun _ => Lwp.exit ?_)
    simp only [go_sem, eq_self]
    have sl := schedL_len b 80
    refine Lwp.seq (Lwp.regI hT ?_)
    simp only [L27r15, go_sem, eq_self, Nat.reduceAdd, Nat.reduceLT, Nat.reduceEqDiff, reduceCtorEq, decide_true]
    refine Lwp.ret (post_val (v := .osl 50 0 80 1) ?_ ?_)
    · simp only [go_sem, eq_self, Nat.reduceEqDiff, reduceCtorEq]
    · simp only [go_sem, eq_self, Nat.reduceLeDiff, reduceCtorEq, sl]

end Eng


namespace Eng
open Go Go.Proofs
set_option linter.unusedSimpArgs false
set_option linter.unusedVariables false
abbrev A8 (l : List Int) : AV := .agg (ints .u64 l)
def fsL : List Int := [4794697086780616226, 8158064640168781261, 13096744586834688815, 16840607885511220156, 4131703408338449720, 6480981068601479193, 10538285296894168987, 12329834152419229976, 15566598209576043074, 1334009975649890238, 2608012711638119052, 6128411473006802146, 8268148722764581231, 9286055187155687089, 11230858885718282805, 13951009754708518548, 16472876342353939154, 17275323862435702243, 1135362057144423861, 2597628984639134821, 3308224258029322869, 5365058923640841347, 6679025012923562964, 8573033837759648693, 10970295158949994411, 12119686244451234320, 12683024718118986047, 13788192230050041572, 14330467153632333762, 15395433587784984357, 489312712824947311, 1452737877330783856, 2861767655752347644, 3322285676063803686, 5560940570517711597, 5996557281743188959, 7280758554555802590, 8532644243296465576, 9350256976987008742, 10552545826968843579]
def rsL : List Int := [11727347734174303076, 12113106623233404929, 14000437183269869457, 14369950271660146224, 15101387698204529176, 15463397548674623760, 17586052441742319658, 1182934255886127544, 1847814050463011016, 2177327727835720531, 2830643537854262169, 3796741975233480872, 4115178125766777443, 5681478168544905931, 6601373596472566643, 7507060721942968483, 8399075790359081724, 8693463985226723168, 9568029438360202098, 10144078919501101548, 10430055236837252648, 11840083180663258601, 13761210420658862357, 14299343276471374635, 14566680578165727644, 15097957966210449927, 16922976911328602910, 17689382322260857208, 500013540394364858, 748580250866718886, 1242879168328830382, 1977374033974150939, 2944078676154940804, 3659926193048069267, 4368137639120453308, 4836135668995329356, 5532061633213252278, 6448918945643986474, 6902733635092675308, 7801388544844847127]
def bgL : List Int := [14680500436340154072, 7105036623409894663, 10473403895298186519, 1526699215303891257, 7436329637833083697, 10282925794625328401, 15784041429090275239, 5167115440072839076]
theorem fs_len : fsL.length = 40 := rfl
theorem rs_len : rsL.length = 40 := rfl
theorem bg_len : bgL.length = 8 := rfl
theorem kTab_eq : kTab = fsL ++ rsL := by decide +kernel
theorem hTab_eq : hTab = bgL := by decide +kernel
theorem kTab_lo {i : Nat} (h : i < 40) : kTab.getD i 0 = fsL.getD i 0 := by
  rw [kTab_eq, List.getD_eq_getElem?_getD, List.getElem?_append_left (by rw [fs_len]; exact h), ← List.getD_eq_getElem?_getD]
theorem kTab_hi {i : Nat} (h : 40 ≤ i) : kTab.getD i 0 = rsL.getD (i - 40) 0 := by
  rw [kTab_eq, List.getD_eq_getElem?_getD, List.getElem?_append_right (by rw [fs_len]; exact h), ← List.getD_eq_getElem?_getD, fs_len]
theorem hTab_W8 : W8 hTab := by rw [hTab_eq]; exact ⟨rfl, by decide⟩
noncomputable def gG : List (Nat × List AV) := [(0, ints .u64 bgL), (1, ints .u64 fsL), (2, ints .u64 rsL)]

noncomputable def S26 : List AV → Option Ret := nz (sumOf (fun p : Nat => match p with | i => (i < 80)) (fun p : Nat => match p with | i => [.int .i64 i]) (fun p : Nat => match p with | i => ⟨.int .u64 (kTab.getD i 0), none⟩))
theorem S26_eq (i : Nat) (h0 : i < 80) : S26 [.int .i64 i] = some ⟨.int .u64 (kTab.getD i 0), none⟩ :=
  sumOf_eq (dom := (fun p : Nat => match p with | i => (i < 80))) (enc := (fun p : Nat => match p with | i => [.int .i64 i])) (out := (fun p : Nat => match p with | i => ⟨.int .u64 (kTab.getD i 0), none⟩)) i h0 (fun y _ e => by
    simp only [List.cons.injEq, AV.int.injEq, Int.ofNat_inj, true_and, and_true] at e
    first | with_reducible rfl | simp only [e] | rfl)
theorem S26_inv {args : List AV} {r : Ret} (h : sumOf (fun p : Nat => match p with | i => (i < 80)) (fun p : Nat => match p with | i => [.int .i64 i]) (fun p : Nat => match p with | i => ⟨.int .u64 (kTab.getD i 0), none⟩) args = some r) : ∃ (i : Nat), ((i < 80)) ∧ args = [.int .i64 i] ∧ r = ⟨.int .u64 (kTab.getD i 0), none⟩ := by
  obtain ⟨x, h1, h2, h3⟩ := sumOf_inv h
  exact ⟨x, h1, h2.symm, h3⟩

set_option maxRecDepth 100000 in
theorem snd26 : SndG Tryd.prog gG 26 S26 := by
  refine snd_nz (sndG_by (gl := gG) [] [] Tryd.func26 (by kernel_rfl) lite26 nt26 rs26 trivial trivial (fun hT args r h => ?_))
  obtain ⟨i, hd0, rfl, rfl⟩ := S26_inv h
  clear h
  have hM := hM0
  refine ⟨Nat.le_of_ble_eq_true rfl, fun F => ?_⟩
  unfold L26
  have h0 : (0 : Int) ≤ (i : Int) := by omega
  have fl := fs_len
  have sl := rs_len
  refine Lwp.seq (Lwp.regI hT ?_)
  simp only [L26r0, go_sem, eq_self, Nat.reduceLT, decide_true, gG]
  refine Lwp.seq ?_
  by_cases hi : i < 40
  · have c1 : (i : Int) < 40 := by omega
    have kt := kTab_lo hi
    rw [kt]
    refine Lwp.seq (Lwp.regI hT ?_)
    simp only [L26r1, go_sem, eq_self, Nat.reduceAdd, Nat.reduceLT, Nat.reduceEqDiff, reduceCtorEq, decide_true, gG, c1]
    refine Lwp.cond rfl (fun _ => ?_) (fun h => by cases h)
    refine Lwp.seq (Lwp.regI hT ?_)
    simp only [L26r2, go_sem, eq_self, Nat.reduceAdd, Nat.reduceLT, Nat.reduceLeDiff, Nat.reduceEqDiff, reduceCtorEq, decide_true, Bool.false_eq_true, ty22, ty66, gG, h0, c1, hi, fl]
    refine Lwp.ret (post_val (v := .int .u64 (fsL.getD i 0)) ?_ ?_)
    · simp only [go_sem, eq_self, Nat.reduceEqDiff, reduceCtorEq]
    · simp only [go_sem, eq_self]
  · have c1 : ¬ (i : Int) < 40 := by omega
    have kt := kTab_hi (show 40 ≤ i by omega)
    rw [kt]
    have w1 : IntKind.i64.wrap ((i : Int) - 40) = ((i - 40 : Nat) : Int) := by rw [wrap_i64 (by omega) (by omega)]; omega
    have d0 : (0 : Int) ≤ ((i - 40 : Nat) : Int) := by omega
    have d1 : ((i - 40 : Nat) : Int) < 40 := by omega
    have d2 : i - 40 < 40 := by omega
    refine Lwp.seq (Lwp.regI hT ?_)
    simp only [L26r1, go_sem, eq_self, Nat.reduceAdd, Nat.reduceLT, Nat.reduceEqDiff, reduceCtorEq, decide_true, decide_false, gG, c1]
    refine Lwp.cond rfl (fun h => by cases h) (fun _ => Lwp.skip ?_)
    simp only [go_sem]
    refine Lwp.seq (Lwp.regI hT ?_)
    simp only [L26r3, go_sem, eq_self, Nat.reduceAdd, Nat.reduceLT, Nat.reduceLeDiff, Nat.reduceEqDiff, reduceCtorEq, decide_true, Bool.false_eq_true, ty22, ty66, gG, w1, d0, d1, d2, sl]
    refine Lwp.ret (post_val (v := .int .u64 (rsL.getD (i - 40) 0)) ?_ ?_)
    · simp only [go_sem, eq_self, Nat.reduceEqDiff, reduceCtorEq]
    · simp only [go_sem, eq_self]

/-- The rounds of a block's step. -/
def rnds (ws h : List Int) : Nat → List Int
  | 0 => h
  | i + 1 => roundR (rnds ws h i) (kTab.getD i 0) (ws.getD i 0)
theorem w64_U (x : Int) : 0 ≤ w64 x ∧ w64 x < 18446744073709551616 := by
  unfold w64; rw [wrap_u64_mod]; omega
theorem W8.at {v : List Int} (h : W8 v) (i : Nat) : 0 ≤ v.getD i 0 ∧ v.getD i 0 < 18446744073709551616 := by
  rcases Nat.lt_or_ge i v.length with hj | hj
  · rw [List.getD_eq_getElem?_getD, List.getElem?_eq_getElem hj, Option.getD_some]
    exact h.2 _ (List.getElem_mem hj)
  · rw [List.getD_eq_getElem?_getD, List.getElem?_eq_none hj]
    exact ⟨by decide, by decide⟩
theorem roundR_W8 {v : List Int} (h : W8 v) (k w : Int) : W8 (roundR v k w) := by
  refine ⟨rfl, fun x hx => ?_⟩
  simp only [roundR, List.mem_cons, List.not_mem_nil, or_false] at hx
  rcases hx with rfl | rfl | rfl | rfl | rfl | rfl | rfl | rfl
  · exact w64_U _
  · exact h.at 0
  · exact h.at 1
  · exact h.at 2
  · exact w64_U _
  · exact h.at 4
  · exact h.at 5
  · exact h.at 6
theorem rnds_W8 {h : List Int} (hh : W8 h) (ws : List Int) : ∀ i, W8 (rnds ws h i)
  | 0 => hh
  | i + 1 => roundR_W8 (rnds_W8 hh ws i) _ _
def sumP (h v : List Int) (i : Nat) : List Int := tab 8 (fun j => if j < i then w64 (h.getD j 0 + v.getD j 0) else h.getD j 0)
def sumW (h v : List Int) : List Int := tab 8 (fun j => w64 (h.getD j 0 + v.getD j 0))
theorem sumP_len (h v : List Int) (i : Nat) : (sumP h v i).length = 8 := tab_len _ _
theorem sumP_zero {h : List Int} (hl : h.length = 8) (v : List Int) : sumP h v 0 = h := (eq_tab hl fun j _ => by simp).symm
theorem sumP_full (h v : List Int) : sumP h v 8 = sumW h v := tab_ext fun j hj => by simp [hj]
theorem sumP_set (h v : List Int) (i : Nat) : (sumP h v i).set i (w64 (h.getD i 0 + v.getD i 0)) = sumP h v (i + 1) := tab_set _ _ _ _ _ fun j _ => by
  by_cases e : j = i
  · subst e; simp
  · rw [if_neg e]
    by_cases hj : j < i
    · rw [if_pos hj, if_pos (by omega)]
    · rw [if_neg hj, if_neg (by omega)]
theorem sumP_at (h v : List Int) {i : Nat} (hi : i < 8) : (sumP h v i).getD i 0 = h.getD i 0 := by
  unfold sumP; rw [tab_getD _ _ hi]; simp
/-- The step of a block. -/
def stepV (h b : List Int) : List Int := sumW h (rnds (schedL b 80) h 80)
theorem stepV_W8 (h b : List Int) : W8 (stepV h b) := by
  refine ⟨tab_len _ _, fun x hx => ?_⟩
  unfold stepV sumW tab at hx
  obtain ⟨j, _, rfl⟩ := List.mem_map.1 hx
  exact w64_U _

noncomputable def stepA (h b : List Int) : List Int := if b.length = 128 then stepV h b else List.replicate 8 0

def St11 (ws h : List Int) (i : Nat) : AState := { nt := 48, env := [(2, .own 0 0), (4, .own 1 0), (5, .nili), (6, .slc 80 (ints .u64 ws)), (7, .nili), (8, .own 13 0), (22, .slc 80 (ints .u64 ws)), (23, .int .i64 80), (24, .int .i64 i)], mem := [(0, ints .u64 h), (1, ints .u64 (List.replicate 8 0)), (13, ints .u64 (rnds ws h i))], next := 100 }
def St11b (h v : List Int) (i : Nat) : AState := { nt := 48, env := [(2, .own 0 0), (4, .own 1 0), (5, .nili), (8, .own 13 0), (35, .int .i64 i)], mem := [(0, ints .u64 (sumP h v i)), (1, ints .u64 (List.replicate 8 0)), (13, ints .u64 v)], next := 100 }

noncomputable def S11 : List AV → Option Ret := nz (sumOf (fun p : List Int × List Int => match p with | (h, b) => (W8 h) ∧ (U8L b) ∧ (b.length ≤ 9223372036854775807)) (fun p : List Int × List Int => match p with | (h, b) => [A8 h, .slc b.length (ints .u8 b)]) (fun p : List Int × List Int => match p with | (h, b) => ⟨.tup [A8 (stepA h b), schE b], none⟩))
theorem S11_eq (h : List Int) (b : List Int) (h0 : W8 h) (h1 : U8L b) (h2 : b.length ≤ 9223372036854775807) : S11 [A8 h, .slc b.length (ints .u8 b)] = some ⟨.tup [A8 (stepA h b), schE b], none⟩ :=
  sumOf_eq (dom := (fun p : List Int × List Int => match p with | (h, b) => (W8 h) ∧ (U8L b) ∧ (b.length ≤ 9223372036854775807))) (enc := (fun p : List Int × List Int => match p with | (h, b) => [A8 h, .slc b.length (ints .u8 b)])) (out := (fun p : List Int × List Int => match p with | (h, b) => ⟨.tup [A8 (stepA h b), schE b], none⟩)) (h, b) ⟨h0, h1, h2⟩ (fun y _ e => by
    obtain ⟨y0, y1⟩ := y
    simp only [List.cons.injEq, AV.agg.injEq, AV.slc.injEq, ints_injEq, and_true] at e
    first | with_reducible rfl | simp only [e] | rfl)
theorem S11_inv {args : List AV} {r : Ret} (h : sumOf (fun p : List Int × List Int => match p with | (h, b) => (W8 h) ∧ (U8L b) ∧ (b.length ≤ 9223372036854775807)) (fun p : List Int × List Int => match p with | (h, b) => [A8 h, .slc b.length (ints .u8 b)]) (fun p : List Int × List Int => match p with | (h, b) => ⟨.tup [A8 (stepA h b), schE b], none⟩) args = some r) : ∃ (h : List Int) (b : List Int), ((W8 h) ∧ (U8L b) ∧ (b.length ≤ 9223372036854775807)) ∧ args = [A8 h, .slc b.length (ints .u8 b)] ∧ r = ⟨.tup [A8 (stepA h b), schE b], none⟩ := by
  obtain ⟨x, h1, h2, h3⟩ := sumOf_inv h
  obtain ⟨h, b⟩ := x
  exact ⟨h, b, h1, h2.symm, h3⟩

set_option maxRecDepth 100000 in
theorem snd11 : SndG Tryd.prog gG 11 S11 := by
  refine snd_nz (sndG_by (gl := gG) [(24, S24), (25, S25), (26, S26)] [] Tryd.func11 (by kernel_rfl) lite11 nt11 rs11 ⟨(by first | exact snd24 | exact snd24.toG | exact SndE.mono up_C snd24 | exact SndE.mono up_D snd24 | exact SndE.mono up_N snd24), (by first | exact snd25 | exact snd25.toG | exact SndE.mono up_C snd25 | exact SndE.mono up_D snd25 | exact SndE.mono up_N snd25), (by first | exact snd26 | exact snd26.toG | exact SndE.mono up_C snd26 | exact SndE.mono up_D snd26 | exact SndE.mono up_N snd26), trivial⟩ trivial (fun hT args r h => ?_))
  obtain ⟨h, b, ⟨hd0, hd1, hd2⟩, rfl, rfl⟩ := S11_inv h
  clear h
  have hM := hM0
  refine ⟨Nat.le_of_ble_eq_true rfl, fun F => ?_⟩
  unfold L11
  have hl := hd0.1
  have rl : (List.replicate 8 (0 : Int)).length = 8 := rfl
  have f24 := S24_eq b hd1 hd2
  by_cases h1 : b.length = 128
  · have e1 : schV b = .slc 80 (ints .u64 (schedL b 80)) := by unfold schV; rw [if_pos h1]
    have e2 : schE b = .nili := by unfold schE; rw [if_pos h1]
    have e3 : stepA h b = stepV h b := by unfold stepA; rw [if_pos h1]
    rw [e1, e2] at f24
    rw [e2, e3]
    unfold stepV
    have wl := schedL_len b 80
    generalize schedL b 80 = ws at *
    refine Lwp.seq (Lwp.regI hT ?_)
    simp only [L11r0, go_sem, eq_self, Nat.reduceAdd, Nat.reduceLT, reduceCtorEq, decide_true, ty23, gG]
    refine Lwp.seq (Lwp.regI hT ?_)
    simp only [L11r1, go_sem, eq_self, Nat.reduceAdd, Nat.reduceLT, Nat.reduceEqDiff, reduceCtorEq, decide_true, Bool.false_eq_true, gG, f24]
    refine Lwp.seq ?_
    refine Lwp.seq (Lwp.regI hT ?_)
    simp only [L11r2, go_sem, isC, eq_self, Nat.reduceAdd, Nat.reduceLT, Nat.reduceEqDiff, reduceCtorEq, decide_true, ty30, gG]
    refine Lwp.cond rfl (fun h => by cases h) (fun _ => Lwp.skip ?_)
    simp only [go_sem]
    refine Lwp.seq (Lwp.regI hT ?_)
    simp only [L11r4, go_sem, eq_self, Nat.reduceAdd, Nat.reduceLT, Nat.reduceLeDiff, Nat.reduceEqDiff, reduceCtorEq, decide_true, ty23, gG, hl]
    refine Lwp.seq ?_
    refine Lwp.seq (Lwp.regI hT ?_)
    simp only [L11r5, go_sem, eq_self, Nat.reduceAdd, Nat.reduceLT, Nat.reduceEqDiff, reduceCtorEq, decide_true, ty25, gG]
    refine Lwp.block (Lwp.range (St11 ws h) 80 ?_ (fun i hi => ?_) ?_)
    · refine weak_of rfl ?_ ?_ ?_
      · (simp only [go_sem, eq_self, Nat.reduceEqDiff, reduceCtorEq, St11, rnds]; try rfl)
      · (simp only [go_sem, eq_self, Nat.reduceEqDiff, reduceCtorEq, St11, rnds]; try rfl)
      · (simp only [go_sem, eq_self, Nat.reduceEqDiff, reduceCtorEq, St11, rnds]; try rfl)
    · unfold St11
      have c1 : (i : Int) < 80 := by omega
      have c0 : (0 : Int) ≤ (i : Int) := by omega
      have c3 : i ≤ 79 := by omega
      have w1 := wrap_succ hi (by decide)
      have f26 := S26_eq i hi
      have f25 := S25_eq (rnds ws h i) (kTab.getD i 0) (ws.getD i 0) (rnds_W8 hd0 ws i)
      have rl1 := (rnds_W8 hd0 ws i).1
      have rl2 := (rnds_W8 hd0 ws (i + 1)).1
      have re : roundR (rnds ws h i) (kTab.getD i 0) (ws.getD i 0) = rnds ws h (i + 1) := rfl
      rw [re] at f25
      generalize rnds ws h (i + 1) = r2 at *
      generalize rnds ws h i = r1 at *
      refine Lwp.seq (Lwp.regI hT ?_)
      simp only [L11r6, go_sem, eq_self, Nat.reduceAdd, Nat.reduceLT, Nat.reduceEqDiff, decide_true, gG, c1]
      refine Lwp.seq (Lwp.cond rfl (fun _ => Lwp.skip ?_) (fun h => by cases h))
      simp only [go_sem]
      refine Lwp.seq (Lwp.block ?_)
      refine Lwp.seq (Lwp.regI hT ?_)
      simp only [L11r7, go_sem, eq_self, Nat.reduceAdd, Nat.reduceLT, Nat.reduceLeDiff, Nat.reduceEqDiff, decide_true, Bool.false_eq_true, ty22, ty25, gG, c0, c1, hi, c3, wl]
      refine Lwp.regD hT hM ?_
      simp only [L11r8, go_sem, List.isEmpty_nil, eq_self, Nat.reduceAdd, Nat.reduceSub, Nat.reduceLT, Nat.reduceLeDiff, Nat.reduceEqDiff, Nat.reduceDiv, Nat.reduceMod, Nat.reducePow, reduceCtorEq, decide_true, decide_false, Bool.false_eq_true, ty23, gG, rl1, f26, f25, rl2]
      refine Lwp.regI hT ?_
      simp only [L11r9, go_sem, eq_self, Nat.reduceAdd, Nat.reduceLT, Nat.reduceEqDiff, decide_true, gG, w1]
      refine weak_of rfl ?_ ?_ ?_
      · (simp only [go_sem, eq_self, Nat.reduceEqDiff]; try rfl)
      · (simp only [go_sem, eq_self, Nat.reduceEqDiff, reduceCtorEq]; try rfl)
      · (simp only [go_sem, eq_self, Nat.reduceEqDiff, reduceCtorEq]; try rfl)
    · unfold St11
      refine Lwp.seq (Lwp.regI hT ?_)
      simp only [L11r6, go_sem, eq_self, Nat.reduceAdd, Nat.reduceLT, Nat.reduceEqDiff, Int.reduceLT, decide_true, decide_false, gG]
      refine Lwp.seq (Lwp.cond rfl (fun h => by cases h) (fun _ => Lwp.exit ?_))
      simp only [go_sem, eq_self]
      have vl := (rnds_W8 hd0 ws 80).1
      generalize rnds ws h 80 = v at *
      refine Lwp.seq ?_
      refine Lwp.seq (Lwp.regI hT ?_)
      simp only [L11r10, go_sem, eq_self, Nat.reduceAdd, Nat.reduceLT, decide_true, gG]
      refine Lwp.block (Lwp.range (St11b h v) 8 ?_ (fun i hi => ?_) ?_)
      · refine weak_of rfl ?_ ?_ ?_
        · (simp only [go_sem, eq_self, Nat.reduceEqDiff, St11b, sumP_zero hl]; try rfl)
        · (simp only [go_sem, eq_self, Nat.reduceEqDiff, reduceCtorEq, St11b, sumP_zero hl]; try rfl)
        · (simp only [go_sem, eq_self, Nat.reduceEqDiff, reduceCtorEq, St11b, sumP_zero hl]; try rfl)
      · unfold St11b
        have c1 : (i : Int) < 8 := by omega
        have c0 : (0 : Int) ≤ (i : Int) := by omega
        have c3 : i ≤ 7 := by omega
        have w1 := wrap_succ hi (by decide)
        have pl := sumP_len h v i
        have pa := sumP_at h v hi
        have ps := sumP_set h v i
        have wr : IntKind.u64.wrap (h.getD i 0 + v.getD i 0) = w64 (h.getD i 0 + v.getD i 0) := rfl
        refine Lwp.seq (Lwp.regI hT ?_)
        simp only [L11r11, go_sem, eq_self, Nat.reduceAdd, Nat.reduceLT, Nat.reduceEqDiff, decide_true, gG, c1]
        refine Lwp.seq (Lwp.cond rfl (fun _ => Lwp.skip ?_) (fun h => by cases h))
        simp only [go_sem]
        refine Lwp.seq (Lwp.block ?_)
        refine Lwp.seq (Lwp.regI hT ?_)
        simp only [L11r12, go_sem, eq_self, Nat.reduceAdd, Nat.reduceLT, Nat.reduceEqDiff, decide_true, gG]
        refine Lwp.regD hT hM ?_
        simp only [L11r13, go_sem, eq_self, Nat.reduceAdd, Nat.reduceSub, Nat.reduceLT, Nat.reduceLeDiff, Nat.reduceEqDiff, Nat.reduceDiv, Nat.reduceMod, Nat.reducePow, reduceCtorEq, decide_true, decide_false, Bool.false_eq_true, ty22, ty23, gG, c0, c1, hi, c3, pl, vl, pa, wr]
        refine Lwp.regI hT ?_
        simp only [L11r14, go_sem, eq_self, Nat.reduceAdd, Nat.reduceLT, Nat.reduceEqDiff, decide_true, gG, w1]
        refine weak_of rfl ?_ ?_ ?_
        · (simp only [go_sem, eq_self, Nat.reduceEqDiff]; try rfl)
        · (simp only [go_sem, eq_self, Nat.reduceEqDiff, reduceCtorEq, ps]; try rfl)
        · (simp only [go_sem, eq_self, Nat.reduceEqDiff, reduceCtorEq]; try rfl)
      · unfold St11b
        refine Lwp.seq (Lwp.regI hT ?_)
        simp only [L11r11, go_sem, eq_self, Nat.reduceAdd, Nat.reduceLT, Nat.reduceEqDiff, Int.reduceLT, decide_true, decide_false, gG]
        refine Lwp.seq (Lwp.cond rfl (fun h => by cases h) (fun _ => Lwp.exit ?_))
        simp only [go_sem, eq_self]
        rw [sumP_full]
        have sl : (sumW h v).length = 8 := tab_len _ _
        generalize sumW h v = o at *
        refine Lwp.seq (Lwp.regI hT ?_)
        simp only [L11r15, go_sem, eq_self, Nat.reduceAdd, Nat.reduceLT, Nat.reduceLeDiff, Nat.reduceEqDiff, reduceCtorEq, decide_true, ty23, gG, sl, rl]
        refine Lwp.ret (post_val (v := .tup [A8 o, .nili]) ?_ ?_)
        · simp only [go_sem, eq_self, Nat.reduceLT, Nat.reduceLeDiff, Nat.reduceEqDiff, reduceCtorEq, ty23, sl]
        · simp only [go_sem, eq_self]
  · have e1 : schV b = .nils := by unfold schV; rw [if_neg h1]
    have e2 : schE b = .iface 34 (.int .i64 1) := by unfold schE; rw [if_neg h1]
    have e3 : stepA h b = List.replicate 8 0 := by unfold stepA; rw [if_neg h1]
    rw [e1, e2] at f24
    rw [e2, e3]
    refine Lwp.seq (Lwp.regI hT ?_)
    simp only [L11r0, go_sem, eq_self, Nat.reduceAdd, Nat.reduceLT, reduceCtorEq, decide_true, ty23, gG]
    refine Lwp.seq (Lwp.regI hT ?_)
    simp only [L11r1, go_sem, eq_self, Nat.reduceAdd, Nat.reduceLT, Nat.reduceEqDiff, reduceCtorEq, decide_true, gG, f24]
    refine Lwp.seq ?_
    refine Lwp.seq (Lwp.regI hT ?_)
    simp only [L11r2, go_sem, eq_self, Nat.reduceAdd, Nat.reduceLT, Nat.reduceEqDiff, reduceCtorEq, decide_true, ty30, gG]
    refine Lwp.cond rfl (fun _ => ?_) (fun h => by cases h)
    refine Lwp.seq (Lwp.regI hT ?_)
    simp only [L11r3, go_sem, eq_self, Nat.reduceAdd, Nat.reduceLT, Nat.reduceLeDiff, Nat.reduceEqDiff, reduceCtorEq, decide_true, ty23, gG, rl]
    refine Lwp.ret (post_val (v := .tup [A8 (List.replicate 8 0), .iface 34 (.int .i64 1)]) ?_ ?_)
    · simp only [go_sem, eq_self, Nat.reduceLT, Nat.reduceLeDiff, Nat.reduceEqDiff, reduceCtorEq, ty23, rl]
    · simp only [go_sem, eq_self]

def tbc : List AV := .slc 80 (ints .u64 kTab) :: ints .u64 hTab
theorem tbc_len : tbc.length = 9 := by unfold tbc; rw [List.length_cons, ints_len, hTab_len]
theorem tbc_0 : tbc.getD 0 .any = .slc 80 (ints .u64 kTab) := rfl
theorem tbc_1 : sub tbc 1 8 = ints .u64 hTab := by
  unfold sub tbc
  rw [if_neg (by omega), List.drop_succ_cons, List.drop_zero, List.take_of_length_le (by rw [ints_len, hTab_len]; exact Nat.le_refl _)]
theorem tbc_w : sub tbc 0 9 = tbc := by unfold sub; rw [if_pos ⟨rfl, tbc_len.symm⟩]
theorem tbc_pure : AV.pureL tbc = true := by unfold tbc; simp only [AV.pureL, AV.pureB, ints_pure, Bool.and_self]
theorem tbc_kill (k : Nat) : AV.killL k tbc = tbc := by unfold tbc; simp only [AV.killL, AV.kill, ints_kill]
theorem tbc_ids : AV.idsL tbc = [] := by unfold tbc; simp only [AV.idsL, AV.ids, ints_ids, List.append_nil]
theorem tbc_expo (m : List (Nat × List AV)) (j : Option Nat) : AV.expoL m j tbc = tbc := by unfold tbc; simp only [AV.expoL, AV.expo, ints_expo]
theorem tbc_one : allOne tbc = true := by unfold tbc; simp only [allOne, AV.one, ints_allOne, Bool.and_self]
theorem tbc_def : (.slc 80 (ints .u64 kTab) :: ints .u64 hTab) = tbc := rfl

def St13 (ws h : List Int) (i : Nat) : AState := { nt := 43, env := [(3, .own 0 0), (4, .own 1 0), (6, .own 2 0), (7, .slc 80 (ints .u64 ws)), (8, .own 7 0), (9, .int .i64 i)], mem := [(0, tbc), (1, ints .u64 h), (2, ints .u64 (List.replicate 8 0)), (7, ints .u64 (rnds ws h i))], next := 100 }
def St13b (h v : List Int) (i : Nat) : AState := { nt := 43, env := [(3, .own 0 0), (4, .own 1 0), (6, .own 2 0), (8, .own 7 0), (10, .int .i64 i)], mem := [(0, tbc), (1, ints .u64 h), (2, ints .u64 (List.replicate 8 0)), (7, ints .u64 (sumP v h i))], next := 100 }
theorem sumW_comm (h v : List Int) : sumW v h = sumW h v := tab_ext fun j _ => by rw [Int.add_comm]

noncomputable def S13 : List AV → Option Ret := nz (sumOf (fun p : List Int × List Int => match p with | (h, b) => (W8 h) ∧ (U8L b) ∧ (b.length = 128)) (fun p : List Int × List Int => match p with | (h, b) => [.agg tbc, A8 h, .slc b.length (ints .u8 b)]) (fun p : List Int × List Int => match p with | (h, b) => ⟨A8 (stepV h b), none⟩))
theorem S13_eq (h : List Int) (b : List Int) (h0 : W8 h) (h1 : U8L b) (h2 : b.length = 128) : S13 [.agg tbc, A8 h, .slc b.length (ints .u8 b)] = some ⟨A8 (stepV h b), none⟩ :=
  sumOf_eq (dom := (fun p : List Int × List Int => match p with | (h, b) => (W8 h) ∧ (U8L b) ∧ (b.length = 128))) (enc := (fun p : List Int × List Int => match p with | (h, b) => [.agg tbc, A8 h, .slc b.length (ints .u8 b)])) (out := (fun p : List Int × List Int => match p with | (h, b) => ⟨A8 (stepV h b), none⟩)) (h, b) ⟨h0, h1, h2⟩ (fun y _ e => by
    obtain ⟨y0, y1⟩ := y
    simp only [List.cons.injEq, AV.agg.injEq, AV.slc.injEq, ints_injEq, true_and, and_true] at e
    first | with_reducible rfl | simp only [e] | rfl)
theorem S13_inv {args : List AV} {r : Ret} (h : sumOf (fun p : List Int × List Int => match p with | (h, b) => (W8 h) ∧ (U8L b) ∧ (b.length = 128)) (fun p : List Int × List Int => match p with | (h, b) => [.agg tbc, A8 h, .slc b.length (ints .u8 b)]) (fun p : List Int × List Int => match p with | (h, b) => ⟨A8 (stepV h b), none⟩) args = some r) : ∃ (h : List Int) (b : List Int), ((W8 h) ∧ (U8L b) ∧ (b.length = 128)) ∧ args = [.agg tbc, A8 h, .slc b.length (ints .u8 b)] ∧ r = ⟨A8 (stepV h b), none⟩ := by
  obtain ⟨x, h1, h2, h3⟩ := sumOf_inv h
  obtain ⟨h, b⟩ := x
  exact ⟨h, b, h1, h2.symm, h3⟩

set_option maxRecDepth 100000 in
theorem snd13 : SndE Tryd.prog NoG 13 S13 := by
  refine snd_nz (snd_by [(27, S27), (28, S28)] [] Tryd.func13 (by kernel_rfl) lite13 nt13 rs13 ⟨snd27, snd28, trivial⟩ trivial (fun hT args r h => ?_))
  obtain ⟨h, b, ⟨hd0, hd1, hd2⟩, rfl, rfl⟩ := S13_inv h
  clear h
  have hM := hM0
  refine ⟨Nat.le_of_ble_eq_true rfl, fun F => ?_⟩
  unfold L13
  have hl := hd0.1
  have rl : (List.replicate 8 (0 : Int)).length = 8 := rfl
  have f27 := S27_eq b hd1 hd2
  have kl := kTab_len
  have tl := tbc_len
  have t0 := tbc_0
  have tp := tbc_pure
  have tk := tbc_kill
  have ti := tbc_ids
  have te := tbc_expo
  have to1 := tbc_one
  unfold stepV
  have wl := schedL_len b 80
  generalize schedL b 80 = ws at *
  refine Lwp.seq (Lwp.regI hT ?_)
  simp only [L13r0, go_sem, eq_self, Nat.reduceAdd, Nat.reduceLT, Nat.reduceEqDiff, reduceCtorEq, decide_true, ty23]
  refine Lwp.seq (Lwp.regI hT ?_)
  simp only [L13r1, go_sem, eq_self, Nat.reduceAdd, Nat.reduceLT, Nat.reduceEqDiff, reduceCtorEq, decide_true, Bool.false_eq_true, f27]
  refine Lwp.seq (Lwp.regI hT ?_)
  simp only [L13r2, go_sem, eq_self, Nat.reduceAdd, Nat.reduceLT, Nat.reduceLeDiff, Nat.reduceEqDiff, reduceCtorEq, decide_true, ty23, hl]
  refine Lwp.seq ?_
  refine Lwp.seq (Lwp.regI hT ?_)
  simp only [L13r3, go_sem, eq_self, Nat.reduceAdd, Nat.reduceLT, decide_true]
  refine Lwp.block (Lwp.whl (St13 ws h) (fun i => i ≤ 80) (fun i => 80 - i) 0 (by decide) ?_ ?_)
  · refine weak_of rfl ?_ ?_ ?_
    · (simp only [go_sem, eq_self, Nat.reduceEqDiff, reduceCtorEq, St13, rnds, Int.natCast_zero]; try rfl)
    · (simp only [go_sem, eq_self, Nat.reduceEqDiff, reduceCtorEq, St13, rnds, Int.natCast_zero]; try rfl)
    · (simp only [go_sem, eq_self, Nat.reduceEqDiff, reduceCtorEq, St13, rnds, Int.natCast_zero, ti]; try rfl)
  · intro i hi
    unfold St13
    refine Lwp.seq (Lwp.seq (Lwp.regI hT ?_))
    by_cases hi2 : i < 80
    · have c1 : (i : Int) < 80 := by omega
      have c0 : (0 : Int) ≤ (i : Int) := by omega
      have c3 : i ≤ 79 := by omega
      have w1 : IntKind.i64.wrap ((i : Int) + 1) = ((i + 1 : Nat) : Int) := by rw [wrap_i64 (by omega) (by omega)]; omega
      have f28 := S28_eq (rnds ws h i) (kTab.getD i 0) (ws.getD i 0) (rnds_W8 hd0 ws i)
      have rl1 := (rnds_W8 hd0 ws i).1
      have rl2 := (rnds_W8 hd0 ws (i + 1)).1
      have re : roundR (rnds ws h i) (kTab.getD i 0) (ws.getD i 0) = rnds ws h (i + 1) := rfl
      rw [re] at f28
      obtain ⟨r2, hr2⟩ : ∃ r, r = rnds ws h (i + 1) := ⟨_, rfl⟩
      rw [← hr2] at f28 rl2
      generalize rnds ws h i = r1 at *
      simp only [L13r4, go_sem, eq_self, Nat.reduceAdd, Nat.reduceLT, Nat.reduceEqDiff, decide_true, c1]
      refine Lwp.cond rfl (fun _ => Lwp.skip ?_) (fun h => by cases h)
      simp only [go_sem]
      refine Lwp.seq (Lwp.block ?_)
      refine Lwp.regD hT hM ?_
      simp only [L13r6, go_sem, List.isEmpty_nil, eq_self, Nat.reduceAdd, Nat.reduceSub, Nat.reduceLT, Nat.reduceLeDiff, Nat.reduceEqDiff, Nat.reduceDiv, Nat.reduceMod, Nat.reducePow, reduceCtorEq, decide_true, decide_false, Bool.false_eq_true, ty22, ty23, ty25, ty27, fK0, c0, c1, hi2, c3, wl, kl, tl, t0, rl1, f28, rl2]
      refine Lwp.regI hT ?_
      simp only [L13r5, go_sem, eq_self, Nat.reduceAdd, Nat.reduceLT, Nat.reduceEqDiff, decide_true, w1]
      refine ⟨i + 1, by omega, by omega, ?_⟩
      refine weak_of rfl ?_ ?_ ?_
      · (simp only [go_sem, eq_self, Nat.reduceEqDiff]; try rfl)
      · (simp only [go_sem, eq_self, Nat.reduceEqDiff, reduceCtorEq, ← hr2]; try rfl)
      · (simp only [go_sem, eq_self, Nat.reduceEqDiff, reduceCtorEq, ti, ← hr2]; try rfl)
    · have e80 : i = 80 := by omega
      subst e80
      have c1 : ¬ ((80 : Nat) : Int) < 80 := by omega
      simp only [L13r4, go_sem, eq_self, Nat.reduceAdd, Nat.reduceSub, Nat.reduceLT, Nat.reduceEqDiff, Int.reduceLT, decide_true, decide_false]
      refine Lwp.cond rfl (fun h => by cases h) (fun _ => Lwp.exit ?_)
      simp only [go_sem, eq_self]
      have vl := (rnds_W8 hd0 ws 80).1
      generalize rnds ws h 80 = v at *
      refine Lwp.seq ?_
      refine Lwp.seq (Lwp.regI hT ?_)
      simp only [L13r7, go_sem, eq_self, Nat.reduceAdd, Nat.reduceLT, decide_true]
      refine Lwp.block (Lwp.whl (St13b h v) (fun i => i ≤ 8) (fun i => 8 - i) 0 (by decide) ?_ ?_)
      · refine weak_of rfl ?_ ?_ ?_
        · (simp only [go_sem, eq_self, Nat.reduceEqDiff, St13b, sumP_zero vl, Int.natCast_zero]; try rfl)
        · (simp only [go_sem, eq_self, Nat.reduceEqDiff, reduceCtorEq, St13b, sumP_zero vl, Int.natCast_zero]; try rfl)
        · (simp only [go_sem, eq_self, Nat.reduceEqDiff, reduceCtorEq, St13b, sumP_zero vl, Int.natCast_zero, ti]; try rfl)
      · intro i hi
        unfold St13b
        refine Lwp.seq (Lwp.seq (Lwp.regI hT ?_))
        by_cases hi2 : i < 8
        · have c1 : (i : Int) < 8 := by omega
          have c0 : (0 : Int) ≤ (i : Int) := by omega
          have c3 : i ≤ 7 := by omega
          have w1 : IntKind.i64.wrap ((i : Int) + 1) = ((i + 1 : Nat) : Int) := by rw [wrap_i64 (by omega) (by omega)]; omega
          have pl := sumP_len v h i
          have pa := sumP_at v h hi2
          have ps := sumP_set v h i
          have wr : IntKind.u64.wrap (v.getD i 0 + h.getD i 0) = w64 (v.getD i 0 + h.getD i 0) := rfl
          simp only [L13r8, go_sem, eq_self, Nat.reduceAdd, Nat.reduceLT, Nat.reduceEqDiff, decide_true, c1]
          refine Lwp.cond rfl (fun _ => Lwp.skip ?_) (fun h => by cases h)
          simp only [go_sem]
          refine Lwp.seq (Lwp.block ?_)
          refine Lwp.regD hT hM ?_
          simp only [L13r10, go_sem, eq_self, Nat.reduceAdd, Nat.reduceSub, Nat.reduceLT, Nat.reduceLeDiff, Nat.reduceEqDiff, Nat.reduceDiv, Nat.reduceMod, Nat.reducePow, reduceCtorEq, decide_true, decide_false, Bool.false_eq_true, ty22, ty23, c0, c1, hi2, c3, pl, hl, pa, wr]
          refine Lwp.regI hT ?_
          simp only [L13r9, go_sem, eq_self, Nat.reduceAdd, Nat.reduceLT, Nat.reduceEqDiff, decide_true, w1]
          refine ⟨i + 1, by omega, by omega, ?_⟩
          refine weak_of rfl ?_ ?_ ?_
          · (simp only [go_sem, eq_self, Nat.reduceEqDiff]; try rfl)
          · (simp only [go_sem, eq_self, Nat.reduceEqDiff, reduceCtorEq, ps]; try rfl)
          · (simp only [go_sem, eq_self, Nat.reduceEqDiff, reduceCtorEq, ti]; try rfl)
        · have e8 : i = 8 := by omega
          subst e8
          have c1 : ¬ ((8 : Nat) : Int) < 8 := by omega
          simp only [L13r8, go_sem, eq_self, Nat.reduceAdd, Nat.reduceSub, Nat.reduceLT, Nat.reduceEqDiff, Int.reduceLT, decide_true, decide_false]
          refine Lwp.cond rfl (fun h => by cases h) (fun _ => Lwp.exit ?_)
          simp only [go_sem, eq_self]
          rw [sumP_full, sumW_comm h v]
          have sl : (sumW h v).length = 8 := tab_len _ _
          generalize sumW h v = o at *
          refine Lwp.seq (Lwp.regI hT ?_)
          simp only [L13r11, go_sem, eq_self, Nat.reduceAdd, Nat.reduceLT, Nat.reduceLeDiff, Nat.reduceEqDiff, reduceCtorEq, decide_true, ty23, sl, rl]
          refine Lwp.ret (post_val (v := A8 o) ?_ ?_)
          · simp only [go_sem, eq_self, Nat.reduceLT, Nat.reduceLeDiff, Nat.reduceEqDiff, reduceCtorEq, ty23, sl]
          · simp only [go_sem, eq_self]

end Eng


namespace Eng
open Go Go.Proofs
set_option linter.unusedSimpArgs false
set_option linter.unusedVariables false
/-- How many noughts stand behind n bytes and one. -/
def zN (n : Nat) : Nat := (239 - n % 128) % 128
def padZ (k : Nat) : List Int := 128 :: List.replicate k 0
def padL (n : Nat) : List Int := padZ (zN n) ++ bytesBE 16 (8 * n)
theorem padZ_len (k : Nat) : (padZ k).length = k + 1 := by simp [padZ]
theorem padZ_succ (k : Nat) : padZ k ++ [0] = padZ (k + 1) := by simp [padZ, List.replicate_succ']
theorem padL_len (n : Nat) : (padL n).length = zN n + 17 := by rw [padL, List.length_append, padZ_len, bytesBE_len]
theorem zN_lt (n : Nat) : zN n < 128 := Nat.mod_lt _ (by decide)
theorem padZ_U8 (k : Nat) : U8L (padZ k) := by
  intro x hx
  simp only [padZ, List.mem_cons, List.mem_replicate] at hx
  rcases hx with rfl | ⟨_, rfl⟩ <;> decide
theorem padL_U8 (n : Nat) : U8L (padL n) := by
  intro x hx
  rw [padL, List.mem_append] at hx
  rcases hx with h | h
  · exact padZ_U8 _ _ h
  · exact bytesBE_U8 _ _ _ h
theorem zN_stop (n k : Nat) (hk : k ≤ zN n) : ((n + (k + 1)) % 128 = 112) ↔ k = zN n := by
  unfold zN at *
  omega
theorem take_bytes {n x j : Nat} (hj : j < n) : (bytesBE n x).take j ++ [((x / 256 ^ (n - 1 - j) % 256 : Nat) : Int)] = (bytesBE n x).take (j + 1) := by
  rw [List.take_add_one]
  congr 1
  rw [List.getElem?_eq_getElem (by rw [bytesBE_len]; exact hj)]
  simp [bytesBE, tab]

def padV (n : Int) : AV := if 0 ≤ n ∧ n ≤ 1125899906842624 then .slc (padL n.toNat).length (ints .u8 (padL n.toNat)) else .nils
def padE (n : Int) : AV := if 0 ≤ n ∧ n ≤ 1125899906842624 then .nili else .iface 34 (.int .i64 1)

noncomputable def S16 : List AV → Option Ret := nz (sumOf (fun p : Int => match p with | n => (I64 n)) (fun p : Int => match p with | n => [.int .i64 n]) (fun p : Int => match p with | n => ⟨.tup [padV n, padE n], none⟩))
theorem S16_eq (n : Int) (h0 : I64 n) : S16 [.int .i64 n] = some ⟨.tup [padV n, padE n], none⟩ :=
  sumOf_eq (dom := (fun p : Int => match p with | n => (I64 n))) (enc := (fun p : Int => match p with | n => [.int .i64 n])) (out := (fun p : Int => match p with | n => ⟨.tup [padV n, padE n], none⟩)) n h0 (fun y _ e => by
    simp only [List.cons.injEq, AV.int.injEq, true_and, and_true] at e
    first | with_reducible rfl | simp only [e] | rfl)
theorem S16_inv {args : List AV} {r : Ret} (h : sumOf (fun p : Int => match p with | n => (I64 n)) (fun p : Int => match p with | n => [.int .i64 n]) (fun p : Int => match p with | n => ⟨.tup [padV n, padE n], none⟩) args = some r) : ∃ (n : Int), ((I64 n)) ∧ args = [.int .i64 n] ∧ r = ⟨.tup [padV n, padE n], none⟩ := by
  obtain ⟨x, h1, h2, h3⟩ := sumOf_inv h
  exact ⟨x, h1, h2.symm, h3⟩


def St34 (n : Nat) (k : Nat) : AState := { nt := 44, env := [(0, .int .i64 n), (4, .osl 8 0 (k + 1) 1)], mem := [(8, ints .u8 (padZ k))], next := 20 }
def St34i (n : Nat) (N : Nat) (j : Nat) : AState := { nt := 44, env := [(4, .osl 8 0 (zN n + 1 + j) 1), (5, .int .u64 N), (6, .int .i64 (15 - j))], mem := [(8, ints .u8 (padZ (zN n) ++ (bytesBE 16 N).take j))], next := 40 }

set_option maxRecDepth 100000 in
theorem snd16 : SndE Tryd.prog NoG 16 S16 := by
  refine snd_nz (snd_by [] [] Tryd.func16 (by kernel_rfl) lite16 nt16 rs16 trivial trivial (fun hT args r h => ?_))
  obtain ⟨n, hd0, rfl, rfl⟩ := S16_inv h
  clear h
  have hM := hM0
  refine ⟨Nat.le_of_ble_eq_true rfl, fun F => ?_⟩
  unfold L16
  refine Lwp.seq (Lwp.regI hT ?_)
  simp only [L16r0, go_sem, eq_self, Nat.reduceAdd, Nat.reduceLT, decide_true]
  refine Lwp.seq ?_
  by_cases hn0 : n < 0
  · have e1 : padV n = .nils := by unfold padV; rw [if_neg (by omega)]
    have e2 : padE n = .iface 34 (.int .i64 1) := by unfold padE; rw [if_neg (by omega)]
    refine Lwp.seq (Lwp.regI hT ?_)
    simp only [L16r1, go_sem, eq_self, Nat.reduceAdd, Nat.reduceLT, Nat.reduceEqDiff, reduceCtorEq, decide_true, hn0]
    refine Lwp.cond rfl (fun _ => ?_) (fun h => by cases h)
    refine Lwp.seq (Lwp.regI hT ?_)
    simp only [L16r2, go_sem, eq_self, Nat.reduceAdd, Nat.reduceLT, Nat.reduceEqDiff, reduceCtorEq, decide_true, ty34]
    refine Lwp.ret (post_val (v := .tup [.nils, .iface 34 (.int .i64 1)]) ?_ ?_)
    · simp only [go_sem, eq_self, Nat.reduceEqDiff, reduceCtorEq]
    · simp only [go_sem, eq_self, e1, e2]
  · by_cases hn1 : n > 1125899906842624
    · have e1 : padV n = .nils := by unfold padV; rw [if_neg (by omega)]
      have e2 : padE n = .iface 34 (.int .i64 1) := by unfold padE; rw [if_neg (by omega)]
      refine Lwp.seq (Lwp.regI hT ?_)
      simp only [L16r1, go_sem, eq_self, Nat.reduceAdd, Nat.reduceLT, Nat.reduceEqDiff, reduceCtorEq, decide_true, decide_false, Bool.false_eq_true, hn0, hn1]
      refine Lwp.cond rfl (fun _ => ?_) (fun h => by cases h)
      refine Lwp.seq (Lwp.regI hT ?_)
      simp only [L16r2, go_sem, eq_self, Nat.reduceAdd, Nat.reduceLT, Nat.reduceEqDiff, reduceCtorEq, decide_true, ty34]
      refine Lwp.ret (post_val (v := .tup [.nils, .iface 34 (.int .i64 1)]) ?_ ?_)
      · simp only [go_sem, eq_self, Nat.reduceEqDiff, reduceCtorEq]
      · simp only [go_sem, eq_self, e1, e2]
    · have e1 : padV n = .slc (padL n.toNat).length (ints .u8 (padL n.toNat)) := by unfold padV; rw [if_pos (by omega)]
      have e2 : padE n = .nili := by unfold padE; rw [if_pos (by omega)]
      refine Lwp.seq (Lwp.regI hT ?_)
      simp only [L16r1, go_sem, eq_self, Nat.reduceAdd, Nat.reduceLT, Nat.reduceEqDiff, reduceCtorEq, decide_true, decide_false, Bool.false_eq_true, hn0, hn1]
      refine Lwp.cond rfl (fun h => by cases h) (fun _ => Lwp.skip ?_)
      simp only [go_sem]
      obtain ⟨m, rfl⟩ : ∃ m : Nat, n = (m : Int) := ⟨n.toNat, by omega⟩
      have hm : m ≤ 1125899906842624 := by omega
      rw [e1, e2, Int.toNat_natCast]
      clear e1 e2 hn0 hn1 hd0
      refine Lwp.seq (Lwp.regI hT ?_)
      simp only [L16r3, go_sem, eq_self, Nat.reduceAdd, Nat.reduceLT, Nat.reduceLeDiff, Nat.reduceEqDiff, reduceCtorEq, decide_true, ty5, ty24]
      refine Lwp.seq (Lwp.block (Lwp.whl (St34 m) (fun k => k ≤ zN m) (fun k => zN m - k) 0 (Nat.zero_le _) ?_ ?_))
      · refine weak_of rfl ?_ ?_ ?_
        · (simp only [go_sem, eq_self, Nat.reduceEqDiff, reduceCtorEq, St34, padZ, List.replicate_zero, ints_cons, ints_nil]; try rfl)
        · (simp only [go_sem, eq_self, St34, padZ, List.replicate_zero, ints_cons, ints_nil]; try rfl)
        · (simp only [go_sem, eq_self, St34, padZ, List.replicate_zero, ints_cons, ints_nil]; try rfl)
      · intro k hk
        have hz := zN_lt m
        have pl := padZ_len k
        have w1 : IntKind.i64.wrap ((m : Int) + ((k + 1 : Nat) : Int)) = ((m + (k + 1) : Nat) : Int) := by rw [wrap_i64 (by omega) (by omega)]; omega
        have w2 : ((m + (k + 1) : Nat) : Int).tmod 128 = (((m + (k + 1)) % 128 : Nat) : Int) := by rw [Int.tmod_eq_emod_of_nonneg (Int.natCast_nonneg _)]; omega
        have hs := zN_stop m k hk
        unfold St34
        refine Lwp.seq ?_
        by_cases hkz : k = zN m
        · have b1 : ((((m + (k + 1)) % 128 : Nat) : Int) != 112) = false := by
            rw [hs.2 hkz]; rfl
          refine Lwp.seq (Lwp.regI hT ?_)
          simp only [L16r4, go_sem, eq_self, Nat.reduceAdd, Nat.reduceLT, Nat.reduceEqDiff, Int.reduceEq, reduceCtorEq, decide_true, ty24, w1, w2, b1]
          refine Lwp.cond rfl (fun h => by cases h) (fun _ => Lwp.exit ?_)
          simp only [go_sem, eq_self]
          subst hkz
          have c1 : IntKind.u64.wrap (m : Int) = m := wrap_u64 (by omega) (by omega)
          have c2 : IntKind.u64.wrap ((m : Int) * 8) = ((8 * m : Nat) : Int) := by rw [wrap_u64 (by omega) (by omega)]; omega
          refine Lwp.seq (Lwp.regI hT ?_)
          simp only [L16r6, go_sem, eq_self, Nat.reduceAdd, Nat.reduceLT, Nat.reduceEqDiff, reduceCtorEq, decide_true, ty3, ty22, c1, c2]
          refine Lwp.seq ?_
          refine Lwp.seq (Lwp.regI hT ?_)
          simp only [L16r7, go_sem, eq_self, Nat.reduceAdd, Nat.reduceLT, decide_true]
          refine Lwp.block (Lwp.whl (St34i m (8 * m)) (fun j => j ≤ 16) (fun j => 16 - j) 0 (Nat.zero_le _) ?_ ?_)
          · refine weak_of rfl ?_ ?_ ?_
            · (simp only [go_sem, eq_self, Nat.reduceEqDiff, Int.reduceSub, reduceCtorEq, St34i, List.take_zero, List.append_nil]; try rfl)
            · (simp only [go_sem, eq_self, Int.reduceSub, St34i, List.take_zero, List.append_nil]; try rfl)
            · (simp only [go_sem, eq_self, Int.reduceSub, St34i, List.take_zero, List.append_nil]; try rfl)
          · intro j hj
            have tl : ((bytesBE 16 (8 * m)).take j).length = j := by rw [List.length_take, bytesBE_len]; omega
            have al : (padZ (zN m) ++ (bytesBE 16 (8 * m)).take j).length = zN m + 1 + j := by rw [List.length_append, padZ_len, tl]
            have hz := zN_lt m
            have al2 : (zN m + 1 + j + 1) * 1 ≤ 140737488355328 := by omega
            have al3 : zN m + 1 + j ≤ 140737488355327 := by omega
            unfold St34i
            refine Lwp.seq ?_
            by_cases hj2 : j < 16
            · have hN : 8 * m < 18446744073709551616 := by omega
              have tb := take_bytes (n := 16) (x := 8 * m) hj2
              rw [show 16 - 1 - j = 15 - j by omega] at tb
              have j1 : (15 - (j : Int)) ≥ 0 := by omega
              have j2 : (15 - (j : Int)) = ((15 - j : Nat) : Int) := by omega
              have j3 : IntKind.i64.wrap (((15 - j : Nat) : Int) - 1) = 15 - ((j + 1 : Nat) : Int) := by rw [wrap_i64 (by omega) (by omega)]; omega
              rw [j2] at j1 ⊢
              have tb2 : padZ (zN m) ++ (bytesBE 16 (8 * m)).take j ++ [((8 * m / 256 ^ (15 - j) % 256 : Nat) : Int)] = padZ (zN m) ++ (bytesBE 16 (8 * m)).take (j + 1) := by rw [List.append_assoc, tb]
              refine Lwp.seq (Lwp.regI hT ?_)
              simp only [L16r8, go_sem, eq_self, Nat.reduceAdd, Nat.reduceLT, Nat.reduceEqDiff, decide_true, j1]
              refine Lwp.cond rfl (fun _ => Lwp.skip ?_) (fun h => by cases h)
              simp only [go_sem]
              refine Lwp.seq (Lwp.block ?_)
              refine Lwp.seq (Lwp.regI hT ?_)
              simp only [L16r10, go_sem, eq_self, Nat.reduceAdd, Nat.reduceLT, decide_true]
              refine Lwp.seq ?_
              by_cases h8 : 15 - j < 8
              · have b8 : ((15 - j : Nat) : Int) < 8 := by omega
                have s1 : IntKind.i64.wrap (8 * ((15 - j : Nat) : Int)) = ((8 * (15 - j) : Nat) : Int) := by rw [wrap_i64 (by omega) (by omega)]; omega
                have s2 := shr_byte (8 * m) (15 - j) h8
                have s3 : ¬ ((8 * (15 - j) : Nat) : Int) < 0 := by omega
                generalize 8 * m / 256 ^ (15 - j) % 256 = d at *
                generalize 8 * (15 - j) = u at *
                refine Lwp.seq (Lwp.regI hT ?_)
                simp only [L16r11, go_sem, eq_self, Nat.reduceAdd, Nat.reduceLT, Nat.reduceEqDiff, decide_true, b8]
                refine Lwp.cond rfl (fun _ => ?_) (fun h => by cases h)
                refine Lwp.regI hT ?_
                simp only [L16r12, go_sem, eq_self, Nat.reduceAdd, Nat.reduceLT, Nat.reduceEqDiff, decide_true, ty5, ty22, s1, s2, s3]
                refine Lwp.regI hT ?_
                simp only [L16r13, go_sem, eq_self, Nat.reduceAdd, Nat.reduceLT, Nat.reduceLeDiff, Nat.reduceEqDiff, Nat.reduceBEq, Nat.reduceBNe, decide_true, Bool.false_eq_true, ty5, ty24, al, al3]
                refine Lwp.regI hT ?_
                simp only [L16r9, go_sem, eq_self, Nat.reduceAdd, Nat.reduceLT, Nat.reduceEqDiff, decide_true, j3]
                refine ⟨j + 1, by omega, by omega, ?_⟩
                refine weak_of rfl ?_ ?_ ?_
                · (simp only [go_sem, eq_self, Nat.reduceEqDiff, Nat.add_assoc]; try rfl)
                · (simp only [go_sem, eq_self, Nat.reduceEqDiff, tb2]; try rfl)
                · (simp only [go_sem, eq_self]; try rfl)
              · have b8 : ¬ ((15 - j : Nat) : Int) < 8 := by omega
                have hz0 : 8 * m / 256 ^ (15 - j) % 256 = 0 := by
                  have hp : (256 : Nat) ^ 8 ≤ 256 ^ (15 - j) := Nat.pow_le_pow_right (by decide) (by omega)
                  have : 8 * m < 256 ^ (15 - j) := Nat.lt_of_lt_of_le (show 8 * m < 256 ^ 8 by omega) hp
                  rw [Nat.div_eq_of_lt this]
                rw [hz0] at tb2
                refine Lwp.seq (Lwp.regI hT ?_)
                simp only [L16r11, go_sem, eq_self, Nat.reduceAdd, Nat.reduceLT, Nat.reduceEqDiff, decide_true, decide_false, b8]
                refine Lwp.cond rfl (fun h => by cases h) (fun _ => Lwp.skip ?_)
                simp only [go_sem]
                refine Lwp.regI hT ?_
                simp only [L16r13, go_sem, eq_self, Nat.reduceAdd, Nat.reduceLT, Nat.reduceLeDiff, Nat.reduceEqDiff, Nat.reduceBEq, Nat.reduceBNe, decide_true, Bool.false_eq_true, ty5, ty24, al, al3]
                refine Lwp.regI hT ?_
                simp only [L16r9, go_sem, eq_self, Nat.reduceAdd, Nat.reduceLT, Nat.reduceEqDiff, decide_true, j3]
                refine ⟨j + 1, by omega, by omega, ?_⟩
                refine weak_of rfl ?_ ?_ ?_
                · (simp only [go_sem, eq_self, Nat.reduceEqDiff, Nat.add_assoc]; try rfl)
                · (simp only [go_sem, eq_self, Nat.reduceEqDiff, ← tb2]; try rfl)
                · (simp only [go_sem, eq_self, ← tb2]; try rfl)
            · have hj3 : j = 16 := by omega
              subst hj3
              refine Lwp.seq (Lwp.regI hT ?_)
              simp only [L16r8, go_sem, eq_self, Nat.reduceAdd, Nat.reduceSub, Nat.reduceLT, Nat.reduceEqDiff, Int.reduceGE, Int.reduceSub, Int.reduceNeg, decide_true, decide_false]
              refine Lwp.cond rfl (fun h => by cases h) (fun _ => Lwp.exit ?_)
              simp only [go_sem, eq_self, Int.reduceNeg]
              have t16 : (bytesBE 16 (8 * m)).take 16 = bytesBE 16 (8 * m) := List.take_of_length_le (by rw [bytesBE_len]; exact Nat.le_refl _)
              have pe : padZ (zN m) ++ bytesBE 16 (8 * m) = padL m := rfl
              have pl2 : (padL m).length = zN m + 1 + 16 := padL_len m
              refine Lwp.seq (Lwp.regI hT ?_)
              simp only [L16r14, go_sem, eq_self, Nat.reduceAdd, Nat.reduceLT, Nat.reduceEqDiff, Int.reduceNeg, decide_true]
              rw [pl2]
              refine Lwp.ret (post_val (v := .tup [.osl 8 0 (zN m + 1 + 16) 1, .nili]) ?_ ?_)
              · simp only [go_sem, eq_self, Nat.reduceEqDiff, Int.reduceNeg]
              · simp only [go_sem, eq_self, reduceCtorEq, t16, pe, pl2, Nat.le_refl]
        · have b1 : ((((m + (k + 1)) % 128 : Nat) : Int) != 112) = true := by
            have h2 : (m + (k + 1)) % 128 ≠ 112 := fun h => hkz (hs.1 h)
            simp only [bne_iff_ne, ne_eq]
            omega
          have a1 : (k + 1 + 1) * 1 ≤ 140737488355328 := by omega
          have a3 : k ≤ 140737488355326 := by omega
          have a2 := padZ_succ k
          refine Lwp.seq (Lwp.regI hT ?_)
          simp only [L16r4, go_sem, eq_self, Nat.reduceAdd, Nat.reduceLT, Nat.reduceEqDiff, Int.reduceEq, reduceCtorEq, decide_true, ty24, w1, w2, b1]
          refine Lwp.cond rfl (fun _ => Lwp.skip ?_) (fun h => by cases h)
          simp only [go_sem]
          refine Lwp.block ?_
          refine Lwp.regI hT ?_
          simp only [L16r5, go_sem, eq_self, Nat.reduceAdd, Nat.reduceLT, Nat.reduceLeDiff, Nat.reduceEqDiff, Nat.reduceBEq, Nat.reduceBNe, reduceCtorEq, decide_true, Bool.false_eq_true, ty5, ty24, pl, a3]
          refine ⟨k + 1, by omega, by omega, ?_⟩
          refine weak_of rfl ?_ ?_ ?_
          · (simp only [go_sem, eq_self, Nat.reduceEqDiff, reduceCtorEq]; try rfl)
          · (simp only [go_sem, eq_self, Nat.reduceEqDiff, a2]; try rfl)
          · (simp only [go_sem, eq_self]; try rfl)
end Eng


namespace Eng
open Go Go.Proofs
set_option linter.unusedSimpArgs false
set_option linter.unusedVariables false
noncomputable def S29 : List AV → Option Ret := nz (sumOf (fun p : Nat => match p with | m => (m ≤ 1125899906842624)) (fun p : Nat => match p with | m => [.int .i64 m]) (fun p : Nat => match p with | m => ⟨.slc (padL m).length (ints .u8 (padL m)), none⟩))
theorem S29_eq (m : Nat) (h0 : m ≤ 1125899906842624) : S29 [.int .i64 m] = some ⟨.slc (padL m).length (ints .u8 (padL m)), none⟩ :=
  sumOf_eq (dom := (fun p : Nat => match p with | m => (m ≤ 1125899906842624))) (enc := (fun p : Nat => match p with | m => [.int .i64 m])) (out := (fun p : Nat => match p with | m => ⟨.slc (padL m).length (ints .u8 (padL m)), none⟩)) m h0 (fun y _ e => by
    simp only [List.cons.injEq, AV.int.injEq, Int.ofNat_inj, true_and, and_true] at e
    first | with_reducible rfl | simp only [e] | rfl)
theorem S29_inv {args : List AV} {r : Ret} (h : sumOf (fun p : Nat => match p with | m => (m ≤ 1125899906842624)) (fun p : Nat => match p with | m => [.int .i64 m]) (fun p : Nat => match p with | m => ⟨.slc (padL m).length (ints .u8 (padL m)), none⟩) args = some r) : ∃ (m : Nat), ((m ≤ 1125899906842624)) ∧ args = [.int .i64 m] ∧ r = ⟨.slc (padL m).length (ints .u8 (padL m)), none⟩ := by
  obtain ⟨x, h1, h2, h3⟩ := sumOf_inv h
  exact ⟨x, h1, h2.symm, h3⟩


def St35 (n : Nat) (k : Nat) : AState := { nt := 25, env := [(0, .int .i64 n), (3, .osl 1 0 (k + 1) 1)], mem := [(1, ints .u8 (padZ k))], next := 20 }
theorem dig8 : dig 8 = [8] := by rw [dig_pos (by decide), show 8 / 4294967296 = 0 from rfl, dig_zero]; rfl

set_option maxRecDepth 100000 in
theorem snd29 : SndE Tryd.prog NoG 29 S29 := by
  refine snd_nz (snd_by [(35, S35), (31, S31), (30, S30)] [] Tryd.func29 (by kernel_rfl) lite29 nt29 rs29 ⟨snd35, snd31, snd30, trivial⟩ trivial (fun hT args r h => ?_))
  obtain ⟨m, hd0, rfl, rfl⟩ := S29_inv h
  clear h
  have hM := hM0
  refine ⟨Nat.le_of_ble_eq_true rfl, fun F => ?_⟩
  unfold L29
  have hz := zN_lt m
  have hm : m < 18446744073709551616 := by omega
  have f62 : S31 [.slc 1 [.int .u64 (m : Nat)]] = some ⟨.slc (dig (m)).length (ints .u64 (dig (m))), none⟩ := by
    have h := S31_eq [(m : Int)] (fun x hx => by rw [List.mem_singleton.1 hx]; omega) (by simp)
    have e : v64 [(m : Int)] = m := by simp [v64]
    rw [e] at h
    exact h
  have dlm : (dig m).length ≤ 2 := by rw [dig_len_le]; omega
  have f61 : S35 [.slc (dig (m)).length (ints .u64 (dig (m))), .slc 1 [.int .u64 8]] = some ⟨.slc (dig (m * 8)).length (ints .u64 (dig (m * 8))), none⟩ := by
    have h := S35_eq m 8 (by omega) (by rw [dig8]; decide)
    rw [dig8] at h
    exact h
  have dl8 : (dig (m * 8)).length ≤ 2 := by rw [dig_len_le]; omega
  have f63 : S30 [.slc (dig (m * 8)).length (ints .u64 (dig (m * 8))), .int .i64 16] = some ⟨.slc 16 (ints .u8 (bytesBE 16 (8 * m))), none⟩ := by
    have h := S30_eq (m * 8) 16 (by omega) (by decide)
    rw [Nat.mul_comm m 8] at h ⊢
    exact h
  have bl := bytesBE_len 16 (8 * m)
  have pe : padZ (zN m) ++ bytesBE 16 (8 * m) = padL m := rfl
  have pl2 : (padL m).length = zN m + 1 + 16 := padL_len m
  have c1 : IntKind.u64.wrap (m : Int) = m := wrap_u64 (by omega) (by omega)
  generalize dig (m * 8) = d8 at *
  generalize dig m = dm at *
  refine Lwp.seq (Lwp.regI hT ?_)
  simp only [L29r0, go_sem, eq_self, Nat.reduceLT, decide_true]
  refine Lwp.seq (Lwp.regI hT ?_)
  simp only [L29r1, go_sem, eq_self, Nat.reduceAdd, Nat.reduceLT, Nat.reduceLeDiff, Nat.reduceEqDiff, reduceCtorEq, decide_true, ty5, ty24]
  refine Lwp.seq (Lwp.block (Lwp.whl (St35 m) (fun k => k ≤ zN m) (fun k => zN m - k) 0 (Nat.zero_le _) ?_ ?_))
  · refine weak_of rfl ?_ ?_ ?_
    · (simp only [go_sem, eq_self, Nat.reduceEqDiff, reduceCtorEq, St35, padZ, List.replicate_zero, ints_cons, ints_nil]; try rfl)
    · (simp only [go_sem, eq_self, St35, padZ, List.replicate_zero, ints_cons, ints_nil]; try rfl)
    · (simp only [go_sem, eq_self, St35, padZ, List.replicate_zero, ints_cons, ints_nil]; try rfl)
  · intro k hk
    have pl := padZ_len k
    have w1 : IntKind.i64.wrap ((m : Int) + ((k + 1 : Nat) : Int)) = ((m + (k + 1) : Nat) : Int) := by rw [wrap_i64 (by omega) (by omega)]; omega
    have w2 : ((m + (k + 1) : Nat) : Int).tmod 128 = (((m + (k + 1)) % 128 : Nat) : Int) := by rw [Int.tmod_eq_emod_of_nonneg (Int.natCast_nonneg _)]; omega
    have hs := zN_stop m k hk
    unfold St35
    refine Lwp.seq ?_
    by_cases hkz : k = zN m
    · have b1 : ((((m + (k + 1)) % 128 : Nat) : Int) != 112) = false := by
        rw [hs.2 hkz]; rfl
      refine Lwp.seq (Lwp.regI hT ?_)
      simp only [L29r2, go_sem, eq_self, Nat.reduceAdd, Nat.reduceLT, Nat.reduceEqDiff, Int.reduceEq, reduceCtorEq, decide_true, ty24, w1, w2, b1]
      refine Lwp.cond rfl (fun h => by cases h) (fun _ => Lwp.exit ?_)
      simp only [go_sem, eq_self]
      subst hkz
      have a1 : (zN m + 1 + 16) * 1 ≤ 140737488355328 := by omega
      have a2 : zN m + 1 + 16 ≤ 140737488355328 := by omega
      have a3 : zN m ≤ 140737488355311 := by omega
      have a4 : zN m + 1 ≤ 140737488355312 := by omega
      refine Lwp.seq (Lwp.regI hT ?_)
      simp only [L29r4, go_sem, eq_self, Nat.reduceAdd, Nat.reduceLT, Nat.reduceLeDiff, Nat.reduceEqDiff, reduceCtorEq, decide_true, Bool.false_eq_true, ty3, ty22, ty25, ty58, c1, f62, f61]
      refine Lwp.seq (Lwp.regI hT ?_)
      simp only [L29r5, go_sem, eq_self, Nat.reduceAdd, Nat.reduceLT, Nat.reduceEqDiff, Nat.reduceBEq, Nat.reduceBNe, reduceCtorEq, decide_true, Bool.false_eq_true, ty5, ty24, f63, bl, pl, a2, ints_append, pe]
      rw [pl2]
      refine Lwp.ret (post_val (v := .osl 1 0 (zN m + 1 + 16) 1) ?_ ?_)
      · simp only [go_sem, eq_self, Nat.reduceEqDiff, reduceCtorEq]
      · simp only [go_sem, eq_self, reduceCtorEq, pl2, Nat.le_refl]
    · have b1 : ((((m + (k + 1)) % 128 : Nat) : Int) != 112) = true := by
        have h2 : (m + (k + 1)) % 128 ≠ 112 := fun h => hkz (hs.1 h)
        simp only [bne_iff_ne, ne_eq]
        omega
      have a1 : (k + 1 + 1) * 1 ≤ 140737488355328 := by omega
      have a3 : k ≤ 140737488355326 := by omega
      have a2 := padZ_succ k
      refine Lwp.seq (Lwp.regI hT ?_)
      simp only [L29r2, go_sem, eq_self, Nat.reduceAdd, Nat.reduceLT, Nat.reduceEqDiff, Int.reduceEq, reduceCtorEq, decide_true, ty24, w1, w2, b1]
      refine Lwp.cond rfl (fun _ => Lwp.skip ?_) (fun h => by cases h)
      simp only [go_sem]
      refine Lwp.block ?_
      refine Lwp.regI hT ?_
      simp only [L29r3, go_sem, eq_self, Nat.reduceAdd, Nat.reduceLT, Nat.reduceLeDiff, Nat.reduceEqDiff, Nat.reduceBEq, Nat.reduceBNe, reduceCtorEq, decide_true, Bool.false_eq_true, ty5, ty24, pl, a3]
      refine ⟨k + 1, by omega, by omega, ?_⟩
      refine weak_of rfl ?_ ?_ ?_
      · (simp only [go_sem, eq_self, Nat.reduceEqDiff, reduceCtorEq]; try rfl)
      · (simp only [go_sem, eq_self, Nat.reduceEqDiff, a2]; try rfl)
      · (simp only [go_sem, eq_self]; try rfl)

end Eng


namespace Eng
open Go Go.Proofs
set_option linter.unusedSimpArgs false
set_option linter.unusedVariables false
set_option maxHeartbeats 4000000
def blk (m : List Int) (n : Nat) : List Int := (m.drop (128 * n)).take 128
noncomputable def hs (m : List Int) : Nat → List Int
  | 0 => hTab
  | n + 1 => stepV (hs m n) (blk m n)
theorem hs_W8 (m : List Int) : ∀ n, W8 (hs m n)
  | 0 => hTab_W8
  | n + 1 => stepV_W8 _ _
theorem blk_len {m : List Int} {n : Nat} (h : 128 * (n + 1) ≤ m.length) : (blk m n).length = 128 := by
  unfold blk; rw [List.length_take, List.length_drop]; omega
theorem blk_U8 {m : List Int} (h : U8L m) (n : Nat) : U8L (blk m n) := fun x hx => h x (List.mem_of_mem_drop (List.mem_of_mem_take hx))
theorem blk_app {b p : List Int} {n : Nat} (h : 128 * (n + 1) ≤ b.length) : blk (b ++ p) n = blk b n := by
  unfold blk
  rw [List.drop_append_of_le_length (by omega), List.take_append_of_le_length (by rw [List.length_drop]; omega)]
theorem U8L.app {a b : List Int} (ha : U8L a) (hb : U8L b) : U8L (a ++ b) := fun x hx => (List.mem_append.1 hx).elim (ha x) (hb x)
def dgs (h : List Int) : Nat → List Int
  | 0 => []
  | j + 1 => dgs h j ++ bytesBE 8 (h.getD j 0).toNat
theorem dgs_len (h : List Int) : ∀ j, (dgs h j).length = 8 * j
  | 0 => rfl
  | j + 1 => by rw [dgs, List.length_append, dgs_len h j, bytesBE_len]; omega
theorem dgs_U8 (h : List Int) : ∀ j, U8L (dgs h j)
  | 0 => fun x hx => by cases hx
  | j + 1 => (dgs_U8 h j).app (bytesBE_U8 _ _)
noncomputable def pm (b : List Int) : List Int := b ++ padL b.length
theorem pm_len (b : List Int) : (pm b).length % 128 = 0 := by
  unfold pm; rw [List.length_append, padL_len]; unfold zN; omega
theorem pm_U8 {b : List Int} (h : U8L b) : U8L (pm b) := h.app (padL_U8 _)
noncomputable def sumL (b : List Int) : List Int := dgs (hs (pm b) ((pm b).length / 128)) 6
theorem sumL_len (b : List Int) : (sumL b).length = 48 := dgs_len _ 6
theorem step_on {h b : List Int} (hh : W8 h) (hb : U8L b) (hl : b.length = 128) : S11 [A8 h, .slc 128 (ints .u8 b)] = some ⟨.tup [A8 (stepV h b), .nili], none⟩ := by
  have f := S11_eq h b hh hb (by omega)
  rw [hl] at f
  unfold stepA schE at f
  rw [if_pos hl, if_pos hl] at f
  exact f
noncomputable def SmSt (b : List Int) (n : Nat) : AState := { nt := 81, env := [(0, .slc b.length (ints .u8 b)), (2, .nils), (3, .slc (padL b.length).length (ints .u8 (padL b.length))), (4, .nili), (5, .own 12 0), (6, .int .i64 ((128 * n : Nat) : Int))], mem := [(12, ints .u64 (hs (pm b) n))], next := 100 }
/-- What is left to be taken. -/
def rest2 (L n k : Nat) : AV := if 128 * k < L then .osl 105 (128 * (k - n)) (L - 128 * k) 1 else .slc 0 []
noncomputable def SmSt2 (b : List Int) (n k : Nat) : AState := { nt := 81, env := [(0, .slc b.length (ints .u8 b)), (2, .nils), (5, .own 12 0), (7, rest2 (pm b).length n k)], mem := [(105, ints .u8 ((pm b).drop (128 * n))), (12, ints .u64 (hs (pm b) k))], next := 200 }
theorem rest2_in (L n k : Nat) (x y : List AV) : allIn [(105, x), (12, y)] (rest2 L n k).ids = true := by unfold rest2; split <;> rfl
def OSt (h : List Int) (i : Nat) : AState := { nt := 81, env := [(61, .osl 12 0 6 1), (62, .int .i64 6), (63, .int .i64 i), (8, .osl 50 0 (8 * i) 1)], mem := [(50, ints .u8 (dgs h i)), (12, ints .u64 h)], next := 300 }
def ISt (h : List Int) (i j : Nat) : AState := { nt := 81, env := [(61, .osl 12 0 6 1), (62, .int .i64 6), (63, .int .i64 i), (10, .int .u64 (h.getD i 0)), (11, .int .i64 (7 - (j : Int))), (8, .osl 50 0 (8 * i + j) 1)], mem := [(50, ints .u8 (dgs h i ++ (bytesBE 8 (h.getD i 0).toNat).take j)), (12, ints .u64 h)], next := 400 }
theorem gG0 : find gG 0 = some (ints .u64 hTab) := by rw [hTab_eq]; rfl
noncomputable def S14 : List AV → Option Ret := nz (sumOf (fun p : List Int => match p with | b => (U8L b) ∧ (b.length ≤ 1125899906842624)) (fun p : List Int => match p with | b => [.slc b.length (ints .u8 b)]) (fun p : List Int => match p with | b => ⟨.slc 48 (ints .u8 (sumL b)), none⟩))
theorem S14_eq (b : List Int) (h0 : U8L b) (h1 : b.length ≤ 1125899906842624) : S14 [.slc b.length (ints .u8 b)] = some ⟨.slc 48 (ints .u8 (sumL b)), none⟩ :=
  sumOf_eq (dom := (fun p : List Int => match p with | b => (U8L b) ∧ (b.length ≤ 1125899906842624))) (enc := (fun p : List Int => match p with | b => [.slc b.length (ints .u8 b)])) (out := (fun p : List Int => match p with | b => ⟨.slc 48 (ints .u8 (sumL b)), none⟩)) b ⟨h0, h1⟩ (fun y _ e => by
    simp only [List.cons.injEq, AV.slc.injEq, ints_injEq, and_true] at e
    first | with_reducible rfl | simp only [e] | rfl)
theorem S14_inv {args : List AV} {r : Ret} (h : sumOf (fun p : List Int => match p with | b => (U8L b) ∧ (b.length ≤ 1125899906842624)) (fun p : List Int => match p with | b => [.slc b.length (ints .u8 b)]) (fun p : List Int => match p with | b => ⟨.slc 48 (ints .u8 (sumL b)), none⟩) args = some r) : ∃ (b : List Int), ((U8L b) ∧ (b.length ≤ 1125899906842624)) ∧ args = [.slc b.length (ints .u8 b)] ∧ r = ⟨.slc 48 (ints .u8 (sumL b)), none⟩ := by
  obtain ⟨x, h1, h2, h3⟩ := sumOf_inv h
  exact ⟨x, h1, h2.symm, h3⟩

set_option maxRecDepth 100000 in
theorem snd14 : SndG Tryd.prog gG 14 S14 := by
  refine snd_nz (sndG_by (gl := gG) [(11, S11), (16, S16)] [] Tryd.func14 (by kernel_rfl) lite14 nt14 rs14 ⟨(by first | exact snd11 | exact snd11.toG | exact SndE.mono up_C snd11 | exact SndE.mono up_D snd11 | exact SndE.mono up_N snd11), (by first | exact snd16 | exact snd16.toG | exact SndE.mono up_C snd16 | exact SndE.mono up_D snd16 | exact SndE.mono up_N snd16), trivial⟩ trivial (fun hT args r h => ?_))
  obtain ⟨b, ⟨hd0, hd1⟩, rfl, rfl⟩ := S14_inv h
  clear h
  have hM := hM0
  refine ⟨Nat.le_of_ble_eq_true rfl, fun F => ?_⟩
  unfold L14
  have f16 := S16_eq b.length (by constructor <;> omega)
  have e1 : padV b.length = .slc (padL b.length).length (ints .u8 (padL b.length)) := by unfold padV; rw [if_pos (by omega), Int.toNat_natCast]
  have e2 : padE b.length = .nili := by unfold padE; rw [if_pos (by omega)]
  rw [e1, e2] at f16
  have hw := hTab_W8.1
  refine Lwp.seq (Lwp.regI hT ?_)
  simp only [L14r0, go_sem, eq_self, Nat.reduceLT, decide_true]
  refine Lwp.seq (Lwp.regI hT ?_)
  simp only [L14r1, go_sem, eq_self, Nat.reduceAdd, Nat.reduceLT, Nat.reduceEqDiff, reduceCtorEq, decide_true, Bool.false_eq_true, ty24, f16]
  refine Lwp.seq ?_
  refine Lwp.seq (Lwp.regI hT ?_)
  simp only [L14r2, go_sem, isC, eq_self, Nat.reduceAdd, Nat.reduceLT, Nat.reduceEqDiff, reduceCtorEq, decide_true, ty30]
  refine Lwp.cond rfl (fun h => by cases h) (fun _ => Lwp.skip ?_)
  simp only [go_sem]
  refine Lwp.seq (Lwp.regI hT ?_)
  simp only [L14r4, go_sem, eq_self, Nat.reduceAdd, Nat.reduceLT, Nat.reduceLeDiff, Nat.reduceEqDiff, reduceCtorEq, decide_true, ty23, gG0, hw]
  refine Lwp.seq (Lwp.regI hT ?_)
  simp only [L14r5, go_sem, eq_self, Nat.reduceAdd, Nat.reduceLT, decide_true]
  refine Lwp.seq (Lwp.block (Lwp.whl (SmSt b) (fun n => 128 * n ≤ b.length) (fun n => b.length - 128 * n) 0 (Nat.zero_le _) ?_ ?_))
  · refine weak_of rfl ?_ ?_ ?_
    · (simp only [go_sem, eq_self, Nat.reduceMul, Nat.reduceEqDiff, reduceCtorEq, SmSt, hs]; try rfl)
    · (simp only [go_sem, eq_self, Nat.reduceMul, SmSt, hs]; try rfl)
    · (simp only [go_sem, eq_self, Nat.reduceMul, SmSt, hs]; try rfl)
  · intro n hn
    simp only [SmSt]
    have c1 : IntKind.i64.wrap ((b.length : Int) - ((128 * n : Nat) : Int)) = ((b.length - 128 * n : Nat) : Int) := by rw [wrap_i64 (by omega) (by omega)]; omega
    have hv := (hs_W8 (pm b) n).1
    refine Lwp.seq (Lwp.seq (Lwp.regI hT ?_))
    by_cases hg : 128 * (n + 1) ≤ b.length
    · have b1 : ((b.length - 128 * n : Nat) : Int) ≥ 128 := by omega
      have b2 : IntKind.i64.wrap (((128 * n : Nat) : Int) + 128) = ((128 * (n + 1) : Nat) : Int) := by rw [wrap_i64 (by omega) (by omega)]; omega
      have f11 := step_on (hs_W8 (pm b) n) (blk_U8 hd0 n) (blk_len hg)
      have eb : hs (pm b) (n + 1) = stepV (hs (pm b) n) (blk b n) := by rw [hs, pm, blk_app hg]
      rw [← eb] at f11
      have hv2 := (hs_W8 (pm b) (n + 1)).1
      simp only [L14r6, go_sem, eq_self, Nat.reduceAdd, Nat.reduceLT, Nat.reduceEqDiff, reduceCtorEq, decide_true, ty24, c1, b1]
      refine Lwp.cond rfl (fun _ => Lwp.skip ?_) (fun h => by cases h)
      simp only [go_sem]
      refine Lwp.seq (Lwp.block ?_)
      have a1 : (0 : Int) ≤ ((128 * n : Nat) : Int) := by omega
      have a2 : ((128 * n : Nat) : Int) ≤ ((128 * (n + 1) : Nat) : Int) := by omega
      have a3 : ((128 * (n + 1) : Nat) : Int) ≤ (b.length : Int) := by omega
      have a4 : 128 * (n + 1) - 128 * n = 128 := by omega
      have a5 : 128 * n ≤ 128 * (n + 1) := by omega
      have eb2 : sub (ints .u8 b) (128 * n) 128 = ints .u8 (blk b n) := by rw [ints_sub]; rfl
      have s8 : sub (ints .u64 (hs (pm b) n)) 0 8 = ints .u64 (hs (pm b) n) := by rw [ints_sub, List.drop_zero, List.take_of_length_le (by omega)]
      generalize hh2 : hs (pm b) (n + 1) = h2 at *
      generalize hs (pm b) n = h1 at *
      have a0 : (0 : Int) ≤ ((128 * (n + 1) : Nat) : Int) := by omega
      refine Lwp.seq (Lwp.regD hT hM ?_)
      simp only [L14r8, go_sem, List.isEmpty_nil, eq_self, Nat.reduceAdd, Nat.reduceSub, Nat.reduceLT, Nat.reduceLeDiff, Nat.reduceEqDiff, Nat.reduceDiv, Nat.reduceMod, Nat.reducePow, reduceCtorEq, decide_true, decide_false, Bool.false_eq_true, ty5, ty23, ty24, b2, hv, a0, a1, a2, a3, a4, eb2, s8, f11, hv2, Int.toNat_natCast, sliceA, boundA, Nat.mul_one, ints_len, Nat.le_refl]
      refine Lwp.seq (Lwp.regI hT ?_)
      simp only [L14r9, go_sem, isC, eq_self, Nat.reduceAdd, Nat.reduceLT, Nat.reduceEqDiff, reduceCtorEq, decide_true, ty30]
      refine Lwp.cond rfl (fun h => by cases h) (fun _ => Lwp.skip ?_)
      simp only [go_sem]
      refine Lwp.regI hT ?_
      simp only [L14r7, go_sem, eq_self, Nat.reduceAdd, Nat.reduceLT, Nat.reduceEqDiff, reduceCtorEq, decide_true, b2]
      refine ⟨n + 1, hg, by omega, ?_⟩
      refine weak_of rfl ?_ ?_ ?_
      · (simp only [go_sem, eq_self, Nat.reduceEqDiff, reduceCtorEq]; try rfl)
      · (simp only [go_sem, eq_self, hh2]; try rfl)
      · (simp only [go_sem, eq_self, hh2]; try rfl)
    · have b1 : ¬ ((b.length - 128 * n : Nat) : Int) ≥ 128 := by omega
      simp only [L14r6, go_sem, eq_self, Nat.reduceAdd, Nat.reduceLT, Nat.reduceEqDiff, reduceCtorEq, decide_true, decide_false, ty24, c1, b1]
      refine Lwp.cond rfl (fun h => by cases h) (fun _ => Lwp.exit ?_)
      simp only [go_sem, eq_self]
      have a0 : (0 : Int) ≤ ((128 * n : Nat) : Int) := by omega
      have a1 : ((128 * n : Nat) : Int) ≤ (b.length : Int) := by omega
      have d1 : sub (ints .u8 b) (128 * n) (b.length - 128 * n) = ints .u8 (b.drop (128 * n)) := by
        rw [ints_sub, List.take_of_length_le (by rw [List.length_drop]; omega)]
      have d2 : (b.drop (128 * n)).length = b.length - 128 * n := List.length_drop
      have d3 : b.drop (128 * n) ++ padL b.length = (pm b).drop (128 * n) := by
        unfold pm; rw [List.drop_append_of_le_length hn]
      have d4 : (padL b.length).length ≤ 144 := by rw [padL_len]; have := zN_lt b.length; omega
      have d5 : (pm b).length = b.length + (padL b.length).length := by unfold pm; rw [List.length_append]
      have d6 : ((pm b).drop (128 * n)).length = (pm b).length - 128 * n := List.length_drop
      have q1 : (b.length - 128 * n) * 1 ≤ 140737488355328 := by omega
      have q2 : (b.length - 128 * n + (padL b.length).length) * 1 ≤ 140737488355328 := by omega
      have q3 : 0 + (b.length - 128 * n) = b.length - 128 * n := by omega
      have q4 : b.length - 128 * n ≤ 140737488355328 := by omega
      have q5 : b.length - 128 * n + (padL b.length).length ≤ 140737488355328 := by omega
      have q6 : (b.length - 128 * n) * 1 = b.length - 128 * n := Nat.mul_one _
      refine Lwp.seq (Lwp.regI hT ?_)
      simp only [L14r11, go_sem, eq_self, Nat.reduceAdd, Nat.reduceLT, Nat.reduceLeDiff, Nat.reduceEqDiff, Nat.reduceBEq, Nat.reduceBNe, reduceCtorEq, decide_true, Bool.false_eq_true, ty5, ty24, sliceA, boundA, a0, a1, d1, d2, d3, q3, q4, q5, q6, List.nil_append, ints_append, List.length_nil]
      have hM8 := pm_len b
      have hlt : 128 * n < (pm b).length := by rw [d5, padL_len]; omega
      have eL : b.length - 128 * n + (padL b.length).length = (pm b).length - 128 * n := by omega
      have er : rest2 (pm b).length n n = .osl 105 0 ((pm b).length - 128 * n) 1 := by unfold rest2; rw [if_pos hlt, Nat.sub_self, Nat.mul_zero]
      refine Lwp.seq (Lwp.block (Lwp.whl (SmSt2 b n) (fun k => n ≤ k ∧ 128 * k ≤ (pm b).length) (fun k => (pm b).length - 128 * k) n ⟨Nat.le_refl _, Nat.le_of_lt hlt⟩ ?_ ?_))
      · refine weak_of rfl ?_ ?_ ?_
        · (simp only [go_sem, eq_self, Nat.reduceEqDiff, reduceCtorEq, SmSt2, er, eL]; try rfl)
        · (simp only [go_sem, eq_self, Nat.reduceEqDiff, SmSt2, er, eL]; try rfl)
        · (simp only [go_sem, eq_self, Nat.reduceEqDiff, SmSt2, er]; try rfl)
      · rintro k ⟨hk1, hk2⟩
        simp only [SmSt2]
        by_cases hk : 128 * k < (pm b).length
        · have hk3 : 128 * (k + 1) ≤ (pm b).length := by omega
          have rv : rest2 (pm b).length n k = .osl 105 (128 * (k - n)) ((pm b).length - 128 * k) 1 := by unfold rest2; rw [if_pos hk]
          have c2 : (((pm b).length - 128 * k : Nat) : Int) > 0 := by omega
          have f11 := step_on (hs_W8 (pm b) k) (blk_U8 (pm_U8 hd0) k) (blk_len hk3)
          have eb : hs (pm b) (k + 1) = stepV (hs (pm b) k) (blk (pm b) k) := rfl
          rw [← eb] at f11
          have hv := (hs_W8 (pm b) k).1
          have hv2 := (hs_W8 (pm b) (k + 1)).1
          have s8 : sub (ints .u64 (hs (pm b) k)) 0 8 = ints .u64 (hs (pm b) k) := by rw [ints_sub, List.drop_zero, List.take_of_length_le (by omega)]
          have sb : sub (ints .u8 ((pm b).drop (128 * n))) (128 * (k - n)) 128 = ints .u8 (blk (pm b) k) := by
            rw [ints_sub, List.drop_drop, show 128 * n + 128 * (k - n) = 128 * k by omega]; rfl
          have g1 : 128 ≤ (pm b).length - 128 * k := by omega
          have g2 : (128 : Int) ≤ (((pm b).length - 128 * k : Nat) : Int) := by omega
          have g3 : 128 * (k - n) + 128 ≤ ((pm b).drop (128 * n)).length := by rw [d6]; omega
          have g4 : 128 * (k - n) + 128 ≤ (pm b).length - 128 * n := by omega
          have rn : (if 128 < (pm b).length - 128 * k then AV.osl 105 (128 * (k - n) + 128) ((pm b).length - 128 * k - 128) 1 else AV.slc 0 []) = rest2 (pm b).length n (k + 1) := by
            unfold rest2
            by_cases h5 : 128 * (k + 1) < (pm b).length
            · rw [if_pos (by omega), if_pos h5, show 128 * (k - n) + 128 = 128 * (k + 1 - n) by omega, show (pm b).length - 128 * k - 128 = (pm b).length - 128 * (k + 1) by omega]
            · rw [if_neg (by omega), if_neg h5]
          have rn' : (if 128 < (pm b).length - 128 * k then some (AV.osl 105 (128 * (k - n) + 128) ((pm b).length - 128 * k - 128) 1) else some (AV.slc 0 [])) = some (rest2 (pm b).length n (k + 1)) := by rw [← rn]; split <;> rfl
          rw [rv]
          generalize hh2 : hs (pm b) (k + 1) = h2 at *
          generalize hs (pm b) k = h1 at *
          refine Lwp.seq ?_
          refine Lwp.seq (Lwp.regI hT ?_)
          simp only [L14r12, go_sem, eq_self, Nat.reduceAdd, Nat.reduceLT, Nat.reduceEqDiff, reduceCtorEq, decide_true, ty24, c2]
          refine Lwp.cond rfl (fun _ => Lwp.skip ?_) (fun h => by cases h)
          simp only [go_sem]
          refine Lwp.seq (Lwp.block ?_)
          refine Lwp.seq (Lwp.regD hT hM ?_)
          simp only [L14r14, go_sem, eq_self, Nat.reduceAdd, Nat.reduceSub, Nat.reduceLT, Nat.reduceLeDiff, Nat.reduceEqDiff, Nat.reduceDiv, Nat.reduceMod, Nat.reducePow, Int.reduceLE, Int.reduceToNat, reduceCtorEq, decide_true, decide_false, Bool.false_eq_true, ty5, ty23, ty24, hv, hv2, s8, sb, g2, g4, d6, f11, sliceA, boundA, Nat.mul_one, ints_len, Nat.le_refl]
          refine Lwp.seq (Lwp.regI hT ?_)
          simp only [L14r15, go_sem, isC, eq_self, Nat.reduceAdd, Nat.reduceLT, Nat.reduceEqDiff, reduceCtorEq, decide_true, ty30]
          refine Lwp.cond rfl (fun h => by cases h) (fun _ => Lwp.skip ?_)
          simp only [go_sem]
          refine Lwp.regI hT ?_
          simp only [L14r13, go_sem, eq_self, Nat.reduceAdd, Nat.reduceLT, Nat.reduceEqDiff, Int.reduceLE, Int.reduceToNat, reduceCtorEq, decide_true, Bool.false_eq_true, ty5, ty24, sliceA, boundA, g2, rn', Nat.mul_one]
          refine ⟨k + 1, ⟨by omega, hk3⟩, by omega, ?_⟩
          refine weak_of rfl ?_ ?_ ?_
          · (simp only [go_sem, eq_self, Nat.reduceEqDiff, reduceCtorEq]; try rfl)
          · (simp only [go_sem, eq_self, Nat.reduceEqDiff, hh2]; try rfl)
          · (simp only [go_sem, eq_self, Nat.reduceEqDiff, hh2, rest2_in]; try rfl)
        · have rv : rest2 (pm b).length n k = .slc 0 [] := by unfold rest2; rw [if_neg hk]
          have c2 : ¬ (((0 : Nat) : Int) > 0) := by omega
          have ek : k = (pm b).length / 128 := by omega
          rw [rv]
          refine Lwp.seq ?_
          refine Lwp.seq (Lwp.regI hT ?_)
          simp only [L14r12, go_sem, eq_self, Nat.reduceAdd, Nat.reduceLT, Nat.reduceEqDiff, Int.reduceGT, reduceCtorEq, decide_true, decide_false, ty24]
          refine Lwp.cond rfl (fun h => by cases h) (fun _ => Lwp.exit ?_)
          simp only [go_sem, eq_self]
          refine Lwp.seq (Lwp.regI hT ?_)
          simp only [L14r17, go_sem, eq_self, Nat.reduceAdd, Nat.reduceLT, decide_true]
          refine Lwp.seq ?_
          refine Lwp.seq (Lwp.regI hT ?_)
          simp only [L14r18, go_sem, eq_self, Nat.reduceAdd, Nat.reduceSub, Nat.reduceLT, Nat.reduceLeDiff, Nat.reduceEqDiff, Int.reduceLE, Int.reduceToNat, reduceCtorEq, decide_true, Bool.false_eq_true, ty22, ty23, ty25, (hs_W8 (pm b) k).1, sliceA, boundA]
          have hW := hs_W8 (pm b) k
          have eS : sumL b = dgs (hs (pm b) k) 6 := by unfold sumL; rw [ek]
          rw [eS]
          generalize hs (pm b) k = h at *
          have hl := hW.1
          refine Lwp.block (Lwp.range (OSt h) 6 ?_ (fun i hi => ?_) ?_)
          · refine Weak.trans (weak_nil (t := 8) (id := 50) (sz := 1) rfl rfl) ?_
            refine weak_of rfl ?_ ?_ ?_
            · (simp only [go_sem, eq_self, Nat.reduceMul, Nat.reduceEqDiff, reduceCtorEq, OSt, dgs]; try rfl)
            · (simp only [go_sem, eq_self, Nat.reduceMul, Nat.reduceEqDiff, OSt, dgs]; try rfl)
            · (simp only [go_sem, eq_self, Nat.reduceMul, Nat.reduceEqDiff, OSt, dgs]; try rfl)
          · unfold OSt
            have a1 : (i : Int) < 6 := by omega
            have a2 : (0 : Int) ≤ (i : Int) := by omega
            have a3 : i < 8 := by omega
            have a4 := wrap_succ hi (by decide)
            have hx := hW.at i
            obtain ⟨x, hxx⟩ : ∃ x : Nat, h.getD i 0 = (x : Int) := ⟨(h.getD i 0).toNat, by omega⟩
            have xl : x < 18446744073709551616 := by omega
            have dl := dgs_len h i
            refine Lwp.seq (Lwp.regI hT ?_)
            simp only [L14r19, go_sem, eq_self, Nat.reduceAdd, Nat.reduceLT, Nat.reduceEqDiff, decide_true, a1]
            refine Lwp.seq (Lwp.cond rfl (fun _ => Lwp.skip ?_) (fun h => by cases h))
            simp only [go_sem]
            refine Lwp.seq (Lwp.block ?_)
            refine Lwp.seq (Lwp.regI hT ?_)
            simp only [L14r20, go_sem, eq_self, Nat.reduceAdd, Nat.reduceLT, Nat.reduceLeDiff, Nat.reduceEqDiff, decide_true, Bool.false_eq_true, ty22, ty25, a1, a2, a3, hl, Int.toNat_natCast]
            refine Lwp.seq (Lwp.regI hT ?_)
            simp only [L14r21, go_sem, eq_self, Nat.reduceAdd, Nat.reduceLT, decide_true]
            have dn : dgs h (i + 1) = dgs h i ++ bytesBE 8 x := by rw [dgs, hxx, Int.toNat_natCast]
            refine Lwp.block (Lwp.whl (ISt h i) (fun j => j ≤ 8) (fun j => 8 - j) 0 (Nat.zero_le _) ?_ ?_)
            · refine weak_of rfl ?_ ?_ ?_
              · (simp only [go_sem, eq_self, Nat.reduceEqDiff, Int.reduceSub, ISt, List.take_zero, List.append_nil, Nat.add_zero]; try rfl)
              · (simp only [go_sem, eq_self, Nat.reduceEqDiff, Int.reduceSub, ISt, List.take_zero, List.append_nil, Nat.add_zero]; try rfl)
              · (simp only [go_sem, eq_self, Nat.reduceEqDiff, Int.reduceSub, ISt, List.take_zero, List.append_nil, Nat.add_zero]; try rfl)
            · intro j hj
              unfold ISt
              rw [hxx, Int.toNat_natCast]
              have tl : ((bytesBE 8 x).take j).length = j := by rw [List.length_take, bytesBE_len]; omega
              have al : (dgs h i ++ (bytesBE 8 x).take j).length = 8 * i + j := by rw [List.length_append, dl, tl]
              refine Lwp.seq ?_
              by_cases hj2 : j < 8
              · have tb := take_bytes (n := 8) (x := x) hj2
                rw [show 8 - 1 - j = 7 - j by omega] at tb
                have tb2 : dgs h i ++ (bytesBE 8 x).take j ++ [((x / 256 ^ (7 - j) % 256 : Nat) : Int)] = dgs h i ++ (bytesBE 8 x).take (j + 1) := by rw [List.append_assoc, tb]
                have j2 : (7 - (j : Int)) = ((7 - j : Nat) : Int) := by omega
                have j1 : ((7 - j : Nat) : Int) ≥ 0 := by omega
                have j3 : IntKind.i64.wrap (((7 - j : Nat) : Int) - 1) = 7 - ((j + 1 : Nat) : Int) := by rw [wrap_i64 (by omega) (by omega)]; omega
                have s1 : IntKind.i64.wrap (8 * ((7 - j : Nat) : Int)) = ((8 * (7 - j) : Nat) : Int) := by rw [wrap_i64 (by omega) (by omega)]; omega
                have s2 := shr_byte x (7 - j) (by omega)
                have s3 : ¬ ((8 * (7 - j) : Nat) : Int) < 0 := by omega
                have al2 : 8 * i + j + 1 ≤ 140737488355328 := by omega
                have al3 : 8 * i + j ≤ 140737488355327 := by omega
                rw [j2]
                generalize x / 256 ^ (7 - j) % 256 = d at *
                generalize 8 * (7 - j) = u at *
                refine Lwp.seq (Lwp.regI hT ?_)
                simp only [L14r22, go_sem, eq_self, Nat.reduceAdd, Nat.reduceLT, Nat.reduceEqDiff, decide_true, j1]
                refine Lwp.cond rfl (fun _ => Lwp.skip ?_) (fun h => by cases h)
                simp only [go_sem]
                refine Lwp.seq (Lwp.block ?_)
                refine Lwp.regI hT ?_
                simp only [L14r24, go_sem, eq_self, Nat.reduceAdd, Nat.reduceLT, Nat.reduceLeDiff, Nat.reduceEqDiff, Nat.reduceBEq, Nat.reduceBNe, decide_true, Bool.false_eq_true, ty5, ty22, ty24, s1, s2, s3, al, al2, Nat.mul_one]
                refine Lwp.regI hT ?_
                simp only [L14r23, go_sem, eq_self, Nat.reduceAdd, Nat.reduceLT, Nat.reduceEqDiff, decide_true, j3]
                refine ⟨j + 1, by omega, by omega, ?_⟩
                refine weak_of rfl ?_ ?_ ?_
                · (simp only [go_sem, eq_self, Nat.reduceEqDiff, Nat.add_assoc]; try rfl)
                · (simp only [go_sem, eq_self, Nat.reduceEqDiff, tb2]; try rfl)
                · (simp only [go_sem, eq_self, Nat.reduceEqDiff]; try rfl)
              · have hj3 : j = 8 := by omega
                subst hj3
                have j1 : ¬ (7 - ((8 : Nat) : Int)) ≥ 0 := by omega
                have tf : (bytesBE 8 x).take 8 = bytesBE 8 x := List.take_of_length_le (by rw [bytesBE_len]; omega)
                have e8 : 8 * i + 8 = 8 * (i + 1) := by omega
                refine Lwp.seq (Lwp.regI hT ?_)
                simp only [L14r22, go_sem, eq_self, Nat.reduceAdd, Nat.reduceSub, Nat.reduceLT, Nat.reduceEqDiff, Int.reduceGE, Int.reduceSub, Int.reduceNeg, decide_true, decide_false]
                refine Lwp.cond rfl (fun h => by cases h) (fun _ => Lwp.exit ?_)
                simp only [go_sem, eq_self, Nat.reduceEqDiff, Int.reduceNeg]
                refine Lwp.regI hT ?_
                simp only [L14r25, go_sem, eq_self, Nat.reduceAdd, Nat.reduceLT, Nat.reduceEqDiff, Int.reduceNeg, decide_true, a4]
                refine weak_of rfl ?_ ?_ ?_
                · (simp only [go_sem, eq_self, Nat.reduceEqDiff, Int.reduceNeg, e8]; try rfl)
                · (simp only [go_sem, eq_self, Nat.reduceEqDiff, tf, dn]; try rfl)
                · (simp only [go_sem, eq_self, Nat.reduceEqDiff, dn]; try rfl)
          · unfold OSt
            have dl := dgs_len h 6
            have sb : sub (ints .u8 (dgs h 6)) 0 48 = ints .u8 (dgs h 6) := by rw [ints_sub, List.drop_zero, List.take_of_length_le (by omega)]
            refine Lwp.seq (Lwp.regI hT ?_)
            simp only [L14r19, go_sem, eq_self, Nat.reduceAdd, Nat.reduceMul, Nat.reduceLT, Nat.reduceEqDiff, Int.reduceLT, decide_true, decide_false]
            refine Lwp.seq (Lwp.cond rfl (fun h => by cases h) (fun _ => Lwp.exit ?_))
            simp only [go_sem, eq_self]
            refine Lwp.seq (Lwp.regI hT ?_)
            simp only [L14r26, go_sem, eq_self, Nat.reduceAdd, Nat.reduceLT, Nat.reduceEqDiff, decide_true]
            refine Lwp.ret (post_val (v := .osl 50 0 48 1) ?_ ?_)
            · simp only [go_sem, eq_self, Nat.reduceEqDiff]
            · have dl2 : (dgs h 6).length = 48 := dl
              simp only [go_sem, eq_self, Nat.reduceEqDiff, reduceCtorEq, sb, dl2, Nat.le_refl]
end Eng


namespace Eng
open Go Go.Proofs
set_option linter.unusedSimpArgs false
set_option linter.unusedVariables false
set_option maxHeartbeats 4000000
noncomputable def RfSt (b : List Int) (k : Nat) : AState := { nt := 47, env := [(2, .own 0 0), (4, .nils), (5, .osl 2 0 (pm b).length 1), (6, .own 14 0), (7, .int .i64 ((128 * k : Nat) : Int))], mem := [(14, ints .u64 (hs (pm b) k)), (2, ints .u8 (pm b)), (0, tbc)], next := 200 }
def RoSt (h : List Int) (i : Nat) : AState := { nt := 47, env := [(4, .nils), (6, .own 14 0), (9, .int .i64 i), (8, .osl 50 0 (8 * i) 1)], mem := [(50, ints .u8 (dgs h i)), (14, ints .u64 h)], next := 300 }
noncomputable def S15 : List AV → Option Ret := nz (sumOf (fun p : List Int => match p with | b => (U8L b) ∧ (b.length ≤ 1000000000)) (fun p : List Int => match p with | b => [.agg tbc, .slc b.length (ints .u8 b)]) (fun p : List Int => match p with | b => ⟨.slc 48 (ints .u8 (sumL b)), none⟩))
theorem S15_eq (b : List Int) (h0 : U8L b) (h1 : b.length ≤ 1000000000) : S15 [.agg tbc, .slc b.length (ints .u8 b)] = some ⟨.slc 48 (ints .u8 (sumL b)), none⟩ :=
  sumOf_eq (dom := (fun p : List Int => match p with | b => (U8L b) ∧ (b.length ≤ 1000000000))) (enc := (fun p : List Int => match p with | b => [.agg tbc, .slc b.length (ints .u8 b)])) (out := (fun p : List Int => match p with | b => ⟨.slc 48 (ints .u8 (sumL b)), none⟩)) b ⟨h0, h1⟩ (fun y _ e => by
    simp only [List.cons.injEq, AV.slc.injEq, ints_injEq, true_and, and_true] at e
    first | with_reducible rfl | simp only [e] | rfl)
theorem S15_inv {args : List AV} {r : Ret} (h : sumOf (fun p : List Int => match p with | b => (U8L b) ∧ (b.length ≤ 1000000000)) (fun p : List Int => match p with | b => [.agg tbc, .slc b.length (ints .u8 b)]) (fun p : List Int => match p with | b => ⟨.slc 48 (ints .u8 (sumL b)), none⟩) args = some r) : ∃ (b : List Int), ((U8L b) ∧ (b.length ≤ 1000000000)) ∧ args = [.agg tbc, .slc b.length (ints .u8 b)] ∧ r = ⟨.slc 48 (ints .u8 (sumL b)), none⟩ := by
  obtain ⟨x, h1, h2, h3⟩ := sumOf_inv h
  exact ⟨x, h1, h2.symm, h3⟩

set_option maxRecDepth 100000 in
theorem snd15 : SndE Tryd.prog NoG 15 S15 := by
  refine snd_nz (snd_by [(13, S13), (29, S29), (30, S30), (31, S31)] [] Tryd.func15 (by kernel_rfl) lite15 nt15 rs15 ⟨snd13, snd29, snd30, snd31, trivial⟩ trivial (fun hT args r h => ?_))
  obtain ⟨b, ⟨hd0, hd1⟩, rfl, rfl⟩ := S15_inv h
  clear h
  have hM := hM0
  refine ⟨Nat.le_of_ble_eq_true rfl, fun F => ?_⟩
  unfold L15
  have f29 := S29_eq b.length (by omega)
  have d4 : (padL b.length).length ≤ 144 := by rw [padL_len]; have := zN_lt b.length; omega
  have d5 : (pm b).length = b.length + (padL b.length).length := by unfold pm; rw [List.length_append]
  have q1 : b.length ≤ 140737488355328 := by omega
  have q2 : b.length + (padL b.length).length ≤ 140737488355328 := by omega
  have q3 : b ++ padL b.length = pm b := rfl
  have hw := hTab_W8.1
  have tl := tbc_len
  have tk := tbc_kill
  have ti := tbc_ids
  have te := tbc_expo
  have t1 := tbc_1
  have to1 := tbc_one
  have tp := tbc_pure
  refine Lwp.seq (Lwp.regI hT ?_)
  simp only [L15r0, go_sem, eq_self, Nat.reduceAdd, Nat.reduceLT, reduceCtorEq, decide_true]
  refine Lwp.seq (Lwp.regI hT ?_)
  simp only [L15r1, go_sem, eq_self, Nat.reduceAdd, Nat.reduceLT, Nat.reduceLeDiff, Nat.reduceEqDiff, Nat.reduceBEq, Nat.reduceBNe, reduceCtorEq, decide_true, Bool.false_eq_true, ty5, ty24, q1, tk, List.nil_append, Nat.zero_add]
  refine Lwp.seq (Lwp.regI hT ?_)
  simp only [L15r2, go_sem, eq_self, Nat.reduceAdd, Nat.reduceLT, Nat.reduceEqDiff, Nat.reduceBEq, Nat.reduceBNe, reduceCtorEq, decide_true, Bool.false_eq_true, ty5, ty24, f29, q2, q3, tk, ints_append]
  refine Lwp.seq (Lwp.regI hT ?_)
  simp only [L15r3, go_sem, eq_self, Nat.reduceAdd, Nat.reduceLT, Nat.reduceEqDiff, reduceCtorEq, decide_true, fK1, ty23, ty27, tl, t1, hw, Nat.le_refl]
  refine Lwp.seq ?_
  refine Lwp.seq (Lwp.regI hT ?_)
  simp only [L15r4, go_sem, eq_self, Nat.reduceAdd, Nat.reduceLT, decide_true]
  have q6 : (pm b).length ≤ 1125899906842624 := by omega
  refine Lwp.block (Lwp.whl (RfSt b) (fun k => 128 * k ≤ (pm b).length) (fun k => (pm b).length - 128 * k) 0 (Nat.zero_le _) ?_ ?_)
  · refine weak_of rfl ?_ ?_ ?_
    · (simp only [go_sem, eq_self, Nat.reduceMul, Nat.reduceEqDiff, reduceCtorEq, RfSt, hs, d5]; try rfl)
    · (simp only [go_sem, eq_self, Nat.reduceMul, Nat.reduceEqDiff, reduceCtorEq, RfSt, hs, d5]; try rfl)
    · (simp only [go_sem, eq_self, Nat.reduceMul, Nat.reduceEqDiff, reduceCtorEq, RfSt, hs, d5, ti]; try rfl)
  · intro k hk2
    simp only [RfSt]
    have hM8 := pm_len b
    refine Lwp.seq (Lwp.seq (Lwp.regI hT ?_))
    by_cases hk : 128 * k < (pm b).length
    · have hk3 : 128 * (k + 1) ≤ (pm b).length := by omega
      have c1 : ((128 * k : Nat) : Int) < ((pm b).length : Int) := by omega
      have b2 : IntKind.i64.wrap (((128 * k : Nat) : Int) + 128) = ((128 * (k + 1) : Nat) : Int) := by rw [wrap_i64 (by omega) (by omega)]; omega
      have f13 := S13_eq (hs (pm b) k) (blk (pm b) k) (hs_W8 (pm b) k) (blk_U8 (pm_U8 hd0) k) (blk_len hk3)
      rw [blk_len hk3] at f13
      have eb : hs (pm b) (k + 1) = stepV (hs (pm b) k) (blk (pm b) k) := rfl
      rw [← eb] at f13
      have hv := (hs_W8 (pm b) k).1
      have hv2 := (hs_W8 (pm b) (k + 1)).1
      have s8 : sub (ints .u64 (hs (pm b) k)) 0 8 = ints .u64 (hs (pm b) k) := by rw [ints_sub, List.drop_zero, List.take_of_length_le (by omega)]
      have sb : sub (ints .u8 (pm b)) (128 * k) 128 = ints .u8 (blk (pm b) k) := by rw [ints_sub]; rfl
      have a0 : (0 : Int) ≤ ((128 * (k + 1) : Nat) : Int) := by omega
      have a1 : (0 : Int) ≤ ((128 * k : Nat) : Int) := by omega
      have a2 : ((128 * k : Nat) : Int) ≤ ((128 * (k + 1) : Nat) : Int) := by omega
      have a3 : ((128 * (k + 1) : Nat) : Int) ≤ ((pm b).length : Int) := by omega
      have a4 : 128 * (k + 1) - 128 * k = 128 := by omega
      have a5 : 128 * k < 128 * (k + 1) := by omega
      have a6 : 128 * k + 128 ≤ (pm b).length := by omega
      have tw := tbc_w
      have sl : (if 128 * k = 0 then some (AV.osl 2 0 (128 * (k + 1)) 1) else some (AV.osl 2 (128 * k) 128 1)) = some (AV.osl 2 (128 * k) 128 1) := by
        by_cases h0 : k = 0
        · subst h0; rfl
        · rw [if_neg (by omega)]
      generalize hh2 : hs (pm b) (k + 1) = h2 at *
      generalize hs (pm b) k = h1 at *
      simp only [L15r5, go_sem, eq_self, Nat.reduceAdd, Nat.reduceLT, Nat.reduceEqDiff, decide_true, ty24, c1]
      refine Lwp.cond rfl (fun _ => Lwp.skip ?_) (fun h => by cases h)
      simp only [go_sem]
      refine Lwp.seq (Lwp.block ?_)
      refine Lwp.regD hT hM ?_
      simp only [L15r7, go_sem, eq_self, Nat.reduceAdd, Nat.reduceSub, Nat.reduceLT, Nat.reduceLeDiff, Nat.reduceEqDiff, Nat.reduceDiv, Nat.reduceMod, Nat.reducePow, reduceCtorEq, decide_true, decide_false, Bool.false_eq_true, ty5, ty23, ty24, ty27, tl, tw, tk, ti, te, hv, hv2, s8, sb, a0, a1, a2, a3, a4, a5, a6, b2, sl, f13, sliceA, boundA, Nat.mul_one, Nat.zero_add, Nat.le_refl, Int.toNat_natCast]
      refine Lwp.regI hT ?_
      simp only [L15r6, go_sem, eq_self, Nat.reduceAdd, Nat.reduceLT, Nat.reduceEqDiff, decide_true, b2]
      refine ⟨k + 1, hk3, by omega, ?_⟩
      refine weak_of rfl ?_ ?_ ?_
      · (simp only [go_sem, eq_self, Nat.reduceEqDiff]; try rfl)
      · (simp only [go_sem, eq_self, Nat.reduceEqDiff, reduceCtorEq, hh2]; try rfl)
      · (simp only [go_sem, eq_self, Nat.reduceEqDiff, reduceCtorEq, hh2, ti]; try rfl)
    · have c1 : ¬ ((128 * k : Nat) : Int) < ((pm b).length : Int) := by omega
      have ek : k = (pm b).length / 128 := by omega
      have hW := hs_W8 (pm b) k
      have eS : sumL b = dgs (hs (pm b) k) 6 := by unfold sumL; rw [ek]
      rw [eS]
      generalize hs (pm b) k = h at *
      have hl := hW.1
      simp only [L15r5, go_sem, eq_self, Nat.reduceAdd, Nat.reduceLT, Nat.reduceEqDiff, decide_true, decide_false, ty24, c1]
      refine Lwp.cond rfl (fun h => by cases h) (fun _ => Lwp.exit ?_)
      simp only [go_sem, eq_self]
      refine Lwp.seq (Lwp.regI hT ?_)
      simp only [L15r8, go_sem, eq_self, Nat.reduceAdd, Nat.reduceLT, decide_true]
      refine Lwp.seq ?_
      refine Lwp.seq (Lwp.regI hT ?_)
      simp only [L15r9, go_sem, eq_self, Nat.reduceAdd, Nat.reduceLT, decide_true]
      refine Lwp.block (Lwp.whl (RoSt h) (fun i => i ≤ 6) (fun i => 6 - i) 0 (Nat.zero_le _) ?_ ?_)
      · refine Weak.trans (weak_nil (t := 8) (id := 50) (sz := 1) rfl rfl) ?_
        refine weak_of rfl ?_ ?_ ?_
        · (simp only [go_sem, eq_self, Nat.reduceMul, Nat.reduceEqDiff, RoSt, dgs]; try rfl)
        · (simp only [go_sem, eq_self, Nat.reduceMul, Nat.reduceEqDiff, reduceCtorEq, RoSt, dgs]; try rfl)
        · (simp only [go_sem, eq_self, Nat.reduceMul, Nat.reduceEqDiff, RoSt, dgs]; try rfl)
      · intro i hi
        simp only [RoSt]
        refine Lwp.seq (Lwp.seq (Lwp.regI hT ?_))
        by_cases h6 : i < 6
        · have c2 : (i : Int) < 6 := by omega
          have x1 : (0 : Int) ≤ (i : Int) := by omega
          have x2 : (i : Int) < 8 := by omega
          have x3 : i < 8 := by omega
          have a4 := wrap_succ h6 (by decide)
          have hx := hW.at i
          obtain ⟨x, hxx⟩ : ∃ x : Nat, h.getD i 0 = (x : Int) := ⟨(h.getD i 0).toNat, by omega⟩
          have xl : x < 18446744073709551616 := by omega
          have dl := dgs_len h i
          have dn : dgs h i ++ bytesBE 8 x = dgs h (i + 1) := by rw [dgs, hxx, Int.toNat_natCast]
          have f31 : S31 [.slc 1 [.int .u64 (x : Nat)]] = some ⟨.slc (dig (x)).length (ints .u64 (dig (x))), none⟩ := by
            have h := S31_eq [(x : Int)] (fun y hy => by rw [List.mem_singleton.1 hy]; omega) (by simp)
            have e : v64 [(x : Int)] = x := by simp [v64]
            rw [e] at h
            exact h
          have f30 : S30 [.slc (dig (x)).length (ints .u64 (dig (x))), .int .i64 8] = some ⟨.slc 8 (ints .u8 (bytesBE 8 x)), none⟩ := S30_eq x 8 (Nat.le_trans ((dig_len_le x 2).2 (by omega)) (by decide)) (by decide)
          have bl := bytesBE_len 8 x
          have al3 : 8 * i + 8 ≤ 140737488355328 := by omega
          have e8 : 8 * i + 8 = 8 * (i + 1) := by omega
          have al4 : 8 * (i + 1) ≤ 140737488355328 := by omega
          generalize dig x = dx at *
          simp only [L15r10, go_sem, eq_self, Nat.reduceAdd, Nat.reduceLT, Nat.reduceEqDiff, decide_true, c2]
          refine Lwp.cond rfl (fun _ => Lwp.skip ?_) (fun h => by cases h)
          simp only [go_sem]
          refine Lwp.seq (Lwp.block ?_)
          refine Lwp.regI hT ?_
          simp only [L15r12, go_sem, eq_self, Nat.reduceAdd, Nat.reduceLT, Nat.reduceLeDiff, Nat.reduceEqDiff, Nat.reduceBEq, Nat.reduceBNe, reduceCtorEq, decide_true, Bool.false_eq_true, ty5, ty22, ty23, ty24, ty25, x1, x2, x3, hl, hxx, f31, f30, bl, dl, al4, dn, e8, ints_append, Int.toNat_natCast, Nat.mul_one]
          refine Lwp.regI hT ?_
          simp only [L15r11, go_sem, eq_self, Nat.reduceAdd, Nat.reduceLT, Nat.reduceEqDiff, decide_true, a4]
          refine ⟨i + 1, by omega, by omega, ?_⟩
          refine weak_of rfl ?_ ?_ ?_
          · (simp only [go_sem, eq_self, Nat.reduceEqDiff]; try rfl)
          · (simp only [go_sem, eq_self, Nat.reduceEqDiff]; try rfl)
          · (simp only [go_sem, eq_self, Nat.reduceEqDiff]; try rfl)
        · have h66 : i = 6 := by omega
          subst h66
          have c2 : ¬ ((6 : Nat) : Int) < 6 := by omega
          have dl2 : (dgs h 6).length = 48 := dgs_len h 6
          have sb : sub (ints .u8 (dgs h 6)) 0 48 = ints .u8 (dgs h 6) := by rw [ints_sub, List.drop_zero, List.take_of_length_le (by omega)]
          simp only [L15r10, go_sem, eq_self, Nat.reduceAdd, Nat.reduceMul, Nat.reduceSub, Nat.reduceLT, Nat.reduceEqDiff, Int.reduceLT, decide_true, decide_false]
          refine Lwp.cond rfl (fun h => by cases h) (fun _ => Lwp.exit ?_)
          simp only [go_sem, eq_self]
          refine Lwp.seq (Lwp.regI hT ?_)
          simp only [L15r13, go_sem, eq_self, Nat.reduceAdd, Nat.reduceLT, Nat.reduceEqDiff, decide_true]
          refine Lwp.ret (post_val (v := .osl 50 0 48 1) ?_ ?_)
          · simp only [go_sem, eq_self, Nat.reduceEqDiff]
          · simp only [go_sem, eq_self, Nat.reduceEqDiff, reduceCtorEq, sb, dl2, Nat.le_refl]
end Eng


namespace Eng
open Go Go.Proofs
set_option linter.unusedSimpArgs false
set_option linter.unusedVariables false
set_option maxHeartbeats 4000000
theorem tbc_ns : AV.noSlcL tbc = false := rfl
theorem set9 {a c : List AV} (hc : c.length = 9) (ha : a.length = 9) : setAt a 0 c = c := by
  match c, hc with
  | [_, _, _, _, _, _, _, _, _], _ => simp only [setAt, ha, List.length_cons, List.length_nil]; simp
theorem set9t (x0 x1 x2 x3 x4 x5 x6 x7 x8 : AV) : setAt [x0, x1, x2, x3, x4, x5, x6, x7, x8] 0 tbc = tbc := set9 tbc_len rfl
end Eng


namespace Eng
open Go Go.Proofs
set_option linter.unusedSimpArgs false
set_option linter.unusedVariables false
set_option maxHeartbeats 4000000
/-! HMAC. -/
noncomputable def keyL (k : List Int) : List Int := if k.length > 128 then sumL k else k
noncomputable def kb (k : List Int) : List Int := keyL k ++ List.replicate (128 - (keyL k).length) 0
def xp (c : Int) (l : List Int) (i : Nat) : List Int := tab 128 (fun j => if j < i then xorZ .u8 (l.getD j 0) c else l.getD j 0)
noncomputable def hmacL (k m : List Int) : List Int := sumL (xp 92 (kb k) 128 ++ sumL (xp 54 (kb k) 128 ++ m))
def HmSt (m kk : List Int) : AState := { nt := 46, env := [(0, .slc kk.length (ints .u8 kk)), (1, .slc m.length (ints .u8 m)), (4, .nils)], mem := [], next := 50 }
theorem zz128 : zerosA [AV.int .u8 0] 128 = ints .u8 (List.replicate 128 0) := ints_zeros _ _
theorem zk {kk : List Int} (h : kk.length ≤ 128) : setAt (ints .u8 (List.replicate 128 0)) 0 (ints .u8 kk) = ints .u8 (kk ++ List.replicate (128 - kk.length) 0) := by
  rw [ints_setAt .u8 _ 0 kk (by simp; omega), List.take_zero, List.nil_append, Nat.zero_add, List.drop_replicate]
def HxSt (m l : List Int) (i : Nat) : AState := { nt := 46, env := [(1, .slc m.length (ints .u8 m)), (4, .nils), (5, .osl 50 0 128 1), (6, .osl 51 0 128 1), (22, .int .i64 128), (23, .int .i64 i)], mem := [(51, ints .u8 (xp 92 l i)), (50, ints .u8 (xp 54 l i))], next := 200 }
theorem xp_len (c : Int) (l : List Int) (i : Nat) : (xp c l i).length = 128 := tab_len _ _
theorem xp_zero {l : List Int} (hl : l.length = 128) (c : Int) : xp c l 0 = l := (eq_tab hl fun j _ => by simp).symm
theorem xp_at (c : Int) (l : List Int) {i : Nat} (hi : i < 128) : (xp c l i).getD i 0 = l.getD i 0 := by
  unfold xp; rw [tab_getD _ _ hi, if_neg (Nat.lt_irrefl _)]
theorem xp_set (c : Int) (l : List Int) (i : Nat) : (xp c l i).set i (xorZ .u8 (l.getD i 0) c) = xp c l (i + 1) := tab_set _ _ _ _ _ fun j _ => by
  by_cases h : j = i
  · subst h; simp
  · by_cases h2 : j < i
    · simp [h, h2, show j < i + 1 by omega]
    · simp [h, h2, show ¬ j < i + 1 by omega]
theorem xor8_rng (a c : Int) : 0 ≤ xorZ .u8 a c ∧ xorZ .u8 a c < 256 := by
  unfold xorZ
  generalize ((BitVec.ofInt IntKind.u8.bits a ^^^ BitVec.ofInt IntKind.u8.bits c).toNat : Int) = z
  have h : IntKind.u8.wrap z = z % 256 := rfl
  rw [h]; omega
theorem xp_U8 (c : Int) {l : List Int} (hl : l.length = 128) : U8L (xp c l 128) := by
  intro x hx
  unfold xp at hx
  obtain ⟨j, hj, rfl⟩ := List.mem_map.1 hx
  have hj2 : j < 128 := List.mem_range.1 hj
  rw [if_pos hj2]
  exact xor8_rng _ _
theorem walk18 (hT : (tbG Tryd.prog gG [(14, S14)] []).Ok) (hM : Tryd.prog.follows .mixedOrders = true) (F : Fr) {kk m : List Int} (hk : kk.length ≤ 128) (hm : U8L m) (hml : m.length ≤ 1000000000) :
    Lwp okDraw (tbG Tryd.prog gG [(14, S14)] []) F (.seq (.regionD L18r3) (.seq (.region L18r4) (.seq (.region L18r5) (.seq (.seq (.region L18r6) (.block 0 (.loop (.seq (.region L18r7) (.seq (.cond (.tmp 24) .skip (.exit 0)) (.seq (.block 1 (.seq (.region L18r8) (.seq (.region L18r9) (.region L18r10)))) (.region L18r11))))))) (.seq (.region L18r12) .ret))))) (Post (tbG Tryd.prog gG [(14, S14)] []) [.tmp 4] ⟨.slc 48 (ints .u8 (sumL (xp 92 (kk ++ List.replicate (128 - kk.length) 0) 128 ++ sumL (xp 54 (kk ++ List.replicate (128 - kk.length) 0) 128 ++ m)))), none⟩) (HmSt m kk) := by
  unfold HmSt
  have s0 : sub (ints .u8 kk) 0 kk.length = ints .u8 kk := by rw [ints_sub, List.drop_zero, List.take_of_length_le (Nat.le_refl _)]
  have n1 : min kk.length 128 = kk.length := by omega
  have tk : List.take kk.length (ints .u8 kk) = ints .u8 kk := by rw [ints_take, List.take_of_length_le (Nat.le_refl _)]
  have z := zk hk
  have rl : (List.replicate 128 (0 : Int)).length = 128 := List.length_replicate
  have kl : (kk ++ List.replicate (128 - kk.length) 0).length = 128 := by rw [List.length_append, List.length_replicate]; omega
  generalize kk ++ List.replicate (128 - kk.length) 0 = l at *
  refine Lwp.seq (Lwp.regD hT hM ?_)
  simp only [L18r3, go_sem, eq_self, Nat.reduceAdd, Nat.reduceSub, Nat.reduceLT, Nat.reduceLeDiff, Nat.reduceEqDiff, Nat.reduceDiv, Nat.reduceMod, Nat.reducePow, Int.reduceLE, Int.reduceToNat, Int.reduceMul, reduceCtorEq, decide_true, decide_false, Bool.false_eq_true, ty5, ty24, ↓zz128, zz128]
  refine Lwp.seq (Lwp.regI hT ?_)
  simp only [L18r4, go_sem, eq_self, Nat.reduceAdd, Nat.reduceLT, Nat.reduceLeDiff, Nat.reduceEqDiff, reduceCtorEq, decide_true, ty5, ty24, n1, tk, z, rl]
  refine Lwp.seq (Lwp.regI hT ?_)
  simp only [L18r5, go_sem, eq_self, Nat.reduceAdd, Nat.reduceLT, Nat.reduceLeDiff, Nat.reduceEqDiff, reduceCtorEq, decide_true, ty5, ty24, n1, tk, z, rl]
  refine Lwp.seq ?_
  refine Lwp.seq (Lwp.regI hT ?_)
  simp only [L18r6, go_sem, eq_self, Nat.reduceAdd, Nat.reduceLT, Nat.reduceEqDiff, reduceCtorEq, decide_true, ty24]
  refine Lwp.block (Lwp.range (HxSt m l) 128 ?_ (fun i hi => ?_) ?_)
  · have z1 := xp_zero kl 92
    have z2 := xp_zero kl 54
    refine weak_of rfl ?_ ?_ ?_
    · (simp only [go_sem, eq_self, Nat.reduceEqDiff, reduceCtorEq, HxSt, z1, z2]; try rfl)
    · (simp only [go_sem, eq_self, Nat.reduceEqDiff, HxSt, z1, z2]; try rfl)
    · (simp only [go_sem, eq_self, Nat.reduceEqDiff, HxSt, z1, z2]; try rfl)
  · unfold HxSt
    have a1 : (i : Int) < 128 := by omega
    have a2 : (0 : Int) ≤ (i : Int) := by omega
    have a4 := wrap_succ hi (by decide)
    have a5 : i ≤ 127 := by omega
    have l1 := xp_len 54 l i
    have l2 := xp_len 92 l i
    have g1 := xp_at 54 l hi
    have g2 := xp_at 92 l hi
    have t1 := xp_set 54 l i
    have t2 := xp_set 92 l i
    refine Lwp.seq (Lwp.regI hT ?_)
    simp only [L18r7, go_sem, eq_self, Nat.reduceAdd, Nat.reduceLT, Nat.reduceEqDiff, decide_true, a1]
    refine Lwp.seq (Lwp.cond rfl (fun _ => Lwp.skip ?_) (fun h => by cases h))
    simp only [go_sem]
    refine Lwp.seq (Lwp.block ?_)
    refine Lwp.seq (Lwp.regI hT ?_)
    simp only [L18r8, go_sem, eq_self, Nat.reduceAdd, Nat.reduceLT, Nat.reduceEqDiff, decide_true]
    refine Lwp.seq (Lwp.regI hT ?_)
    simp only [L18r9, go_sem, eq_self, Nat.reduceAdd, Nat.reduceLT, Nat.reduceLeDiff, Nat.reduceEqDiff, decide_true, Bool.false_eq_true, ty5, ty24, a5, a1, a2, hi, l1, g1, t1, Int.toNat_natCast, Nat.mul_one, Nat.zero_add]
    refine Lwp.regI hT ?_
    simp only [L18r10, go_sem, eq_self, Nat.reduceAdd, Nat.reduceLT, Nat.reduceLeDiff, Nat.reduceEqDiff, decide_true, Bool.false_eq_true, ty5, ty24, a5, a1, a2, hi, l2, g2, t2, Int.toNat_natCast, Nat.mul_one, Nat.zero_add]
    refine Lwp.regI hT ?_
    simp only [L18r11, go_sem, eq_self, Nat.reduceAdd, Nat.reduceLT, Nat.reduceEqDiff, decide_true, a4]
    refine weak_of rfl ?_ ?_ ?_
    · (simp only [go_sem, eq_self, Nat.reduceEqDiff]; try rfl)
    · (simp only [go_sem, eq_self, Nat.reduceEqDiff]; try rfl)
    · (simp only [go_sem, eq_self, Nat.reduceEqDiff]; try rfl)
  · unfold HxSt
    have l1 := xp_len 54 l 128
    have l2 := xp_len 92 l 128
    refine Lwp.seq (Lwp.regI hT ?_)
    simp only [L18r7, go_sem, eq_self, Nat.reduceAdd, Nat.reduceLT, Nat.reduceEqDiff, Int.reduceLT, decide_true, decide_false]
    refine Lwp.seq (Lwp.cond rfl (fun h => by cases h) (fun _ => Lwp.exit ?_))
    simp only [go_sem, eq_self]
    have u1 := xp_U8 54 kl
    have u2 := xp_U8 92 kl
    have f1 := S14_eq (xp 54 l 128 ++ m) (u1.app hm) (by rw [List.length_append, l1]; omega)
    have f2 := S14_eq (xp 92 l 128 ++ sumL (xp 54 l 128 ++ m)) (u2.app (dgs_U8 _ _)) (by rw [List.length_append, l2, sumL_len]; decide)
    have sl := sumL_len (xp 54 l 128 ++ m)
    have sl2 := sumL_len (xp 92 l 128 ++ sumL (xp 54 l 128 ++ m))
    rw [List.length_append, l1] at f1
    rw [List.length_append, l2, sl] at f2
    have q1 : 128 + m.length ≤ 140737488355328 := by omega
    have q2 : sub (ints .u8 (xp 54 l 128 ++ m)) 0 (128 + m.length) = ints .u8 (xp 54 l 128 ++ m) := by rw [ints_sub, List.drop_zero, List.take_of_length_le (by rw [List.length_append, l1]; omega)]
    have q3 : sub (ints .u8 (xp 92 l 128 ++ sumL (xp 54 l 128 ++ m))) 0 176 = ints .u8 (xp 92 l 128 ++ sumL (xp 54 l 128 ++ m)) := by rw [ints_sub, List.drop_zero, List.take_of_length_le (by rw [List.length_append, l2, sl]; decide)]
    have q4 : (xp 54 l 128 ++ m).length = 128 + m.length := by rw [List.length_append, l1]
    have q5 : (xp 92 l 128 ++ sumL (xp 54 l 128 ++ m)).length = 176 := by rw [List.length_append, l2, sl]
    have q6 : m.length ≤ 140737488355328 := by omega
    generalize hs2 : sumL (xp 92 l 128 ++ sumL (xp 54 l 128 ++ m)) = s2 at *
    generalize hs1 : sumL (xp 54 l 128 ++ m) = s1 at *
    refine Lwp.seq (Lwp.regI hT ?_)
    simp only [L18r12, go_sem, eq_self, Nat.reduceAdd, Nat.reduceLT, Nat.reduceLeDiff, Nat.reduceEqDiff, Nat.reduceBEq, Nat.reduceBNe, reduceCtorEq, decide_true, Bool.false_eq_true, ty5, ty24, l1, l2, q1, q2, q3, q4, q5, f1, f2, sl, ints_append, Nat.mul_one, Nat.zero_add, Nat.le_refl]
    refine Lwp.ret (post_val (v := .slc 48 (ints .u8 s2)) ?_ ?_)
    · simp only [go_sem, eq_self, Nat.reduceEqDiff]
    · simp only [go_sem, eq_self]
noncomputable def S18 : List AV → Option Ret := nz (sumOf (fun p : List Int × List Int => match p with | (k, m) => (U8L k) ∧ (k.length ≤ 1000000000) ∧ (U8L m) ∧ (m.length ≤ 1000000000)) (fun p : List Int × List Int => match p with | (k, m) => [.slc k.length (ints .u8 k), .slc m.length (ints .u8 m)]) (fun p : List Int × List Int => match p with | (k, m) => ⟨.slc 48 (ints .u8 (hmacL k m)), none⟩))
theorem S18_eq (k : List Int) (m : List Int) (h0 : U8L k) (h1 : k.length ≤ 1000000000) (h2 : U8L m) (h3 : m.length ≤ 1000000000) : S18 [.slc k.length (ints .u8 k), .slc m.length (ints .u8 m)] = some ⟨.slc 48 (ints .u8 (hmacL k m)), none⟩ :=
  sumOf_eq (dom := (fun p : List Int × List Int => match p with | (k, m) => (U8L k) ∧ (k.length ≤ 1000000000) ∧ (U8L m) ∧ (m.length ≤ 1000000000))) (enc := (fun p : List Int × List Int => match p with | (k, m) => [.slc k.length (ints .u8 k), .slc m.length (ints .u8 m)])) (out := (fun p : List Int × List Int => match p with | (k, m) => ⟨.slc 48 (ints .u8 (hmacL k m)), none⟩)) (k, m) ⟨h0, h1, h2, h3⟩ (fun y _ e => by
    obtain ⟨y0, y1⟩ := y
    simp only [List.cons.injEq, AV.slc.injEq, ints_injEq, and_true] at e
    first | with_reducible rfl | simp only [e] | rfl)
theorem S18_inv {args : List AV} {r : Ret} (h : sumOf (fun p : List Int × List Int => match p with | (k, m) => (U8L k) ∧ (k.length ≤ 1000000000) ∧ (U8L m) ∧ (m.length ≤ 1000000000)) (fun p : List Int × List Int => match p with | (k, m) => [.slc k.length (ints .u8 k), .slc m.length (ints .u8 m)]) (fun p : List Int × List Int => match p with | (k, m) => ⟨.slc 48 (ints .u8 (hmacL k m)), none⟩) args = some r) : ∃ (k : List Int) (m : List Int), ((U8L k) ∧ (k.length ≤ 1000000000) ∧ (U8L m) ∧ (m.length ≤ 1000000000)) ∧ args = [.slc k.length (ints .u8 k), .slc m.length (ints .u8 m)] ∧ r = ⟨.slc 48 (ints .u8 (hmacL k m)), none⟩ := by
  obtain ⟨x, h1, h2, h3⟩ := sumOf_inv h
  obtain ⟨k, m⟩ := x
  exact ⟨k, m, h1, h2.symm, h3⟩

set_option maxRecDepth 100000 in
theorem snd18 : SndG Tryd.prog gG 18 S18 := by
  refine snd_nz (sndG_by (gl := gG) [(14, S14)] [] Tryd.func18 (by kernel_rfl) lite18 nt18 rs18 ⟨(by first | exact snd14 | exact snd14.toG | exact SndE.mono up_C snd14 | exact SndE.mono up_D snd14 | exact SndE.mono up_N snd14), trivial⟩ trivial (fun hT args r h => ?_))
  obtain ⟨k, m, ⟨hd0, hd1, hd2, hd3⟩, rfl, rfl⟩ := S18_inv h
  clear h
  have hM := hM0
  refine ⟨Nat.le_of_ble_eq_true rfl, fun F => ?_⟩
  unfold L18
  refine Lwp.seq (Lwp.regI hT ?_)
  simp only [L18r0, go_sem, eq_self, Nat.reduceLT, decide_true]
  refine Lwp.seq ?_
  by_cases hk : k.length > 128
  · have c1 : (k.length : Int) > 128 := by omega
    have f14 := S14_eq k hd0 (by omega)
    have e : hmacL k m = sumL (xp 92 (sumL k ++ List.replicate (128 - (sumL k).length) 0) 128 ++ sumL (xp 54 (sumL k ++ List.replicate (128 - (sumL k).length) 0) 128 ++ m)) := by unfold hmacL kb keyL; rw [if_pos hk]
    have sl := sumL_len k
    rw [e]
    refine Lwp.seq (Lwp.regI hT ?_)
    simp only [L18r1, go_sem, eq_self, Nat.reduceAdd, Nat.reduceLT, Nat.reduceEqDiff, reduceCtorEq, decide_true, ty24, c1]
    refine Lwp.cond rfl (fun _ => ?_) (fun h => by cases h)
    refine Lwp.regI hT ?_
    simp only [L18r2, go_sem, eq_self, Nat.reduceAdd, Nat.reduceLT, Nat.reduceEqDiff, reduceCtorEq, decide_true, Bool.false_eq_true, f14]
    refine Lwp.weaken (st' := HmSt m (sumL k)) ?_ (walk18 hT hM F (by rw [sl]; decide) hd2 hd3)
    refine weak_of rfl ?_ ?_ ?_
    · (simp only [go_sem, eq_self, Nat.reduceEqDiff, reduceCtorEq, HmSt, sl]; try rfl)
    · (simp only [go_sem, HmSt, sl]; try rfl)
    · (simp only [go_sem, eq_self, HmSt, sl]; try rfl)
  · have c1 : ¬ (k.length : Int) > 128 := by omega
    have e : hmacL k m = sumL (xp 92 (k ++ List.replicate (128 - k.length) 0) 128 ++ sumL (xp 54 (k ++ List.replicate (128 - k.length) 0) 128 ++ m)) := by unfold hmacL kb keyL; rw [if_neg hk]
    rw [e]
    refine Lwp.seq (Lwp.regI hT ?_)
    simp only [L18r1, go_sem, eq_self, Nat.reduceAdd, Nat.reduceLT, Nat.reduceEqDiff, reduceCtorEq, decide_true, decide_false, ty24, c1]
    refine Lwp.cond rfl (fun h => by cases h) (fun _ => Lwp.skip ?_)
    simp only [go_sem]
    refine Lwp.weaken (st' := HmSt m k) ?_ (walk18 hT hM F (by omega) hd2 hd3)
    refine weak_of rfl ?_ ?_ ?_
    · (simp only [go_sem, eq_self, Nat.reduceEqDiff, reduceCtorEq, HmSt]; try rfl)
    · (simp only [go_sem, HmSt]; try rfl)
    · (simp only [go_sem, eq_self, HmSt]; try rfl)
end Eng

