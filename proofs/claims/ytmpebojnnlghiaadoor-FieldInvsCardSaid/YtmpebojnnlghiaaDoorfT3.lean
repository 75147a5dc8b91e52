/- Contracts of the program's functions, and laws over them. There is no further condition. -/
import Derived.Test.YtmpebojnnlghiaaDoorfT2
set_option linter.unusedVariables false
set_option linter.unusedSimpArgs false
set_option exponentiation.threshold 2000
-- ALIAS: Tryd
namespace Eng
open Go Go.Proofs
set_option linter.unusedSimpArgs false
set_option linter.unusedVariables false
-- TY: ty3, ty4, ty5, ty9, ty22, ty24, ty38, ty39, ty40, ty43, ty27, ty28, ty74, ty75, ty52, ty59, eq24, eq75
-- XN: 74=subX 75=addX

theorem limb_bit (x i : Nat) : x / 18446744073709551616 ^ (i / 64) % 18446744073709551616 / 2 ^ (i % 64) % 2 = x / 2 ^ i % 2 := by
  have h1 : i = 64 * (i / 64) + i % 64 := (Nat.div_add_mod i 64).symm
  have h2 : 2 ^ i = 18446744073709551616 ^ (i / 64) * 2 ^ (i % 64) := by
    conv => lhs; rw [h1, Nat.pow_add, Nat.pow_mul]
  have h3 : i % 64 < 64 := Nat.mod_lt _ (by decide)
  rw [h2, ← Nat.div_div_eq_div_mul]
  generalize x / 18446744073709551616 ^ (i / 64) = q
  generalize i % 64 = s at *
  have h4 : (18446744073709551616 : Nat) = 2 ^ s * 2 ^ (64 - s) := by rw [← Nat.pow_add]; rw [show s + (64 - s) = 64 by omega]
  rw [h4, Nat.mod_mul_right_div_self]
  have h5 : (2 : Nat) ^ (64 - s) = 2 * 2 ^ (63 - s) := by rw [← Nat.pow_succ']; congr 1; omega
  rw [h5, Nat.mod_mul_right_mod]
theorem bitZ_nat {a : List Int} (h : U6 a) {i : Nat} (hi : i < 384) : bitZ a (i : Int) = ((v64 a / 2 ^ i % 2 : Nat) : Int) := by
  unfold bitZ
  rw [if_pos ⟨by omega, by omega⟩, Int.toNat_natCast, v64_getD h.2, ← limb_bit]
  norm_cast
theorem S65_nat {a : List Int} (h : U6 a) {i : Nat} (hi : i < 384) : S65 [.agg (ints .u64 a), .int .i64 (i : Int)] = some ⟨.int .u64 ((v64 a / 2 ^ i % 2 : Nat) : Int), none⟩ := by
  rw [S65_eq a i h ⟨by omega, by omega⟩, bitZ_nat h hi]
theorem one6_set : (List.replicate 6 (0 : Int)).set 0 1 = one6 := rfl
theorem v64_one : v64 one6 = 1 := by decide

theorem pow_half (b e i : Nat) : b ^ (e / 2 ^ i) = if e / 2 ^ i % 2 = 1 then b ^ (e / 2 ^ (i + 1)) * b ^ (e / 2 ^ (i + 1)) * b else b ^ (e / 2 ^ (i + 1)) * b ^ (e / 2 ^ (i + 1)) := by
  have h1 : e / 2 ^ (i + 1) = e / 2 ^ i / 2 := by rw [Nat.pow_succ, Nat.div_div_eq_div_mul]
  rw [h1]
  generalize e / 2 ^ i = q
  have h2 : q = q / 2 + q / 2 + q % 2 := by omega
  have h3 : b ^ q = b ^ (q / 2) * b ^ (q / 2) * b ^ (q % 2) := by rw [← Nat.pow_add, ← Nat.pow_add, ← h2]
  rcases Nat.mod_two_eq_zero_or_one q with h | h
  · rw [if_neg (by omega), h3, h, Nat.pow_zero, Nat.mul_one]
  · rw [if_pos h, h3, h, Nat.pow_one]
def St53 (d e x1 : List Int) (X : Nat → List Int) (k : Nat) : AState := { nt := 41, env := [(4, .own 1 0), (5, .own 2 0), (6, .own 3 0), (7, .own 9 0), (8, .own 16 0), (9, .int .i64 ((k : Int) - 1))], mem := [(1, ints .u64 e), (2, ints .u64 d), (3, ints .u64 (List.replicate 6 0)), (9, ints .u64 x1), (16, ints .u64 (X k))], next := 100 }

set_option maxRecDepth 100000 in
theorem walk53 (hT : (tb Tryd.prog [(65, S65), (64, S64), (73, S73)] []).Ok) (hM : Tryd.prog.follows .mixedOrders = true) (F : Fr) {a e d two x1 out : List Int} {X Y Z : Nat → List Int} {c : Nat → Int} (hl : a.length = 6) (hl1 : e.length = 6) (dl : d.length = 13)
    (d7 : sub (ints .u64 d) 7 6 = ints .u64 two) (l1 : x1.length = 6) (lX : ∀ k, (X k).length = 6) (lY : ∀ k, (Y k).length = 6) (lZ : ∀ k, (Z k).length = 6) (lo : out.length = 6)
    (fb : S73 [.agg (ints .u64 a), .agg (ints .u64 two), .agg (ints .u64 d)] = some ⟨.agg (ints .u64 x1), none⟩) (fi : S73 [.agg (ints .u64 one6), .agg (ints .u64 two), .agg (ints .u64 d)] = some ⟨.agg (ints .u64 (X 384)), none⟩)
    (fs : ∀ k, k < 384 → S73 [.agg (ints .u64 (X (k + 1))), .agg (ints .u64 (X (k + 1))), .agg (ints .u64 d)] = some ⟨.agg (ints .u64 (Y k)), none⟩)
    (fm : ∀ k, k < 384 → S73 [.agg (ints .u64 (Y k)), .agg (ints .u64 x1), .agg (ints .u64 d)] = some ⟨.agg (ints .u64 (Z k)), none⟩)
    (ft : ∀ k, k < 384 → S65 [.agg (ints .u64 e), .int .i64 (k : Nat)] = some ⟨.int .u64 (c k), none⟩)
    (fp : ∀ k, k < 384 → S64 [.int .u64 (c k), .agg (ints .u64 (Y k)), .agg (ints .u64 (Z k))] = some ⟨.agg (ints .u64 (X k)), none⟩)
    (fo : S73 [.agg (ints .u64 (X 0)), .agg (ints .u64 one6), .agg (ints .u64 d)] = some ⟨.agg (ints .u64 out), none⟩) :
    Lwp okDraw (tb Tryd.prog [(65, S65), (64, S64), (73, S73)] []) F L61 (Post (tb Tryd.prog [(65, S65), (64, S64), (73, S73)] []) [.cell 6 24] ⟨.agg (ints .u64 out), none⟩) (entry 41 [.agg (ints .u64 a), .agg (ints .u64 e), .agg (ints .u64 d)]) := by
  have n1 : (13 : Nat) ≤ 13 := by decide
  have o1 := one6_set
  have ol : one6.length = 6 := rfl
  have lX384 := lX 384
  generalize hX : X 384 = x384 at *
  unfold L61
  refine Lwp.seq (Lwp.regI hT ?_)
  simp only [L61r0, go_sem, List.isEmpty_nil, isC, eq_self, reduceIte, Nat.reduceAdd, Nat.reduceMul, Nat.reduceSub, Nat.reduceLT, Nat.reduceLeDiff, Nat.reduceEqDiff, Nat.reduceDiv, Nat.reduceMod, Nat.reducePow, Nat.reduceBEq, Nat.reduceBNe, Int.reduceLT, Int.reduceLE, Int.reduceGT, Int.reduceGE, Int.reduceBEq, Int.reduceBNe, Int.reduceToNat, Int.reduceAdd, Int.reduceSub, Int.reduceMul, Int.reduceEq, Int.reduceNeg, reduceCtorEq, decide_true, decide_false, Bool.false_eq_true, ty3, ty4, ty5, ty9, ty22, ty24, ty38, ty39, ty40, ty43, ty27, ty28, ty74, ty75, ty52, ty59, eq24, eq75, hl, hl1, dl]
  refine Lwp.seq (Lwp.regI hT ?_)
  simp only [L61r1, go_sem, List.isEmpty_nil, isC, eq_self, reduceIte, Nat.reduceAdd, Nat.reduceMul, Nat.reduceSub, Nat.reduceLT, Nat.reduceLeDiff, Nat.reduceEqDiff, Nat.reduceDiv, Nat.reduceMod, Nat.reducePow, Nat.reduceBEq, Nat.reduceBNe, Int.reduceLT, Int.reduceLE, Int.reduceGT, Int.reduceGE, Int.reduceBEq, Int.reduceBNe, Int.reduceToNat, Int.reduceAdd, Int.reduceSub, Int.reduceMul, Int.reduceEq, Int.reduceNeg, reduceCtorEq, decide_true, decide_false, Bool.false_eq_true, ty3, ty4, ty5, ty9, ty22, ty24, ty38, ty39, ty40, ty43, ty27, ty28, ty74, ty75, ty52, ty59, eq24, eq75, hl, hl1, dl, d7, n1, fb, l1]
  refine Lwp.seq (Lwp.regI hT ?_)
  simp only [L61r2, go_sem, List.isEmpty_nil, isC, eq_self, reduceIte, Nat.reduceAdd, Nat.reduceMul, Nat.reduceSub, Nat.reduceLT, Nat.reduceLeDiff, Nat.reduceEqDiff, Nat.reduceDiv, Nat.reduceMod, Nat.reducePow, Nat.reduceBEq, Nat.reduceBNe, Int.reduceLT, Int.reduceLE, Int.reduceGT, Int.reduceGE, Int.reduceBEq, Int.reduceBNe, Int.reduceToNat, Int.reduceAdd, Int.reduceSub, Int.reduceMul, Int.reduceEq, Int.reduceNeg, reduceCtorEq, decide_true, decide_false, Bool.false_eq_true, ty3, ty4, ty5, ty9, ty22, ty24, ty38, ty39, ty40, ty43, ty27, ty28, ty74, ty75, ty52, ty59, eq24, eq75, o1, hl, hl1, dl, d7, n1, fi, lX384]
  refine Lwp.seq ?_
  refine Lwp.seq (Lwp.regI hT ?_)
  simp only [L61r3, go_sem, List.isEmpty_nil, isC, eq_self, reduceIte, Nat.reduceAdd, Nat.reduceMul, Nat.reduceSub, Nat.reduceLT, Nat.reduceLeDiff, Nat.reduceEqDiff, Nat.reduceDiv, Nat.reduceMod, Nat.reducePow, Nat.reduceBEq, Nat.reduceBNe, Int.reduceLT, Int.reduceLE, Int.reduceGT, Int.reduceGE, Int.reduceBEq, Int.reduceBNe, Int.reduceToNat, Int.reduceAdd, Int.reduceSub, Int.reduceMul, Int.reduceEq, Int.reduceNeg, reduceCtorEq, decide_true, decide_false, Bool.false_eq_true, ty3, ty4, ty5, ty9, ty22, ty24, ty38, ty39, ty40, ty43, ty27, ty28, ty74, ty75, ty52, ty59, eq24, eq75]
  refine Lwp.block (Lwp.whl (St53 d e x1 X) (fun k => k ≤ 384) (fun k => k) 384 (Nat.le_refl _) ?_ ?_)
  · refine weak_of rfl ?_ ?_ ?_
    · (simp only [go_sem, List.isEmpty_nil, isC, eq_self, reduceIte, Nat.reduceAdd, Nat.reduceMul, Nat.reduceSub, Nat.reduceLT, Nat.reduceLeDiff, Nat.reduceEqDiff, Nat.reduceDiv, Nat.reduceMod, Nat.reducePow, Nat.reduceBEq, Nat.reduceBNe, Int.reduceLT, Int.reduceLE, Int.reduceGT, Int.reduceGE, Int.reduceBEq, Int.reduceBNe, Int.reduceToNat, Int.reduceAdd, Int.reduceSub, Int.reduceMul, Int.reduceEq, Int.reduceNeg, reduceCtorEq, decide_true, decide_false, Bool.false_eq_true, St53, hX]; try rfl)
    · (simp only [go_sem, List.isEmpty_nil, isC, eq_self, reduceIte, Nat.reduceAdd, Nat.reduceMul, Nat.reduceSub, Nat.reduceLT, Nat.reduceLeDiff, Nat.reduceEqDiff, Nat.reduceDiv, Nat.reduceMod, Nat.reducePow, Nat.reduceBEq, Nat.reduceBNe, Int.reduceLT, Int.reduceLE, Int.reduceGT, Int.reduceGE, Int.reduceBEq, Int.reduceBNe, Int.reduceToNat, Int.reduceAdd, Int.reduceSub, Int.reduceMul, Int.reduceEq, Int.reduceNeg, reduceCtorEq, decide_true, decide_false, Bool.false_eq_true, St53, hX]; try rfl)
    · (simp only [go_sem, List.isEmpty_nil, isC, eq_self, reduceIte, Nat.reduceAdd, Nat.reduceMul, Nat.reduceSub, Nat.reduceLT, Nat.reduceLeDiff, Nat.reduceEqDiff, Nat.reduceDiv, Nat.reduceMod, Nat.reducePow, Nat.reduceBEq, Nat.reduceBNe, Int.reduceLT, Int.reduceLE, Int.reduceGT, Int.reduceGE, Int.reduceBEq, Int.reduceBNe, Int.reduceToNat, Int.reduceAdd, Int.reduceSub, Int.reduceMul, Int.reduceEq, Int.reduceNeg, reduceCtorEq, decide_true, decide_false, Bool.false_eq_true, St53, hX]; try rfl)
  · intro k hk
    unfold St53
    refine Lwp.seq (Lwp.seq (Lwp.regI hT ?_))
    by_cases h0 : k = 0
    · subst h0
      have b1 : ¬ (((0 : Nat) : Int) - 1) ≥ 0 := by omega
      have lX0 := lX 0
      generalize X 0 = x0 at *
      simp only [L61r4, go_sem, List.isEmpty_nil, isC, eq_self, reduceIte, Nat.reduceAdd, Nat.reduceMul, Nat.reduceSub, Nat.reduceLT, Nat.reduceLeDiff, Nat.reduceEqDiff, Nat.reduceDiv, Nat.reduceMod, Nat.reducePow, Nat.reduceBEq, Nat.reduceBNe, Int.reduceLT, Int.reduceLE, Int.reduceGT, Int.reduceGE, Int.reduceBEq, Int.reduceBNe, Int.reduceToNat, Int.reduceAdd, Int.reduceSub, Int.reduceMul, Int.reduceEq, Int.reduceNeg, reduceCtorEq, decide_true, decide_false, Bool.false_eq_true, ty3, b1]
      refine Lwp.cond rfl (fun h => by cases h) (fun _ => Lwp.exit ?_)
      simp only [go_sem, List.isEmpty_nil, isC, eq_self, reduceIte, Nat.reduceAdd, Nat.reduceMul, Nat.reduceSub, Nat.reduceLT, Nat.reduceLeDiff, Nat.reduceEqDiff, Nat.reduceDiv, Nat.reduceMod, Nat.reducePow, Nat.reduceBEq, Nat.reduceBNe, Int.reduceLT, Int.reduceLE, Int.reduceGT, Int.reduceGE, Int.reduceBEq, Int.reduceBNe, Int.reduceToNat, Int.reduceAdd, Int.reduceSub, Int.reduceMul, Int.reduceEq, Int.reduceNeg, reduceCtorEq, decide_true, decide_false, Bool.false_eq_true]
      refine Lwp.seq (Lwp.regI hT ?_)
      simp only [L61r8, go_sem, List.isEmpty_nil, isC, eq_self, reduceIte, Nat.reduceAdd, Nat.reduceMul, Nat.reduceSub, Nat.reduceLT, Nat.reduceLeDiff, Nat.reduceEqDiff, Nat.reduceDiv, Nat.reduceMod, Nat.reducePow, Nat.reduceBEq, Nat.reduceBNe, Int.reduceLT, Int.reduceLE, Int.reduceGT, Int.reduceGE, Int.reduceBEq, Int.reduceBNe, Int.reduceToNat, Int.reduceAdd, Int.reduceSub, Int.reduceMul, Int.reduceEq, Int.reduceNeg, reduceCtorEq, decide_true, decide_false, Bool.false_eq_true, ty3, ty4, ty5, ty9, ty22, ty24, ty38, ty39, ty40, ty43, ty27, ty28, ty74, ty75, ty52, ty59, eq24, eq75, o1, dl, lX0, fo, lo]
      refine Lwp.ret (post_val (v := .agg (ints .u64 out)) ?_ ?_)
      · simp only [go_sem, List.isEmpty_nil, isC, eq_self, reduceIte, Nat.reduceAdd, Nat.reduceMul, Nat.reduceSub, Nat.reduceLT, Nat.reduceLeDiff, Nat.reduceEqDiff, Nat.reduceDiv, Nat.reduceMod, Nat.reducePow, Nat.reduceBEq, Nat.reduceBNe, Int.reduceLT, Int.reduceLE, Int.reduceGT, Int.reduceGE, Int.reduceBEq, Int.reduceBNe, Int.reduceToNat, Int.reduceAdd, Int.reduceSub, Int.reduceMul, Int.reduceEq, Int.reduceNeg, reduceCtorEq, decide_true, decide_false, Bool.false_eq_true, ty24, lo]
      · simp only [go_sem, List.isEmpty_nil, isC, eq_self, reduceIte, Nat.reduceAdd, Nat.reduceMul, Nat.reduceSub, Nat.reduceLT, Nat.reduceLeDiff, Nat.reduceEqDiff, Nat.reduceDiv, Nat.reduceMod, Nat.reducePow, Nat.reduceBEq, Nat.reduceBNe, Int.reduceLT, Int.reduceLE, Int.reduceGT, Int.reduceGE, Int.reduceBEq, Int.reduceBNe, Int.reduceToNat, Int.reduceAdd, Int.reduceSub, Int.reduceMul, Int.reduceEq, Int.reduceNeg, reduceCtorEq, decide_true, decide_false, Bool.false_eq_true]
    · obtain ⟨i, rfl⟩ : ∃ i, k = i + 1 := ⟨k - 1, by omega⟩
      have b0 : ((i + 1 : Nat) : Int) - 1 = (i : Int) := by omega
      have b1 : (i : Int) ≥ 0 := by omega
      have b2 : IntKind.i64.wrap ((i : Int) - 1) = (i : Int) - 1 := wrap_i64 (by omega) (by omega)
      have g1 := fs i (by omega)
      have g2 := fm i (by omega)
      have g3 := ft i (by omega)
      have g4 := fp i (by omega)
      have q1 := lX (i + 1)
      have q2 := lX i
      have q3 := lY i
      have q4 := lZ i
      simp only [b0]
      generalize X (i + 1) = xi1 at *
      generalize hxi : X i = xi at *
      generalize Y i = yi at *
      generalize Z i = zi at *
      generalize c i = ci at *
      simp only [L61r4, go_sem, List.isEmpty_nil, isC, eq_self, reduceIte, Nat.reduceAdd, Nat.reduceMul, Nat.reduceSub, Nat.reduceLT, Nat.reduceLeDiff, Nat.reduceEqDiff, Nat.reduceDiv, Nat.reduceMod, Nat.reducePow, Nat.reduceBEq, Nat.reduceBNe, Int.reduceLT, Int.reduceLE, Int.reduceGT, Int.reduceGE, Int.reduceBEq, Int.reduceBNe, Int.reduceToNat, Int.reduceAdd, Int.reduceSub, Int.reduceMul, Int.reduceEq, Int.reduceNeg, reduceCtorEq, decide_true, decide_false, Bool.false_eq_true, ty3, b1]
      refine Lwp.cond rfl (fun _ => Lwp.skip ?_) (fun h => by cases h)
      simp only [go_sem, List.isEmpty_nil, isC, eq_self, reduceIte, Nat.reduceAdd, Nat.reduceMul, Nat.reduceSub, Nat.reduceLT, Nat.reduceLeDiff, Nat.reduceEqDiff, Nat.reduceDiv, Nat.reduceMod, Nat.reducePow, Nat.reduceBEq, Nat.reduceBNe, Int.reduceLT, Int.reduceLE, Int.reduceGT, Int.reduceGE, Int.reduceBEq, Int.reduceBNe, Int.reduceToNat, Int.reduceAdd, Int.reduceSub, Int.reduceMul, Int.reduceEq, Int.reduceNeg, reduceCtorEq, decide_true, decide_false, Bool.false_eq_true]
      refine Lwp.seq (Lwp.block ?_)
      refine Lwp.seq (Lwp.regI hT ?_)
      simp only [L61r6, go_sem, List.isEmpty_nil, isC, eq_self, reduceIte, Nat.reduceAdd, Nat.reduceMul, Nat.reduceSub, Nat.reduceLT, Nat.reduceLeDiff, Nat.reduceEqDiff, Nat.reduceDiv, Nat.reduceMod, Nat.reducePow, Nat.reduceBEq, Nat.reduceBNe, Int.reduceLT, Int.reduceLE, Int.reduceGT, Int.reduceGE, Int.reduceBEq, Int.reduceBNe, Int.reduceToNat, Int.reduceAdd, Int.reduceSub, Int.reduceMul, Int.reduceEq, Int.reduceNeg, reduceCtorEq, decide_true, decide_false, Bool.false_eq_true, ty3, ty4, ty5, ty9, ty22, ty24, ty38, ty39, ty40, ty43, ty27, ty28, ty74, ty75, ty52, ty59, eq24, eq75, dl, q1, q3, g1]
      refine Lwp.regD hT hM ?_
      simp only [L61r7, go_sem, List.isEmpty_nil, isC, eq_self, reduceIte, Nat.reduceAdd, Nat.reduceMul, Nat.reduceSub, Nat.reduceLT, Nat.reduceLeDiff, Nat.reduceEqDiff, Nat.reduceDiv, Nat.reduceMod, Nat.reducePow, Nat.reduceBEq, Nat.reduceBNe, Int.reduceLT, Int.reduceLE, Int.reduceGT, Int.reduceGE, Int.reduceBEq, Int.reduceBNe, Int.reduceToNat, Int.reduceAdd, Int.reduceSub, Int.reduceMul, Int.reduceEq, Int.reduceNeg, reduceCtorEq, decide_true, decide_false, Bool.false_eq_true, ty3, ty4, ty5, ty9, ty22, ty24, ty38, ty39, ty40, ty43, ty27, ty28, ty74, ty75, ty52, ty59, eq24, eq75, hl1, dl, q3, q4, q2, l1, g2, g3, g4]
      refine Lwp.regI hT ?_
      simp only [L61r5, go_sem, List.isEmpty_nil, isC, eq_self, reduceIte, Nat.reduceAdd, Nat.reduceMul, Nat.reduceSub, Nat.reduceLT, Nat.reduceLeDiff, Nat.reduceEqDiff, Nat.reduceDiv, Nat.reduceMod, Nat.reducePow, Nat.reduceBEq, Nat.reduceBNe, Int.reduceLT, Int.reduceLE, Int.reduceGT, Int.reduceGE, Int.reduceBEq, Int.reduceBNe, Int.reduceToNat, Int.reduceAdd, Int.reduceSub, Int.reduceMul, Int.reduceEq, Int.reduceNeg, reduceCtorEq, decide_true, decide_false, Bool.false_eq_true, ty3, ty4, ty5, ty9, ty22, ty24, ty38, ty39, ty40, ty43, ty27, ty28, ty74, ty75, ty52, ty59, eq24, eq75, b2]
      refine ⟨i, by omega, by omega, ?_⟩
      refine weak_of rfl ?_ ?_ ?_
      · (simp only [go_sem, List.isEmpty_nil, isC, eq_self, reduceIte, Nat.reduceAdd, Nat.reduceMul, Nat.reduceSub, Nat.reduceLT, Nat.reduceLeDiff, Nat.reduceEqDiff, Nat.reduceDiv, Nat.reduceMod, Nat.reducePow, Nat.reduceBEq, Nat.reduceBNe, Int.reduceLT, Int.reduceLE, Int.reduceGT, Int.reduceGE, Int.reduceBEq, Int.reduceBNe, Int.reduceToNat, Int.reduceAdd, Int.reduceSub, Int.reduceMul, Int.reduceEq, Int.reduceNeg, reduceCtorEq, decide_true, decide_false, Bool.false_eq_true, St53, hxi]; try rfl)
      · (simp only [go_sem, List.isEmpty_nil, isC, eq_self, reduceIte, Nat.reduceAdd, Nat.reduceMul, Nat.reduceSub, Nat.reduceLT, Nat.reduceLeDiff, Nat.reduceEqDiff, Nat.reduceDiv, Nat.reduceMod, Nat.reducePow, Nat.reduceBEq, Nat.reduceBNe, Int.reduceLT, Int.reduceLE, Int.reduceGT, Int.reduceGE, Int.reduceBEq, Int.reduceBNe, Int.reduceToNat, Int.reduceAdd, Int.reduceSub, Int.reduceMul, Int.reduceEq, Int.reduceNeg, reduceCtorEq, decide_true, decide_false, Bool.false_eq_true, St53, hxi]; try rfl)
      · (simp only [go_sem, List.isEmpty_nil, isC, eq_self, reduceIte, Nat.reduceAdd, Nat.reduceMul, Nat.reduceSub, Nat.reduceLT, Nat.reduceLeDiff, Nat.reduceEqDiff, Nat.reduceDiv, Nat.reduceMod, Nat.reducePow, Nat.reduceBEq, Nat.reduceBNe, Int.reduceLT, Int.reduceLE, Int.reduceGT, Int.reduceGE, Int.reduceBEq, Int.reduceBNe, Int.reduceToNat, Int.reduceAdd, Int.reduceSub, Int.reduceMul, Int.reduceEq, Int.reduceNeg, reduceCtorEq, decide_true, decide_false, Bool.false_eq_true, St53, hxi]; try rfl)

noncomputable def S61 : List AV → Option Ret := nz (sumOf (fun p : List Int × List Int × List Int => match p with | (a, e, d) => (U6 a) ∧ (U6 e) ∧ (ModL d)) (fun p : List Int × List Int × List Int => match p with | (a, e, d) => [.agg (ints .u64 a), .agg (ints .u64 e), .agg (ints .u64 d)]) (fun p : List Int × List Int × List Int => match p with | (a, e, d) => ⟨.agg (ints .u64 (lim6 (v64 a ^ v64 e % v64 (d.take 6)))), none⟩))
theorem S61_eq (a : List Int) (e : List Int) (d : List Int) (h0 : U6 a) (h1 : U6 e) (h2 : ModL d) : S61 [.agg (ints .u64 a), .agg (ints .u64 e), .agg (ints .u64 d)] = some ⟨.agg (ints .u64 (lim6 (v64 a ^ v64 e % v64 (d.take 6)))), none⟩ :=
  sumOf_eq (dom := (fun p : List Int × List Int × List Int => match p with | (a, e, d) => (U6 a) ∧ (U6 e) ∧ (ModL d))) (enc := (fun p : List Int × List Int × List Int => match p with | (a, e, d) => [.agg (ints .u64 a), .agg (ints .u64 e), .agg (ints .u64 d)])) (out := (fun p : List Int × List Int × List Int => match p with | (a, e, d) => ⟨.agg (ints .u64 (lim6 (v64 a ^ v64 e % v64 (d.take 6)))), none⟩)) (a, e, d) ⟨h0, h1, h2⟩ (fun y _ e => by
    obtain ⟨y0, y1, y2⟩ := y
    simp only [List.cons.injEq, AV.agg.injEq, AV.int.injEq, AV.slc.injEq, AV.iptr.injEq, AV.bool.injEq, AV.str.injEq, ints_injEq, dig_injEq,  Int.ofNat_inj, BitVec.toNat_inj, true_and, and_true] at e
    first | with_reducible rfl | simp only [e] | rfl)
theorem S61_inv {args : List AV} {r : Ret} (h : sumOf (fun p : List Int × List Int × List Int => match p with | (a, e, d) => (U6 a) ∧ (U6 e) ∧ (ModL d)) (fun p : List Int × List Int × List Int => match p with | (a, e, d) => [.agg (ints .u64 a), .agg (ints .u64 e), .agg (ints .u64 d)]) (fun p : List Int × List Int × List Int => match p with | (a, e, d) => ⟨.agg (ints .u64 (lim6 (v64 a ^ v64 e % v64 (d.take 6)))), none⟩) args = some r) : ∃ (a : List Int) (e : List Int) (d : List Int), ((U6 a) ∧ (U6 e) ∧ (ModL d)) ∧ args = [.agg (ints .u64 a), .agg (ints .u64 e), .agg (ints .u64 d)] ∧ r = ⟨.agg (ints .u64 (lim6 (v64 a ^ v64 e % v64 (d.take 6)))), none⟩ := by
  obtain ⟨x, h1, h2, h3⟩ := sumOf_inv h
  obtain ⟨a, e, d⟩ := x
  exact ⟨a, e, d, h1, h2.symm, h3⟩


set_option maxRecDepth 100000 in
theorem snd61 : SndE Tryd.prog NoG 61 S61 := by
  refine snd_nz (snd_by [(65, S65), (64, S64), (73, S73)] [] Tryd.func61 (by kernel_rfl) lite61 nt61 rs61 ⟨snd65, snd64, snd73, trivial⟩ trivial (fun hT args r h => ?_))
  obtain ⟨a, e, d, ⟨hd0, hd1, hd2⟩, rfl, rfl⟩ := S61_inv h
  clear h
  have hM := hM0
  refine ⟨Nat.le_of_ble_eq_true rfl, fun F => ?_⟩
  unfold L61
  obtain ⟨m, hG, rfl⟩ := hd2
  have hM2 := ModL.modL hG
  have dl := modL_len hG.1
  have dt := modL_take hG.1
  have d7 : sub (ints .u64 (modL m)) 7 6 = ints .u64 (lim6 (18446744073709551616 ^ 6 * 18446744073709551616 ^ 6 % v64 m)) := by rw [ints_sub, modL_two hG.1]
  have hodd := hG.2.1
  have P : ∀ x y : Nat, x < 18446744073709551616 ^ 6 → y < 18446744073709551616 ^ 6 → S73 [.agg (ints .u64 (lim6 x)), .agg (ints .u64 (lim6 y)), .agg (ints .u64 (modL m))] = some ⟨.agg (ints .u64 (lim6 (redN (x * y) (v64 m)))), none⟩ := fun x y hx hy => by
    have := S73_eq (lim6 x) (lim6 y) (modL m) (U6_lim _) (U6_lim _) hM2
    rwa [v64_lim6 hx, v64_lim6 hy, dt] at this
  have lt := mod_lt_R hG
  have o1 : lim6 1 = one6 := by decide
  have fb := P (v64 a) _ hd0.v64_lt (two_lt hG)
  rw [redN_in hodd, hd0.eq_lim] at fb
  have fi := P 1 _ (by decide) (two_lt hG)
  rw [redN_in hodd, o1] at fi
  have fo := P (v64 a ^ (v64 e / 2 ^ 0) * 18446744073709551616 ^ 6 % v64 m) 1 (lt _) (by decide)
  rw [redN_out (u := v64 a ^ (v64 e / 2 ^ 0)) hodd (Nat.mod_mod _ _), o1, Nat.mul_one] at fo
  have e384 : v64 e / 2 ^ 384 = 0 := Nat.div_eq_of_lt (by have := hd1.v64_lt; rwa [show (18446744073709551616 : Nat) ^ 6 = 2 ^ 384 by decide] at this)
  rw [dt, ← Nat.div_one (v64 e), ← Nat.pow_zero 2]
  refine walk53 hT hM F (two := lim6 (18446744073709551616 ^ 6 * 18446744073709551616 ^ 6 % v64 m)) (X := fun k => lim6 (v64 a ^ (v64 e / 2 ^ k) * 18446744073709551616 ^ 6 % v64 m))
    (Y := fun k => lim6 (v64 a ^ (v64 e / 2 ^ (k + 1)) * v64 a ^ (v64 e / 2 ^ (k + 1)) * 18446744073709551616 ^ 6 % v64 m)) (Z := fun k => lim6 (v64 a ^ (v64 e / 2 ^ (k + 1)) * v64 a ^ (v64 e / 2 ^ (k + 1)) * v64 a * 18446744073709551616 ^ 6 % v64 m))
    (c := fun k => ((v64 e / 2 ^ k % 2 : Nat) : Int)) hd0.1 hd1.1 dl d7 (lim6_len _) (fun k => lim6_len _) (fun k => lim6_len _) (fun k => lim6_len _) (lim6_len _) fb ?_ (fun k hk => ?_) (fun k hk => ?_) (fun k hk => S65_nat hd1 hk) (fun k hk => ?_) fo
  · show S73 _ = some ⟨.agg (ints .u64 (lim6 (v64 a ^ (v64 e / 2 ^ 384) * 18446744073709551616 ^ 6 % v64 m))), none⟩
    rw [e384, Nat.pow_zero]; exact fi
  · have h := P _ _ (lt (v64 a ^ (v64 e / 2 ^ (k + 1)) * 18446744073709551616 ^ 6)) (lt (v64 a ^ (v64 e / 2 ^ (k + 1)) * 18446744073709551616 ^ 6))
    rw [redN_mul (u := v64 a ^ (v64 e / 2 ^ (k + 1))) (v := v64 a ^ (v64 e / 2 ^ (k + 1))) hodd (Nat.mod_mod _ _) (Nat.mod_mod _ _)] at h
    exact h
  · have h := P _ _ (lt (v64 a ^ (v64 e / 2 ^ (k + 1)) * v64 a ^ (v64 e / 2 ^ (k + 1)) * 18446744073709551616 ^ 6)) (lt (v64 a * 18446744073709551616 ^ 6))
    rw [redN_mul (u := v64 a ^ (v64 e / 2 ^ (k + 1)) * v64 a ^ (v64 e / 2 ^ (k + 1))) (v := v64 a) hodd (Nat.mod_mod _ _) (Nat.mod_mod _ _)] at h
    exact h
  · have hb : ((v64 e / 2 ^ k % 2 : Nat) : Int) = 0 ∨ ((v64 e / 2 ^ k % 2 : Nat) : Int) = 1 := by omega
    show S64 [.int .u64 ((v64 e / 2 ^ k % 2 : Nat) : Int), _, _] = some ⟨.agg (ints .u64 (lim6 (v64 a ^ (v64 e / 2 ^ k) * 18446744073709551616 ^ 6 % v64 m))), none⟩
    rw [S64_bit hb (U6_lim _) (U6_lim _), pow_half (v64 a) (v64 e) k]
    rcases Nat.mod_two_eq_zero_or_one (v64 e / 2 ^ k) with h | h
    · rw [if_neg (by rw [h]; decide), if_neg (by rw [h]; decide)]
    · rw [if_pos (by rw [h]; rfl), if_pos h]
end Eng
