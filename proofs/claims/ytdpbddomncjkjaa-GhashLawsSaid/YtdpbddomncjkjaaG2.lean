/- Contracts of the program's functions, and laws over them. There is no further condition. -/
import Derived.Test.YtdpbddomncjkjaaG1
set_option linter.unusedVariables false
set_option linter.unusedSimpArgs false
set_option exponentiation.threshold 2000
namespace Eng
open Go Go.Proofs
set_option linter.unusedSimpArgs false
set_option linter.unusedVariables false
-- TY: ty3, ty4, ty5, ty22, ty29, ty30, ty76, eq22
-- INJ: un_injEq

noncomputable def S8 : List AV → Option Ret := nz (sumOf (fun p : V × V × V => match p with | (a, b, c) => True) (fun p : V × V × V => match p with | (a, b, c) => [.agg (ints .u8 (un a)), .agg (ints .u8 (un b)), .agg (ints .u8 (un c))]) (fun p : V × V × V => match p with | (a, b, c) => ⟨.bool true, none⟩))
theorem S8_eq (a : V) (b : V) (c : V)  : S8 [.agg (ints .u8 (un a)), .agg (ints .u8 (un b)), .agg (ints .u8 (un c))] = some ⟨.bool true, none⟩ :=
  sumOf_eq (dom := (fun p : V × V × V => match p with | (a, b, c) => True)) (enc := (fun p : V × V × V => match p with | (a, b, c) => [.agg (ints .u8 (un a)), .agg (ints .u8 (un b)), .agg (ints .u8 (un c))])) (out := (fun p : V × V × V => match p with | (a, b, c) => ⟨.bool true, none⟩)) (a, b, c) trivial (fun y _ e => by
    obtain ⟨y0, y1, y2⟩ := y
    simp only [List.cons.injEq, AV.agg.injEq, AV.int.injEq, AV.slc.injEq, AV.bool.injEq, AV.str.injEq, ints_injEq, dig_injEq, un_injEq,  Int.ofNat_inj, BitVec.toNat_inj, true_and, and_true] at e
    first | with_reducible rfl | simp only [e] | rfl)
theorem S8_inv {args : List AV} {r : Ret} (h : sumOf (fun p : V × V × V => match p with | (a, b, c) => True) (fun p : V × V × V => match p with | (a, b, c) => [.agg (ints .u8 (un a)), .agg (ints .u8 (un b)), .agg (ints .u8 (un c))]) (fun p : V × V × V => match p with | (a, b, c) => ⟨.bool true, none⟩) args = some r) : ∃ (a : V) (b : V) (c : V), (True) ∧ args = [.agg (ints .u8 (un a)), .agg (ints .u8 (un b)), .agg (ints .u8 (un c))] ∧ r = ⟨.bool true, none⟩ := by
  obtain ⟨x, h1, h2, h3⟩ := sumOf_inv h
  obtain ⟨a, b, c⟩ := x
  exact ⟨a, b, c, h1, h2.symm, h3⟩


set_option maxRecDepth 100000 in
theorem snd8 : SndE Try.prog NoG 8 S8 := by
  refine snd_nz (snd_by [(30, S30), (31, S31), (33, S33)] [] Try.func8 (by kernel_rfl) lite8 nt8 rs8 ⟨snd30, snd31, snd33, trivial⟩ trivial (fun hT args r h => ?_))
  obtain ⟨a, b, c, _, rfl, rfl⟩ := S8_inv h
  clear h
  have hM := hM0
  refine ⟨Nat.le_of_ble_eq_true rfl, fun F => ?_⟩
  unfold L8
  have f1 := S30_eq a b
  have f2 := S30_eq b a
  rw [gm_comm b a] at f2
  have f3 := S30_eq (gm a b) c
  rw [gm_assoc] at f3
  have f4 := S30_eq b c
  have f5 := S30_eq a (gm b c)
  have f6 := S33_eq b c
  have f7 := S30_eq a (b ^^^ c)
  rw [gm_xor] at f7
  have f8 := S30_eq a c
  have f9 := S33_eq (gm a b) (gm a c)
  have f10 := S30_eq a 1#128
  rw [gm_one] at f10
  have f11 := S30_eq 1#128 1#128
  rw [gm_one] at f11
  have f12 := S31_eq
  have l1 := un_len a
  have l2 := un_len b
  have l3 := un_len c
  have l4 := un_len (gm a b)
  have l5 := un_len (gm a (gm b c))
  have l6 := un_len (gm a b ^^^ gm a c)
  have l7 := un_len 1#128
  have l8 := un_len (gm b c)
  have l9 := un_len (b ^^^ c)
  have l10 := un_len (gm a c)
  generalize un (gm a (gm b c)) = y1 at *
  generalize un (gm a b ^^^ gm a c) = y2 at *
  generalize un (gm a b) = y3 at *
  generalize un (gm b c) = y4 at *
  generalize un (gm a c) = y5 at *
  generalize un (b ^^^ c) = y6 at *
  generalize un (1#128) = y7 at *
  generalize un a = x1 at *
  generalize un b = x2 at *
  generalize un c = x3 at *
  refine Lwp.seq (Lwp.regI hT ?_)
  simp only [L8r0, go_sem, eq_self, reduceIte, Nat.reduceAdd, Nat.reduceMul, Nat.reduceSub, Nat.reduceLT, Nat.reduceLeDiff, Nat.reduceEqDiff, Nat.reduceDiv, Nat.reduceMod, Nat.reducePow, Nat.reduceBEq, Nat.reduceBNe, Int.reduceLT, Int.reduceLE, Int.reduceGT, Int.reduceGE, Int.reduceBEq, Int.reduceBNe, Int.reduceToNat, Int.reduceAdd, Int.reduceSub, Int.reduceMul, Int.reduceEq, Int.reduceNeg, reduceCtorEq, decide_true, decide_false, Bool.false_eq_true, ty3, ty4, ty5, ty22, ty29, ty30, ty76, eq22]
  refine Lwp.seq (Lwp.regD hT hM ?_)
  simp only [L8r1, go_sem, eq_self, reduceIte, Nat.reduceAdd, Nat.reduceMul, Nat.reduceSub, Nat.reduceLT, Nat.reduceLeDiff, Nat.reduceEqDiff, Nat.reduceDiv, Nat.reduceMod, Nat.reducePow, Nat.reduceBEq, Nat.reduceBNe, Int.reduceLT, Int.reduceLE, Int.reduceGT, Int.reduceGE, Int.reduceBEq, Int.reduceBNe, Int.reduceToNat, Int.reduceAdd, Int.reduceSub, Int.reduceMul, Int.reduceEq, Int.reduceNeg, reduceCtorEq, decide_true, decide_false, Bool.false_eq_true, ty3, ty4, ty5, ty22, ty29, ty30, ty76, eq22, l1, l2, l3, f1, f2, l4]
  refine Lwp.seq (Lwp.regD hT hM ?_)
  simp only [L8r2, go_sem, eq_self, reduceIte, Nat.reduceAdd, Nat.reduceMul, Nat.reduceSub, Nat.reduceLT, Nat.reduceLeDiff, Nat.reduceEqDiff, Nat.reduceDiv, Nat.reduceMod, Nat.reducePow, Nat.reduceBEq, Nat.reduceBNe, Int.reduceLT, Int.reduceLE, Int.reduceGT, Int.reduceGE, Int.reduceBEq, Int.reduceBNe, Int.reduceToNat, Int.reduceAdd, Int.reduceSub, Int.reduceMul, Int.reduceEq, Int.reduceNeg, reduceCtorEq, decide_true, decide_false, Bool.false_eq_true, ty3, ty4, ty5, ty22, ty29, ty30, ty76, eq22, l1, l2, l3, f1, f3, f4, f5, l5]
  refine Lwp.seq (Lwp.regD hT hM ?_)
  simp only [L8r3, go_sem, eq_self, reduceIte, Nat.reduceAdd, Nat.reduceMul, Nat.reduceSub, Nat.reduceLT, Nat.reduceLeDiff, Nat.reduceEqDiff, Nat.reduceDiv, Nat.reduceMod, Nat.reducePow, Nat.reduceBEq, Nat.reduceBNe, Int.reduceLT, Int.reduceLE, Int.reduceGT, Int.reduceGE, Int.reduceBEq, Int.reduceBNe, Int.reduceToNat, Int.reduceAdd, Int.reduceSub, Int.reduceMul, Int.reduceEq, Int.reduceNeg, reduceCtorEq, decide_true, decide_false, Bool.false_eq_true, ty3, ty4, ty5, ty22, ty29, ty30, ty76, eq22, l1, l2, l3, f6, f7, f1, f8, f9, l6]
  refine Lwp.seq (Lwp.regD hT hM ?_)
  simp only [L8r4, go_sem, eq_self, reduceIte, Nat.reduceAdd, Nat.reduceMul, Nat.reduceSub, Nat.reduceLT, Nat.reduceLeDiff, Nat.reduceEqDiff, Nat.reduceDiv, Nat.reduceMod, Nat.reducePow, Nat.reduceBEq, Nat.reduceBNe, Int.reduceLT, Int.reduceLE, Int.reduceGT, Int.reduceGE, Int.reduceBEq, Int.reduceBNe, Int.reduceToNat, Int.reduceAdd, Int.reduceSub, Int.reduceMul, Int.reduceEq, Int.reduceNeg, reduceCtorEq, decide_true, decide_false, Bool.false_eq_true, ty3, ty4, ty5, ty22, ty29, ty30, ty76, eq22, l1, l2, l3, f12, f10, f11, l7]
  refine Lwp.ret (post_val (v := .bool true) ?_ ?_)
  · simp only [go_sem, eq_self, reduceIte, Nat.reduceAdd, Nat.reduceMul, Nat.reduceSub, Nat.reduceLT, Nat.reduceLeDiff, Nat.reduceEqDiff, Nat.reduceDiv, Nat.reduceMod, Nat.reducePow, Nat.reduceBEq, Nat.reduceBNe, Int.reduceLT, Int.reduceLE, Int.reduceGT, Int.reduceGE, Int.reduceBEq, Int.reduceBNe, Int.reduceToNat, Int.reduceAdd, Int.reduceSub, Int.reduceMul, Int.reduceEq, Int.reduceNeg, reduceCtorEq, decide_true, decide_false, Bool.false_eq_true]
  · simp only [go_sem, eq_self, reduceIte, Nat.reduceAdd, Nat.reduceMul, Nat.reduceSub, Nat.reduceLT, Nat.reduceLeDiff, Nat.reduceEqDiff, Nat.reduceDiv, Nat.reduceMod, Nat.reducePow, Nat.reduceBEq, Nat.reduceBNe, Int.reduceLT, Int.reduceLE, Int.reduceGT, Int.reduceGE, Int.reduceBEq, Int.reduceBNe, Int.reduceToNat, Int.reduceAdd, Int.reduceSub, Int.reduceMul, Int.reduceEq, Int.reduceNeg, reduceCtorEq, decide_true, decide_false, Bool.false_eq_true]
theorem S8_eqI (x y z : List Int) (hx : B16 x) (hy : B16 y) (hz : B16 z) : S8 [.agg (ints .u8 x), .agg (ints .u8 y), .agg (ints .u8 z)] = some ⟨.bool true, none⟩ := by
  have h := S8_eq (bb x) (bb y) (bb z)
  rwa [un_bb hx.1 hx.2, un_bb hy.1 hy.2, un_bb hz.1 hz.2] at h
end Eng
