/- Contracts of the program's functions, and laws over them. There is no further condition. -/
import Derived.Test.YtmpebojnnlghiaaDoorfS18
import Derived.Test.YtmpebojnnlghiaaDoorSfC1
import Derived.Test.YtmpebojnnlghiaaDoorED
set_option linter.unusedVariables false
set_option linter.unusedSimpArgs false
set_option exponentiation.threshold 2000
-- ALIAS: Tryd
namespace Eng
open Go Go.Proofs
set_option linter.unusedSimpArgs false
set_option linter.unusedVariables false
-- TY: ty3, ty4, ty5, ty9, ty22, ty24, ty38, ty39, ty40, ty43, ty27, ty28, ty74, ty75, ty59, eq24, eq75
-- XN: 74=subX 75=addX

theorem dig_drop (x k : Nat) : dig (x / 4294967296 ^ k) = (dig x).drop k := by
  induction k generalizing x with
  | zero => simp
  | succ k ih =>
    by_cases hx : x = 0
    · subst hx; simp [dig_zero]
    · rw [dig_pos hx, List.drop_succ_cons, ← ih, Nat.pow_succ', Nat.div_div_eq_div_mul]
theorem dig_take {x k : Nat} (h : k ≤ (dig x).length) : (dig x).take k = low k x := eq_tab (by rw [List.length_take]; omega) fun i hi => by
  rw [← dig_getD]; simp [List.getD_eq_getElem?_getD, List.getElem?_take, hi]
theorem dig_mono {x y : Nat} (h : x ≤ y) : (dig x).length ≤ (dig y).length := by
  rw [dig_len_le]; exact Nat.lt_of_le_of_lt h ((dig_len_le y _).1 (Nat.le_refl _))

noncomputable def S71 : List AV → Option Ret := nz (sumOf (fun p : Nat => match p with | x => ((dig x).length ≤ 1000000)) (fun p : Nat => match p with | x => [.slc (dig (x)).length (ints .u64 (dig (x)))]) (fun p : Nat => match p with | x => ⟨.tup [.slc (dig (x % 4294967296 ^ 12)).length (ints .u64 (dig (x % 4294967296 ^ 12))), .slc (dig (x / 4294967296 ^ 12)).length (ints .u64 (dig (x / 4294967296 ^ 12)))], none⟩))
theorem S71_eq (x : Nat) (h0 : (dig x).length ≤ 1000000) : S71 [.slc (dig (x)).length (ints .u64 (dig (x)))] = some ⟨.tup [.slc (dig (x % 4294967296 ^ 12)).length (ints .u64 (dig (x % 4294967296 ^ 12))), .slc (dig (x / 4294967296 ^ 12)).length (ints .u64 (dig (x / 4294967296 ^ 12)))], none⟩ :=
  sumOf_eq (dom := (fun p : Nat => match p with | x => ((dig x).length ≤ 1000000))) (enc := (fun p : Nat => match p with | x => [.slc (dig (x)).length (ints .u64 (dig (x)))])) (out := (fun p : Nat => match p with | x => ⟨.tup [.slc (dig (x % 4294967296 ^ 12)).length (ints .u64 (dig (x % 4294967296 ^ 12))), .slc (dig (x / 4294967296 ^ 12)).length (ints .u64 (dig (x / 4294967296 ^ 12)))], none⟩)) x h0 (fun y _ e => by
    simp only [List.cons.injEq, AV.agg.injEq, AV.int.injEq, AV.slc.injEq, AV.iptr.injEq, AV.bool.injEq, AV.str.injEq, ints_injEq, dig_injEq,  Int.ofNat_inj, BitVec.toNat_inj, true_and, and_true] at e
    first | with_reducible rfl | simp only [e] | rfl)
theorem S71_inv {args : List AV} {r : Ret} (h : sumOf (fun p : Nat => match p with | x => ((dig x).length ≤ 1000000)) (fun p : Nat => match p with | x => [.slc (dig (x)).length (ints .u64 (dig (x)))]) (fun p : Nat => match p with | x => ⟨.tup [.slc (dig (x % 4294967296 ^ 12)).length (ints .u64 (dig (x % 4294967296 ^ 12))), .slc (dig (x / 4294967296 ^ 12)).length (ints .u64 (dig (x / 4294967296 ^ 12)))], none⟩) args = some r) : ∃ (x : Nat), (((dig x).length ≤ 1000000)) ∧ args = [.slc (dig (x)).length (ints .u64 (dig (x)))] ∧ r = ⟨.tup [.slc (dig (x % 4294967296 ^ 12)).length (ints .u64 (dig (x % 4294967296 ^ 12))), .slc (dig (x / 4294967296 ^ 12)).length (ints .u64 (dig (x / 4294967296 ^ 12)))], none⟩ := by
  obtain ⟨x, h1, h2, h3⟩ := sumOf_inv h
  exact ⟨x, h1, h2.symm, h3⟩


set_option maxRecDepth 100000 in
theorem snd71 : SndE Tryd.prog NoG 71 S71 := by
  refine snd_nz (snd_by [(53, S53)] [] Tryd.func71 (by kernel_rfl) lite71 nt71 rs71 ⟨snd53, trivial⟩ trivial (fun hT args r h => ?_))
  obtain ⟨x, hd0, rfl, rfl⟩ := S71_inv h
  clear h
  have hM := hM0
  refine ⟨Nat.le_of_ble_eq_true rfl, fun F => ?_⟩
  unfold L71
  refine Lwp.seq (Lwp.regI hT ?_)
  simp only [L71r0, go_sem, List.isEmpty_nil, isC, eq_self, reduceIte, Nat.reduceAdd, Nat.reduceMul, Nat.reduceSub, Nat.reduceLT, Nat.reduceLeDiff, Nat.reduceEqDiff, Nat.reduceDiv, Nat.reduceMod, Nat.reducePow, Nat.reduceBEq, Nat.reduceBNe, Int.reduceLT, Int.reduceLE, Int.reduceGT, Int.reduceGE, Int.reduceBEq, Int.reduceBNe, Int.reduceToNat, Int.reduceAdd, Int.reduceSub, Int.reduceMul, Int.reduceEq, Int.reduceNeg, reduceCtorEq, decide_true, decide_false, Bool.false_eq_true, ty3, ty4, ty5, ty9, ty22, ty24, ty38, ty39, ty40, ty43, ty27, ty28, ty74, ty75, ty59, eq24, eq75]
  refine Lwp.seq (Lwp.seq (Lwp.regI hT ?_))
  by_cases h12 : (dig x).length ≤ 12
  · have a1 : ((dig x).length : Int) ≤ 12 := by omega
    have hx : x < 4294967296 ^ 12 := (dig_len_le x 12).1 h12
    have e1 : x % 4294967296 ^ 12 = x := Nat.mod_eq_of_lt hx
    have e2 : x / 4294967296 ^ 12 = 0 := Nat.div_eq_of_lt hx
    simp only [L71r1, go_sem, List.isEmpty_nil, isC, eq_self, reduceIte, Nat.reduceAdd, Nat.reduceMul, Nat.reduceSub, Nat.reduceLT, Nat.reduceLeDiff, Nat.reduceEqDiff, Nat.reduceDiv, Nat.reduceMod, Nat.reducePow, Nat.reduceBEq, Nat.reduceBNe, Int.reduceLT, Int.reduceLE, Int.reduceGT, Int.reduceGE, Int.reduceBEq, Int.reduceBNe, Int.reduceToNat, Int.reduceAdd, Int.reduceSub, Int.reduceMul, Int.reduceEq, Int.reduceNeg, reduceCtorEq, decide_true, decide_false, Bool.false_eq_true, ty3, ty28, a1]
    refine Lwp.cond rfl (fun _ => ?_) (fun h => by cases h)
    refine Lwp.seq (Lwp.regI hT ?_)
    simp only [L71r2, go_sem, List.isEmpty_nil, isC, eq_self, reduceIte, Nat.reduceAdd, Nat.reduceMul, Nat.reduceSub, Nat.reduceLT, Nat.reduceLeDiff, Nat.reduceEqDiff, Nat.reduceDiv, Nat.reduceMod, Nat.reducePow, Nat.reduceBEq, Nat.reduceBNe, Int.reduceLT, Int.reduceLE, Int.reduceGT, Int.reduceGE, Int.reduceBEq, Int.reduceBNe, Int.reduceToNat, Int.reduceAdd, Int.reduceSub, Int.reduceMul, Int.reduceEq, Int.reduceNeg, reduceCtorEq, decide_true, decide_false, Bool.false_eq_true, ty3, ty4, ty5, ty9, ty22, ty24, ty38, ty39, ty40, ty43, ty27, ty28, ty74, ty75, ty59, eq24, eq75]
    refine Lwp.weaken (weak_slc (t := 3) (by simp only [go_sem, List.isEmpty_nil, isC, eq_self, reduceIte, Nat.reduceAdd, Nat.reduceMul, Nat.reduceSub, Nat.reduceLT, Nat.reduceLeDiff, Nat.reduceEqDiff, Nat.reduceDiv, Nat.reduceMod, Nat.reducePow, Nat.reduceBEq, Nat.reduceBNe, Int.reduceLT, Int.reduceLE, Int.reduceGT, Int.reduceGE, Int.reduceBEq, Int.reduceBNe, Int.reduceToNat, Int.reduceAdd, Int.reduceSub, Int.reduceMul, Int.reduceEq, Int.reduceNeg, reduceCtorEq, decide_true, decide_false, Bool.false_eq_true])) (Lwp.ret (post_val (v := .tup [.slc (dig (x)).length (ints .u64 (dig (x))), .slc 0 []]) ?_ ?_))
    · simp only [go_sem, List.isEmpty_nil, isC, eq_self, reduceIte, Nat.reduceAdd, Nat.reduceMul, Nat.reduceSub, Nat.reduceLT, Nat.reduceLeDiff, Nat.reduceEqDiff, Nat.reduceDiv, Nat.reduceMod, Nat.reducePow, Nat.reduceBEq, Nat.reduceBNe, Int.reduceLT, Int.reduceLE, Int.reduceGT, Int.reduceGE, Int.reduceBEq, Int.reduceBNe, Int.reduceToNat, Int.reduceAdd, Int.reduceSub, Int.reduceMul, Int.reduceEq, Int.reduceNeg, reduceCtorEq, decide_true, decide_false, Bool.false_eq_true]
    · rw [e1, e2, dig_zero]; simp only [go_sem, List.isEmpty_nil, isC, eq_self, reduceIte, Nat.reduceAdd, Nat.reduceMul, Nat.reduceSub, Nat.reduceLT, Nat.reduceLeDiff, Nat.reduceEqDiff, Nat.reduceDiv, Nat.reduceMod, Nat.reducePow, Nat.reduceBEq, Nat.reduceBNe, Int.reduceLT, Int.reduceLE, Int.reduceGT, Int.reduceGE, Int.reduceBEq, Int.reduceBNe, Int.reduceToNat, Int.reduceAdd, Int.reduceSub, Int.reduceMul, Int.reduceEq, Int.reduceNeg, reduceCtorEq, decide_true, decide_false, Bool.false_eq_true]
  · have a1 : ¬ ((dig x).length : Int) ≤ 12 := by omega
    have l1 : ((dig x).take 12).length = 12 := by rw [List.length_take]; omega
    have f54 : S53 [.slc 12 (ints .u64 ((dig x).take 12))] = some ⟨.slc (dig (x % 4294967296 ^ 12)).length (ints .u64 (dig (x % 4294967296 ^ 12))), none⟩ := by
      rw [dig_take (by omega)]
      have := S53_eq (low 12 x) (low_D32 12 x) (by rw [low_len]; omega)
      rw [low_len, val_low] at this; exact this
    have l2 : (dig (x / 4294967296 ^ 12)).length = (dig x).length - 12 := by rw [dig_drop, List.length_drop]
    have l3 : (dig (x / 4294967296 ^ 12)) = (dig x).drop 12 := dig_drop x 12
    have l4 : ((dig x).drop 12).take ((dig x).length - 12) = (dig x).drop 12 := List.take_of_length_le (by rw [List.length_drop]; omega)
    have l5 : ((dig x).drop 12).length = (dig x).length - 12 := by rw [List.length_drop]
    generalize dig (x / 4294967296 ^ 12) = dh at *
    generalize x % 4294967296 ^ 12 = xl at *
    subst l3
    have b1 : (12 : Int) ≤ ((dig x).length : Int) := by omega
    have b2 : 12 ≤ (dig x).length := by omega
    have b3 : ¬ (dig x).length - 12 = 0 := by omega
    have b4 : ((dig x).length - 12) * 8 ≤ 140737488355328 := by omega
    have l6 : ((dig x).take 12).take 12 = (dig x).take 12 := List.take_of_length_le (by omega)
    have b5 : ((dig x).length - 12 == 0) = false := by simp; omega
    have b6 : ((dig x).length : Int) ≤ ((dig x).length : Int) := by omega
    have b7 : (0:Int) ≤ ((dig x).length : Int) := by omega
    simp only [L71r1, go_sem, List.isEmpty_nil, isC, eq_self, reduceIte, Nat.reduceAdd, Nat.reduceMul, Nat.reduceSub, Nat.reduceLT, Nat.reduceLeDiff, Nat.reduceEqDiff, Nat.reduceDiv, Nat.reduceMod, Nat.reducePow, Nat.reduceBEq, Nat.reduceBNe, Int.reduceLT, Int.reduceLE, Int.reduceGT, Int.reduceGE, Int.reduceBEq, Int.reduceBNe, Int.reduceToNat, Int.reduceAdd, Int.reduceSub, Int.reduceMul, Int.reduceEq, Int.reduceNeg, reduceCtorEq, decide_true, decide_false, Bool.false_eq_true, ty3, ty28, a1]
    refine Lwp.cond rfl (fun h => by cases h) (fun _ => Lwp.skip ?_)
    simp only [go_sem, List.isEmpty_nil, isC, eq_self, reduceIte, Nat.reduceAdd, Nat.reduceMul, Nat.reduceSub, Nat.reduceLT, Nat.reduceLeDiff, Nat.reduceEqDiff, Nat.reduceDiv, Nat.reduceMod, Nat.reducePow, Nat.reduceBEq, Nat.reduceBNe, Int.reduceLT, Int.reduceLE, Int.reduceGT, Int.reduceGE, Int.reduceBEq, Int.reduceBNe, Int.reduceToNat, Int.reduceAdd, Int.reduceSub, Int.reduceMul, Int.reduceEq, Int.reduceNeg, reduceCtorEq, decide_true, decide_false, Bool.false_eq_true]
    generalize dig x = dx at *
    refine Lwp.seq (Lwp.regD hT hM ?_)
    simp only [L71r3, go_sem, List.isEmpty_nil, isC, eq_self, reduceIte, Nat.reduceAdd, Nat.reduceMul, Nat.reduceSub, Nat.reduceLT, Nat.reduceLeDiff, Nat.reduceEqDiff, Nat.reduceDiv, Nat.reduceMod, Nat.reducePow, Nat.reduceBEq, Nat.reduceBNe, Int.reduceLT, Int.reduceLE, Int.reduceGT, Int.reduceGE, Int.reduceBEq, Int.reduceBNe, Int.reduceToNat, Int.reduceAdd, Int.reduceSub, Int.reduceMul, Int.reduceEq, Int.reduceNeg, reduceCtorEq, decide_true, decide_false, Bool.false_eq_true, ty3, ty4, ty5, ty9, ty22, ty24, ty38, ty39, ty40, ty43, ty27, ty28, ty74, ty75, ty59, eq24, eq75, appendD, sliceA, boundA, ints_sub, List.drop_zero, l1, l4, l5, l6, b1, b2, b3, b4, b5, b6, b7, f54, Nat.le_refl]
    refine Lwp.ret (post_val (v := .tup [.slc (dig (xl)).length (ints .u64 (dig (xl))), .osl 13 0 (dx.length - 12) 1]) ?_ ?_)
    · simp only [go_sem, List.isEmpty_nil, isC, eq_self, reduceIte, Nat.reduceAdd, Nat.reduceMul, Nat.reduceSub, Nat.reduceLT, Nat.reduceLeDiff, Nat.reduceEqDiff, Nat.reduceDiv, Nat.reduceMod, Nat.reducePow, Nat.reduceBEq, Nat.reduceBNe, Int.reduceLT, Int.reduceLE, Int.reduceGT, Int.reduceGE, Int.reduceBEq, Int.reduceBNe, Int.reduceToNat, Int.reduceAdd, Int.reduceSub, Int.reduceMul, Int.reduceEq, Int.reduceNeg, reduceCtorEq, decide_true, decide_false, Bool.false_eq_true]
    · simp only [go_sem, List.isEmpty_nil, isC, eq_self, reduceIte, Nat.reduceAdd, Nat.reduceMul, Nat.reduceSub, Nat.reduceLT, Nat.reduceLeDiff, Nat.reduceEqDiff, Nat.reduceDiv, Nat.reduceMod, Nat.reducePow, Nat.reduceBEq, Nat.reduceBNe, Int.reduceLT, Int.reduceLE, Int.reduceGT, Int.reduceGE, Int.reduceBEq, Int.reduceBNe, Int.reduceToNat, Int.reduceAdd, Int.reduceSub, Int.reduceMul, Int.reduceEq, Int.reduceNeg, reduceCtorEq, decide_true, decide_false, Bool.false_eq_true, l5, Nat.le_refl]
end Eng
