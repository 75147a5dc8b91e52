/- Contracts of the program's functions, and laws over them. There is no further condition. -/
import Derived.Test.YtabahlhaocmglaaGB0
import Derived.Test.YtabahlhaocmglaaSaC3
import Derived.Test.YtabahlhaocmglaaED
import Derived.Test.YtabahlhaocmglaaGA
set_option linter.unusedVariables false
set_option linter.unusedSimpArgs false
set_option exponentiation.threshold 2000
namespace Eng
open Go Go.Proofs
set_option linter.unusedSimpArgs false
set_option linter.unusedVariables false
-- TY: ty3, ty4, ty5, ty9, ty22, ty24, ty30, ty31, ty32, ty35, ty37, ty38, ty54, ty55, ty84, eq24, eq55
-- XN: 55=subX 58=addX

theorem dig_drop (x k : Nat) : dig (x / 4294967296 ^ k) = (dig x).drop k := by
  induction k generalizing x with
  | zero => simp
  | succ k ih =>
    by_cases hx : x = 0
    · subst hx; simp [dig_zero]
    · rw [dig_pos hx, List.drop_succ_cons, ← ih, Nat.pow_succ', Nat.div_div_eq_div_mul]
theorem dig_take {x k : Nat} (h : k ≤ (dig x).length) : (dig x).take k = low k x := eq_tab (by rw [List.length_take]; omega) fun i hi => by
  rw [← dig_getD]; simp [List.getD_eq_getElem?_getD, List.getElem?_take, hi]
theorem dig_mono {x y : Nat} (h : x ≤ y) : (dig x).length ≤ (dig y).length := by
  rw [dig_len_le]; exact Nat.lt_of_le_of_lt h ((dig_len_le y _).1 (Nat.le_refl _))

noncomputable def S61 : List AV → Option Ret := nz (sumOf (fun p : Nat => match p with | x => ((dig x).length ≤ 1000000)) (fun p : Nat => match p with | x => [.slc (dig (x)).length (ints .u64 (dig (x)))]) (fun p : Nat => match p with | x => ⟨.tup [.slc (dig (x % 4294967296 ^ 12)).length (ints .u64 (dig (x % 4294967296 ^ 12))), .slc (dig (x / 4294967296 ^ 12)).length (ints .u64 (dig (x / 4294967296 ^ 12)))], none⟩))
theorem S61_eq (x : Nat) (h0 : (dig x).length ≤ 1000000) : S61 [.slc (dig (x)).length (ints .u64 (dig (x)))] = some ⟨.tup [.slc (dig (x % 4294967296 ^ 12)).length (ints .u64 (dig (x % 4294967296 ^ 12))), .slc (dig (x / 4294967296 ^ 12)).length (ints .u64 (dig (x / 4294967296 ^ 12)))], none⟩ :=
  sumOf_eq (dom := (fun p : Nat => match p with | x => ((dig x).length ≤ 1000000))) (enc := (fun p : Nat => match p with | x => [.slc (dig (x)).length (ints .u64 (dig (x)))])) (out := (fun p : Nat => match p with | x => ⟨.tup [.slc (dig (x % 4294967296 ^ 12)).length (ints .u64 (dig (x % 4294967296 ^ 12))), .slc (dig (x / 4294967296 ^ 12)).length (ints .u64 (dig (x / 4294967296 ^ 12)))], none⟩)) x h0 (fun y _ e => by
    simp only [List.cons.injEq, AV.agg.injEq, AV.int.injEq, AV.slc.injEq, AV.iptr.injEq, AV.bool.injEq, AV.str.injEq, ints_injEq, dig_injEq,  Int.ofNat_inj, BitVec.toNat_inj, true_and, and_true] at e
    first | with_reducible rfl | simp only [e] | rfl)
theorem S61_inv {args : List AV} {r : Ret} (h : sumOf (fun p : Nat => match p with | x => ((dig x).length ≤ 1000000)) (fun p : Nat => match p with | x => [.slc (dig (x)).length (ints .u64 (dig (x)))]) (fun p : Nat => match p with | x => ⟨.tup [.slc (dig (x % 4294967296 ^ 12)).length (ints .u64 (dig (x % 4294967296 ^ 12))), .slc (dig (x / 4294967296 ^ 12)).length (ints .u64 (dig (x / 4294967296 ^ 12)))], none⟩) args = some r) : ∃ (x : Nat), (((dig x).length ≤ 1000000)) ∧ args = [.slc (dig (x)).length (ints .u64 (dig (x)))] ∧ r = ⟨.tup [.slc (dig (x % 4294967296 ^ 12)).length (ints .u64 (dig (x % 4294967296 ^ 12))), .slc (dig (x / 4294967296 ^ 12)).length (ints .u64 (dig (x / 4294967296 ^ 12)))], none⟩ := by
  obtain ⟨x, h1, h2, h3⟩ := sumOf_inv h
  exact ⟨x, h1, h2.symm, h3⟩


set_option maxRecDepth 100000 in
theorem snd61 : SndE Try.prog NoG 61 S61 := by
  refine snd_nz (snd_by [(54, S54)] [] Try.func61 (by kernel_rfl) lite61 nt61 rs61 ⟨snd54, trivial⟩ trivial (fun hT args r h => ?_))
  obtain ⟨x, hd0, rfl, rfl⟩ := S61_inv h
  clear h
  have hM := hM0
  refine ⟨Nat.le_of_ble_eq_true rfl, fun F => ?_⟩
  unfold L61
  refine Lwp.seq (Lwp.regI hT ?_)
  simp only [L61r0, go_sem, List.isEmpty_nil, isC, eq_self, reduceIte, Nat.reduceAdd, Nat.reduceMul, Nat.reduceSub, Nat.reduceLT, Nat.reduceLeDiff, Nat.reduceEqDiff, Nat.reduceDiv, Nat.reduceMod, Nat.reducePow, Nat.reduceBEq, Nat.reduceBNe, Int.reduceLT, Int.reduceLE, Int.reduceGT, Int.reduceGE, Int.reduceBEq, Int.reduceBNe, Int.reduceToNat, Int.reduceAdd, Int.reduceSub, Int.reduceMul, Int.reduceEq, Int.reduceNeg, reduceCtorEq, decide_true, decide_false, Bool.false_eq_true, ty3, ty4, ty5, ty9, ty22, ty24, ty30, ty31, ty32, ty35, ty37, ty38, ty54, ty55, ty84, eq24, eq55]
  refine Lwp.seq (Lwp.seq (Lwp.regI hT ?_))
  by_cases h12 : (dig x).length ≤ 12
  · have a1 : ((dig x).length : Int) ≤ 12 := by omega
    have hx : x < 4294967296 ^ 12 := (dig_len_le x 12).1 h12
    have e1 : x % 4294967296 ^ 12 = x := Nat.mod_eq_of_lt hx
    have e2 : x / 4294967296 ^ 12 = 0 := Nat.div_eq_of_lt hx
    simp only [L61r1, go_sem, List.isEmpty_nil, isC, eq_self, reduceIte, Nat.reduceAdd, Nat.reduceMul, Nat.reduceSub, Nat.reduceLT, Nat.reduceLeDiff, Nat.reduceEqDiff, Nat.reduceDiv, Nat.reduceMod, Nat.reducePow, Nat.reduceBEq, Nat.reduceBNe, Int.reduceLT, Int.reduceLE, Int.reduceGT, Int.reduceGE, Int.reduceBEq, Int.reduceBNe, Int.reduceToNat, Int.reduceAdd, Int.reduceSub, Int.reduceMul, Int.reduceEq, Int.reduceNeg, reduceCtorEq, decide_true, decide_false, Bool.false_eq_true, ty3, ty38, a1]
    refine Lwp.cond rfl (fun _ => ?_) (fun h => by cases h)
    refine Lwp.seq (Lwp.regI hT ?_)
    simp only [L61r2, go_sem, List.isEmpty_nil, isC, eq_self, reduceIte, Nat.reduceAdd, Nat.reduceMul, Nat.reduceSub, Nat.reduceLT, Nat.reduceLeDiff, Nat.reduceEqDiff, Nat.reduceDiv, Nat.reduceMod, Nat.reducePow, Nat.reduceBEq, Nat.reduceBNe, Int.reduceLT, Int.reduceLE, Int.reduceGT, Int.reduceGE, Int.reduceBEq, Int.reduceBNe, Int.reduceToNat, Int.reduceAdd, Int.reduceSub, Int.reduceMul, Int.reduceEq, Int.reduceNeg, reduceCtorEq, decide_true, decide_false, Bool.false_eq_true, ty3, ty4, ty5, ty9, ty22, ty24, ty30, ty31, ty32, ty35, ty37, ty38, ty54, ty55, ty84, eq24, eq55]
    refine Lwp.weaken (weak_slc (t := 3) (by simp only [go_sem, List.isEmpty_nil, isC, eq_self, reduceIte, Nat.reduceAdd, Nat.reduceMul, Nat.reduceSub, Nat.reduceLT, Nat.reduceLeDiff, Nat.reduceEqDiff, Nat.reduceDiv, Nat.reduceMod, Nat.reducePow, Nat.reduceBEq, Nat.reduceBNe, Int.reduceLT, Int.reduceLE, Int.reduceGT, Int.reduceGE, Int.reduceBEq, Int.reduceBNe, Int.reduceToNat, Int.reduceAdd, Int.reduceSub, Int.reduceMul, Int.reduceEq, Int.reduceNeg, reduceCtorEq, decide_true, decide_false, Bool.false_eq_true])) (Lwp.ret (post_val (v := .tup [.slc (dig (x)).length (ints .u64 (dig (x))), .slc 0 []]) ?_ ?_))
    · simp only [go_sem, List.isEmpty_nil, isC, eq_self, reduceIte, Nat.reduceAdd, Nat.reduceMul, Nat.reduceSub, Nat.reduceLT, Nat.reduceLeDiff, Nat.reduceEqDiff, Nat.reduceDiv, Nat.reduceMod, Nat.reducePow, Nat.reduceBEq, Nat.reduceBNe, Int.reduceLT, Int.reduceLE, Int.reduceGT, Int.reduceGE, Int.reduceBEq, Int.reduceBNe, Int.reduceToNat, Int.reduceAdd, Int.reduceSub, Int.reduceMul, Int.reduceEq, Int.reduceNeg, reduceCtorEq, decide_true, decide_false, Bool.false_eq_true]
    · rw [e1, e2, dig_zero]; simp only [go_sem, List.isEmpty_nil, isC, eq_self, reduceIte, Nat.reduceAdd, Nat.reduceMul, Nat.reduceSub, Nat.reduceLT, Nat.reduceLeDiff, Nat.reduceEqDiff, Nat.reduceDiv, Nat.reduceMod, Nat.reducePow, Nat.reduceBEq, Nat.reduceBNe, Int.reduceLT, Int.reduceLE, Int.reduceGT, Int.reduceGE, Int.reduceBEq, Int.reduceBNe, Int.reduceToNat, Int.reduceAdd, Int.reduceSub, Int.reduceMul, Int.reduceEq, Int.reduceNeg, reduceCtorEq, decide_true, decide_false, Bool.false_eq_true]
  · have a1 : ¬ ((dig x).length : Int) ≤ 12 := by omega
    have l1 : ((dig x).take 12).length = 12 := by rw [List.length_take]; omega
    have f54 : S54 [.slc 12 (ints .u64 ((dig x).take 12))] = some ⟨.slc (dig (x % 4294967296 ^ 12)).length (ints .u64 (dig (x % 4294967296 ^ 12))), none⟩ := by
      rw [dig_take (by omega)]
      have := S54_eq (low 12 x) (low_D32 12 x) (by rw [low_len]; omega)
      rw [low_len, val_low] at this; exact this
    have l2 : (dig (x / 4294967296 ^ 12)).length = (dig x).length - 12 := by rw [dig_drop, List.length_drop]
    have l3 : (dig (x / 4294967296 ^ 12)) = (dig x).drop 12 := dig_drop x 12
    have l4 : ((dig x).drop 12).take ((dig x).length - 12) = (dig x).drop 12 := List.take_of_length_le (by rw [List.length_drop]; omega)
    have l5 : ((dig x).drop 12).length = (dig x).length - 12 := by rw [List.length_drop]
    generalize dig (x / 4294967296 ^ 12) = dh at *
    generalize x % 4294967296 ^ 12 = xl at *
    subst l3
    have b1 : (12 : Int) ≤ ((dig x).length : Int) := by omega
    have b2 : 12 ≤ (dig x).length := by omega
    have b3 : ¬ (dig x).length - 12 = 0 := by omega
    have b4 : ((dig x).length - 12) * 8 ≤ 140737488355328 := by omega
    have l6 : ((dig x).take 12).take 12 = (dig x).take 12 := List.take_of_length_le (by omega)
    have b5 : ((dig x).length - 12 == 0) = false := by simp; omega
    have b6 : ((dig x).length : Int) ≤ ((dig x).length : Int) := by omega
    have b7 : (0:Int) ≤ ((dig x).length : Int) := by omega
    simp only [L61r1, go_sem, List.isEmpty_nil, isC, eq_self, reduceIte, Nat.reduceAdd, Nat.reduceMul, Nat.reduceSub, Nat.reduceLT, Nat.reduceLeDiff, Nat.reduceEqDiff, Nat.reduceDiv, Nat.reduceMod, Nat.reducePow, Nat.reduceBEq, Nat.reduceBNe, Int.reduceLT, Int.reduceLE, Int.reduceGT, Int.reduceGE, Int.reduceBEq, Int.reduceBNe, Int.reduceToNat, Int.reduceAdd, Int.reduceSub, Int.reduceMul, Int.reduceEq, Int.reduceNeg, reduceCtorEq, decide_true, decide_false, Bool.false_eq_true, ty3, ty38, a1]
    refine Lwp.cond rfl (fun h => by cases h) (fun _ => Lwp.skip ?_)
    simp only [go_sem, List.isEmpty_nil, isC, eq_self, reduceIte, Nat.reduceAdd, Nat.reduceMul, Nat.reduceSub, Nat.reduceLT, Nat.reduceLeDiff, Nat.reduceEqDiff, Nat.reduceDiv, Nat.reduceMod, Nat.reducePow, Nat.reduceBEq, Nat.reduceBNe, Int.reduceLT, Int.reduceLE, Int.reduceGT, Int.reduceGE, Int.reduceBEq, Int.reduceBNe, Int.reduceToNat, Int.reduceAdd, Int.reduceSub, Int.reduceMul, Int.reduceEq, Int.reduceNeg, reduceCtorEq, decide_true, decide_false, Bool.false_eq_true]
    generalize dig x = dx at *
    refine Lwp.seq (Lwp.regD hT hM ?_)
    simp only [L61r3, go_sem, List.isEmpty_nil, isC, eq_self, reduceIte, Nat.reduceAdd, Nat.reduceMul, Nat.reduceSub, Nat.reduceLT, Nat.reduceLeDiff, Nat.reduceEqDiff, Nat.reduceDiv, Nat.reduceMod, Nat.reducePow, Nat.reduceBEq, Nat.reduceBNe, Int.reduceLT, Int.reduceLE, Int.reduceGT, Int.reduceGE, Int.reduceBEq, Int.reduceBNe, Int.reduceToNat, Int.reduceAdd, Int.reduceSub, Int.reduceMul, Int.reduceEq, Int.reduceNeg, reduceCtorEq, decide_true, decide_false, Bool.false_eq_true, ty3, ty4, ty5, ty9, ty22, ty24, ty30, ty31, ty32, ty35, ty37, ty38, ty54, ty55, ty84, eq24, eq55, appendD, sliceA, boundA, ints_sub, List.drop_zero, l1, l4, l5, l6, b1, b2, b3, b4, b5, b6, b7, f54, Nat.le_refl]
    refine Lwp.ret (post_val (v := .tup [.slc (dig (xl)).length (ints .u64 (dig (xl))), .osl 13 0 (dx.length - 12) 1]) ?_ ?_)
    · simp only [go_sem, List.isEmpty_nil, isC, eq_self, reduceIte, Nat.reduceAdd, Nat.reduceMul, Nat.reduceSub, Nat.reduceLT, Nat.reduceLeDiff, Nat.reduceEqDiff, Nat.reduceDiv, Nat.reduceMod, Nat.reducePow, Nat.reduceBEq, Nat.reduceBNe, Int.reduceLT, Int.reduceLE, Int.reduceGT, Int.reduceGE, Int.reduceBEq, Int.reduceBNe, Int.reduceToNat, Int.reduceAdd, Int.reduceSub, Int.reduceMul, Int.reduceEq, Int.reduceNeg, reduceCtorEq, decide_true, decide_false, Bool.false_eq_true]
    · simp only [go_sem, List.isEmpty_nil, isC, eq_self, reduceIte, Nat.reduceAdd, Nat.reduceMul, Nat.reduceSub, Nat.reduceLT, Nat.reduceLeDiff, Nat.reduceEqDiff, Nat.reduceDiv, Nat.reduceMod, Nat.reducePow, Nat.reduceBEq, Nat.reduceBNe, Int.reduceLT, Int.reduceLE, Int.reduceGT, Int.reduceGE, Int.reduceBEq, Int.reduceBNe, Int.reduceToNat, Int.reduceAdd, Int.reduceSub, Int.reduceMul, Int.reduceEq, Int.reduceNeg, reduceCtorEq, decide_true, decide_false, Bool.false_eq_true, l5, Nat.le_refl]
end Eng

namespace Eng
open Go Go.Proofs
set_option linter.unusedSimpArgs false
set_option linter.unusedVariables false
-- TY: ty3, ty4, ty5, ty9, ty22, ty24, ty30, ty31, ty32, ty35, ty37, ty38, ty54, ty55, ty84, eq24, eq55
-- XN: 55=subX 58=addX

theorem top_val : top = 4294967296 ^ 12 := by decide
theorem rest_step {B m c x : Nat} (hc : c + m = B) : (x % B + x / B * c) % m = x % m := by
  have h1 : x = x % B + x / B * B := by have := Nat.mod_add_div x B; rw [Nat.mul_comm] at this; exact this.symm
  have h2 : x / B * B = x / B * c + x / B * m := by rw [← Nat.mul_add, hc]
  have h3 : x = (x % B + x / B * c) + x / B * m := by omega
  have : x % m = ((x % B + x / B * c) + x / B * m) % m := congrArg (· % m) h3
  rw [this, Nat.add_mul_mod_self_right]
theorem rest_less {B m c x : Nat} (hc : c + m = B) (hm : 0 < m) (hx : 0 < x / B) : x % B + x / B * c < x := by
  have h1 : x = x % B + x / B * B := by have := Nat.mod_add_div x B; rw [Nat.mul_comm] at this; exact this.symm
  have h2 : x / B * B = x / B * c + x / B * m := by rw [← Nat.mul_add, hc]
  have h3 : 0 < x / B * m := Nat.mul_pos hx hm
  omega

def St45 (x m c y : Nat) : AState := { nt := 36, env := [(1, .slc (dig (m)).length (ints .u64 (dig (m)))), (5, .slc (dig (c)).length (ints .u64 (dig (c)))), (6, .slc (dig (y % 4294967296 ^ 12)).length (ints .u64 (dig (y % 4294967296 ^ 12)))), (7, .slc (dig (y / 4294967296 ^ 12)).length (ints .u64 (dig (y / 4294967296 ^ 12))))], mem := [], next := 100 }
def Su45 (m y : Nat) : AState := { nt := 36, env := [(1, .slc (dig (m)).length (ints .u64 (dig (m)))), (6, .slc (dig (y)).length (ints .u64 (dig (y))))], mem := [], next := 100 }

noncomputable def S45 : List AV → Option Ret := nz (sumOf (fun p : Nat × Nat => match p with | (x, m) => ((dig x).length ≤ 400000) ∧ (0 < m) ∧ (m < 4294967296 ^ 12)) (fun p : Nat × Nat => match p with | (x, m) => [.slc (dig (x)).length (ints .u64 (dig (x))), .slc (dig (m)).length (ints .u64 (dig (m)))]) (fun p : Nat × Nat => match p with | (x, m) => ⟨.slc (dig (x % m)).length (ints .u64 (dig (x % m))), none⟩))
theorem S45_eq (x : Nat) (m : Nat) (h0 : (dig x).length ≤ 400000) (h1 : 0 < m) (h2 : m < 4294967296 ^ 12) : S45 [.slc (dig (x)).length (ints .u64 (dig (x))), .slc (dig (m)).length (ints .u64 (dig (m)))] = some ⟨.slc (dig (x % m)).length (ints .u64 (dig (x % m))), none⟩ :=
  sumOf_eq (dom := (fun p : Nat × Nat => match p with | (x, m) => ((dig x).length ≤ 400000) ∧ (0 < m) ∧ (m < 4294967296 ^ 12))) (enc := (fun p : Nat × Nat => match p with | (x, m) => [.slc (dig (x)).length (ints .u64 (dig (x))), .slc (dig (m)).length (ints .u64 (dig (m)))])) (out := (fun p : Nat × Nat => match p with | (x, m) => ⟨.slc (dig (x % m)).length (ints .u64 (dig (x % m))), none⟩)) (x, m) ⟨h0, h1, h2⟩ (fun y _ e => by
    obtain ⟨y0, y1⟩ := y
    simp only [List.cons.injEq, AV.agg.injEq, AV.int.injEq, AV.slc.injEq, AV.iptr.injEq, AV.bool.injEq, AV.str.injEq, ints_injEq, dig_injEq,  Int.ofNat_inj, BitVec.toNat_inj, true_and, and_true] at e
    first | with_reducible rfl | simp only [e] | rfl)
theorem S45_inv {args : List AV} {r : Ret} (h : sumOf (fun p : Nat × Nat => match p with | (x, m) => ((dig x).length ≤ 400000) ∧ (0 < m) ∧ (m < 4294967296 ^ 12)) (fun p : Nat × Nat => match p with | (x, m) => [.slc (dig (x)).length (ints .u64 (dig (x))), .slc (dig (m)).length (ints .u64 (dig (m)))]) (fun p : Nat × Nat => match p with | (x, m) => ⟨.slc (dig (x % m)).length (ints .u64 (dig (x % m))), none⟩) args = some r) : ∃ (x : Nat) (m : Nat), (((dig x).length ≤ 400000) ∧ (0 < m) ∧ (m < 4294967296 ^ 12)) ∧ args = [.slc (dig (x)).length (ints .u64 (dig (x))), .slc (dig (m)).length (ints .u64 (dig (m)))] ∧ r = ⟨.slc (dig (x % m)).length (ints .u64 (dig (x % m))), none⟩ := by
  obtain ⟨x, h1, h2, h3⟩ := sumOf_inv h
  obtain ⟨x, m⟩ := x
  exact ⟨x, m, h1, h2.symm, h3⟩


set_option maxRecDepth 100000 in
theorem snd45 : SndE Try.prog NoG 45 S45 := by
  refine snd_nz (snd_by [(29, S29), (30, S30), (31, S31), (32, S32), (41, S41), (61, S61)] [] Try.func45 (by kernel_rfl) lite45 nt45 rs45 ⟨snd29, snd30, snd31, snd32, snd41, snd61, trivial⟩ trivial (fun hT args r h => ?_))
  obtain ⟨x, m, ⟨hd0, hd1, hd2⟩, rfl, rfl⟩ := S45_inv h
  clear h
  have hM := hM0
  refine ⟨Nat.le_of_ble_eq_true rfl, fun F => ?_⟩
  unfold L45
  have lm : (dig m).length ≤ 12 := (dig_len_le m 12).2 hd2
  have tv := top_val
  have f31 := S31_eq
  have t13 := top_len
  have f32 : S32 [.slc 13 (ints .u64 (dig top)), .slc (dig (m)).length (ints .u64 (dig (m)))] = some ⟨.slc (dig (top - m)).length (ints .u64 (dig (top - m))), none⟩ := by
    have := S32_eq top m (by omega) (by omega) (by omega); rw [t13] at this; exact this
  have f61 := S61_eq x (by omega)
  have hc : (top - m) + m = 4294967296 ^ 12 := by omega
  have lc : (dig (top - m)).length ≤ 12 := (dig_len_le _ 12).2 (by omega)
  generalize top - m = c at *
  refine Lwp.seq (Lwp.regI hT ?_)
  simp only [L45r0, go_sem, List.isEmpty_nil, isC, eq_self, reduceIte, Nat.reduceAdd, Nat.reduceMul, Nat.reduceSub, Nat.reduceLT, Nat.reduceLeDiff, Nat.reduceEqDiff, Nat.reduceDiv, Nat.reduceMod, Nat.reducePow, Nat.reduceBEq, Nat.reduceBNe, Int.reduceLT, Int.reduceLE, Int.reduceGT, Int.reduceGE, Int.reduceBEq, Int.reduceBNe, Int.reduceToNat, Int.reduceAdd, Int.reduceSub, Int.reduceMul, Int.reduceEq, Int.reduceNeg, reduceCtorEq, decide_true, decide_false, Bool.false_eq_true, ty3, ty4, ty5, ty9, ty22, ty24, ty30, ty31, ty32, ty35, ty37, ty38, ty54, ty55, ty84, eq24, eq55]
  refine Lwp.seq (Lwp.regI hT ?_)
  simp only [L45r1, go_sem, List.isEmpty_nil, isC, eq_self, reduceIte, Nat.reduceAdd, Nat.reduceMul, Nat.reduceSub, Nat.reduceLT, Nat.reduceLeDiff, Nat.reduceEqDiff, Nat.reduceDiv, Nat.reduceMod, Nat.reducePow, Nat.reduceBEq, Nat.reduceBNe, Int.reduceLT, Int.reduceLE, Int.reduceGT, Int.reduceGE, Int.reduceBEq, Int.reduceBNe, Int.reduceToNat, Int.reduceAdd, Int.reduceSub, Int.reduceMul, Int.reduceEq, Int.reduceNeg, reduceCtorEq, decide_true, decide_false, Bool.false_eq_true, ty3, ty4, ty5, ty9, ty22, ty24, ty30, ty31, ty32, ty35, ty37, ty38, ty54, ty55, ty84, eq24, eq55, f31, f32, t13, Nat.le_refl]
  refine Lwp.seq (Lwp.regI hT ?_)
  simp only [L45r2, go_sem, List.isEmpty_nil, isC, eq_self, reduceIte, Nat.reduceAdd, Nat.reduceMul, Nat.reduceSub, Nat.reduceLT, Nat.reduceLeDiff, Nat.reduceEqDiff, Nat.reduceDiv, Nat.reduceMod, Nat.reducePow, Nat.reduceBEq, Nat.reduceBNe, Int.reduceLT, Int.reduceLE, Int.reduceGT, Int.reduceGE, Int.reduceBEq, Int.reduceBNe, Int.reduceToNat, Int.reduceAdd, Int.reduceSub, Int.reduceMul, Int.reduceEq, Int.reduceNeg, reduceCtorEq, decide_true, decide_false, Bool.false_eq_true, ty3, ty4, ty5, ty9, ty22, ty24, ty30, ty31, ty32, ty35, ty37, ty38, ty54, ty55, ty84, eq24, eq55, f61]
  refine Lwp.seq (Lwp.block (Lwp.whl (St45 x m c) (fun y => y % m = x % m ∧ (dig y).length ≤ 400000) (fun y => y) x ⟨rfl, hd0⟩ ?_ ?_))
  · refine weak_of rfl ?_ ?_ ?_
    · (simp only [go_sem, List.isEmpty_nil, isC, eq_self, reduceIte, Nat.reduceAdd, Nat.reduceMul, Nat.reduceSub, Nat.reduceLT, Nat.reduceLeDiff, Nat.reduceEqDiff, Nat.reduceDiv, Nat.reduceMod, Nat.reducePow, Nat.reduceBEq, Nat.reduceBNe, Int.reduceLT, Int.reduceLE, Int.reduceGT, Int.reduceGE, Int.reduceBEq, Int.reduceBNe, Int.reduceToNat, Int.reduceAdd, Int.reduceSub, Int.reduceMul, Int.reduceEq, Int.reduceNeg, reduceCtorEq, decide_true, decide_false, Bool.false_eq_true, St45]; try rfl)
    · (simp only [go_sem, List.isEmpty_nil, isC, eq_self, reduceIte, Nat.reduceAdd, Nat.reduceMul, Nat.reduceSub, Nat.reduceLT, Nat.reduceLeDiff, Nat.reduceEqDiff, Nat.reduceDiv, Nat.reduceMod, Nat.reducePow, Nat.reduceBEq, Nat.reduceBNe, Int.reduceLT, Int.reduceLE, Int.reduceGT, Int.reduceGE, Int.reduceBEq, Int.reduceBNe, Int.reduceToNat, Int.reduceAdd, Int.reduceSub, Int.reduceMul, Int.reduceEq, Int.reduceNeg, reduceCtorEq, decide_true, decide_false, Bool.false_eq_true, St45]; try rfl)
    · (simp only [go_sem, List.isEmpty_nil, isC, eq_self, reduceIte, Nat.reduceAdd, Nat.reduceMul, Nat.reduceSub, Nat.reduceLT, Nat.reduceLeDiff, Nat.reduceEqDiff, Nat.reduceDiv, Nat.reduceMod, Nat.reducePow, Nat.reduceBEq, Nat.reduceBNe, Int.reduceLT, Int.reduceLE, Int.reduceGT, Int.reduceGE, Int.reduceBEq, Int.reduceBNe, Int.reduceToNat, Int.reduceAdd, Int.reduceSub, Int.reduceMul, Int.reduceEq, Int.reduceNeg, reduceCtorEq, decide_true, decide_false, Bool.false_eq_true, St45]; try rfl)
  · rintro y ⟨hy, hl⟩
    unfold St45
    refine Lwp.seq (Lwp.seq (Lwp.region hT ?_))
    by_cases h0 : y / 4294967296 ^ 12 = 0
    · have e : (dig 0).length = 0 := by rw [dig_zero]; rfl
      simp only [h0, L45r3, go_sem, List.isEmpty_nil, isC, eq_self, reduceIte, Nat.reduceAdd, Nat.reduceMul, Nat.reduceSub, Nat.reduceLT, Nat.reduceLeDiff, Nat.reduceEqDiff, Nat.reduceDiv, Nat.reduceMod, Nat.reducePow, Nat.reduceBEq, Nat.reduceBNe, Int.reduceLT, Int.reduceLE, Int.reduceGT, Int.reduceGE, Int.reduceBEq, Int.reduceBNe, Int.reduceToNat, Int.reduceAdd, Int.reduceSub, Int.reduceMul, Int.reduceEq, Int.reduceNeg, reduceCtorEq, decide_true, decide_false, Bool.false_eq_true, ty3, ty22, ty38, e, Int.natCast_zero]
      refine Lwp.cond rfl (fun h => by cases h) (fun _ => Lwp.exit ?_)
      simp only [go_sem, List.isEmpty_nil, isC, eq_self, reduceIte, Nat.reduceAdd, Nat.reduceMul, Nat.reduceSub, Nat.reduceLT, Nat.reduceLeDiff, Nat.reduceEqDiff, Nat.reduceDiv, Nat.reduceMod, Nat.reducePow, Nat.reduceBEq, Nat.reduceBNe, Int.reduceLT, Int.reduceLE, Int.reduceGT, Int.reduceGE, Int.reduceBEq, Int.reduceBNe, Int.reduceToNat, Int.reduceAdd, Int.reduceSub, Int.reduceMul, Int.reduceEq, Int.reduceNeg, reduceCtorEq, decide_true, decide_false, Bool.false_eq_true]
      have hyB : y < 4294967296 ^ 12 := by
        rcases Nat.div_eq_zero_iff.1 h0 with h | h
        · exact absurd h (by decide)
        · exact h
      have e1 : y % 4294967296 ^ 12 = y := Nat.mod_eq_of_lt hyB
      rw [e1]
      refine Lwp.seq (Lwp.block (Lwp.whl (Su45 m) (fun z => z % m = x % m ∧ z < 4294967296 ^ 12) (fun z => z) y ⟨hy, hyB⟩ ?_ ?_))
      · refine weak_of rfl ?_ ?_ ?_
        · (simp only [go_sem, List.isEmpty_nil, isC, eq_self, reduceIte, Nat.reduceAdd, Nat.reduceMul, Nat.reduceSub, Nat.reduceLT, Nat.reduceLeDiff, Nat.reduceEqDiff, Nat.reduceDiv, Nat.reduceMod, Nat.reducePow, Nat.reduceBEq, Nat.reduceBNe, Int.reduceLT, Int.reduceLE, Int.reduceGT, Int.reduceGE, Int.reduceBEq, Int.reduceBNe, Int.reduceToNat, Int.reduceAdd, Int.reduceSub, Int.reduceMul, Int.reduceEq, Int.reduceNeg, reduceCtorEq, decide_true, decide_false, Bool.false_eq_true, Su45]; try rfl)
        · (simp only [go_sem, List.isEmpty_nil, isC, eq_self, reduceIte, Nat.reduceAdd, Nat.reduceMul, Nat.reduceSub, Nat.reduceLT, Nat.reduceLeDiff, Nat.reduceEqDiff, Nat.reduceDiv, Nat.reduceMod, Nat.reducePow, Nat.reduceBEq, Nat.reduceBNe, Int.reduceLT, Int.reduceLE, Int.reduceGT, Int.reduceGE, Int.reduceBEq, Int.reduceBNe, Int.reduceToNat, Int.reduceAdd, Int.reduceSub, Int.reduceMul, Int.reduceEq, Int.reduceNeg, reduceCtorEq, decide_true, decide_false, Bool.false_eq_true, Su45]; try rfl)
        · (simp only [go_sem, List.isEmpty_nil, isC, eq_self, reduceIte, Nat.reduceAdd, Nat.reduceMul, Nat.reduceSub, Nat.reduceLT, Nat.reduceLeDiff, Nat.reduceEqDiff, Nat.reduceDiv, Nat.reduceMod, Nat.reducePow, Nat.reduceBEq, Nat.reduceBNe, Int.reduceLT, Int.reduceLE, Int.reduceGT, Int.reduceGE, Int.reduceBEq, Int.reduceBNe, Int.reduceToNat, Int.reduceAdd, Int.reduceSub, Int.reduceMul, Int.reduceEq, Int.reduceNeg, reduceCtorEq, decide_true, decide_false, Bool.false_eq_true, Su45]; try rfl)
      · rintro z ⟨hz, hzB⟩
        unfold Su45
        have lz : (dig z).length ≤ 12 := (dig_len_le z 12).2 hzB
        have f29 := S29_eq z m (by omega) (by omega)
        refine Lwp.seq (Lwp.seq (Lwp.regI hT ?_))
        by_cases hzm : z < m
        · rw [if_pos hzm] at f29
          simp only [L45r5, go_sem, List.isEmpty_nil, isC, eq_self, reduceIte, Nat.reduceAdd, Nat.reduceMul, Nat.reduceSub, Nat.reduceLT, Nat.reduceLeDiff, Nat.reduceEqDiff, Nat.reduceDiv, Nat.reduceMod, Nat.reducePow, Nat.reduceBEq, Nat.reduceBNe, Int.reduceLT, Int.reduceLE, Int.reduceGT, Int.reduceGE, Int.reduceBEq, Int.reduceBNe, Int.reduceToNat, Int.reduceAdd, Int.reduceSub, Int.reduceMul, Int.reduceEq, Int.reduceNeg, reduceCtorEq, decide_true, decide_false, Bool.false_eq_true, ty3, ty22, ty38, f29]
          refine Lwp.cond rfl (fun h => by cases h) (fun _ => Lwp.exit ?_)
          simp only [go_sem, List.isEmpty_nil, isC, eq_self, reduceIte, Nat.reduceAdd, Nat.reduceMul, Nat.reduceSub, Nat.reduceLT, Nat.reduceLeDiff, Nat.reduceEqDiff, Nat.reduceDiv, Nat.reduceMod, Nat.reducePow, Nat.reduceBEq, Nat.reduceBNe, Int.reduceLT, Int.reduceLE, Int.reduceGT, Int.reduceGE, Int.reduceBEq, Int.reduceBNe, Int.reduceToNat, Int.reduceAdd, Int.reduceSub, Int.reduceMul, Int.reduceEq, Int.reduceNeg, reduceCtorEq, decide_true, decide_false, Bool.false_eq_true]
          rw [Nat.mod_eq_of_lt hzm] at hz
          refine Lwp.seq (Lwp.regI hT ?_)
          simp only [L45r7, go_sem, List.isEmpty_nil, isC, eq_self, reduceIte, Nat.reduceAdd, Nat.reduceMul, Nat.reduceSub, Nat.reduceLT, Nat.reduceLeDiff, Nat.reduceEqDiff, Nat.reduceDiv, Nat.reduceMod, Nat.reducePow, Nat.reduceBEq, Nat.reduceBNe, Int.reduceLT, Int.reduceLE, Int.reduceGT, Int.reduceGE, Int.reduceBEq, Int.reduceBNe, Int.reduceToNat, Int.reduceAdd, Int.reduceSub, Int.reduceMul, Int.reduceEq, Int.reduceNeg, reduceCtorEq, decide_true, decide_false, Bool.false_eq_true, ty3, ty4, ty5, ty9, ty22, ty24, ty30, ty31, ty32, ty35, ty37, ty38, ty54, ty55, ty84, eq24, eq55]
          refine Lwp.ret (post_val (v := .slc (dig (z)).length (ints .u64 (dig (z)))) ?_ ?_)
          · simp only [go_sem, List.isEmpty_nil, isC, eq_self, reduceIte, Nat.reduceAdd, Nat.reduceMul, Nat.reduceSub, Nat.reduceLT, Nat.reduceLeDiff, Nat.reduceEqDiff, Nat.reduceDiv, Nat.reduceMod, Nat.reducePow, Nat.reduceBEq, Nat.reduceBNe, Int.reduceLT, Int.reduceLE, Int.reduceGT, Int.reduceGE, Int.reduceBEq, Int.reduceBNe, Int.reduceToNat, Int.reduceAdd, Int.reduceSub, Int.reduceMul, Int.reduceEq, Int.reduceNeg, reduceCtorEq, decide_true, decide_false, Bool.false_eq_true]
          · rw [hz]; simp only [go_sem, List.isEmpty_nil, isC, eq_self, reduceIte, Nat.reduceAdd, Nat.reduceMul, Nat.reduceSub, Nat.reduceLT, Nat.reduceLeDiff, Nat.reduceEqDiff, Nat.reduceDiv, Nat.reduceMod, Nat.reducePow, Nat.reduceBEq, Nat.reduceBNe, Int.reduceLT, Int.reduceLE, Int.reduceGT, Int.reduceGE, Int.reduceBEq, Int.reduceBNe, Int.reduceToNat, Int.reduceAdd, Int.reduceSub, Int.reduceMul, Int.reduceEq, Int.reduceNeg, reduceCtorEq, decide_true, decide_false, Bool.false_eq_true]
        · have f32' := S32_eq z m (by omega) (by omega) (by omega)
          have fc : S29 [.slc (dig (z)).length (ints .u64 (dig (z))), .slc (dig (m)).length (ints .u64 (dig (m)))] = some ⟨.int .i64 (if m < z then 1 else 0), none⟩ := by rw [f29, if_neg hzm]
          have g1 : (if m < z then (1 : Int) else 0) ≥ 0 := by split <;> decide
          generalize (if m < z then (1 : Int) else 0) = g at *
          simp only [L45r5, go_sem, List.isEmpty_nil, isC, eq_self, reduceIte, Nat.reduceAdd, Nat.reduceMul, Nat.reduceSub, Nat.reduceLT, Nat.reduceLeDiff, Nat.reduceEqDiff, Nat.reduceDiv, Nat.reduceMod, Nat.reducePow, Nat.reduceBEq, Nat.reduceBNe, Int.reduceLT, Int.reduceLE, Int.reduceGT, Int.reduceGE, Int.reduceBEq, Int.reduceBNe, Int.reduceToNat, Int.reduceAdd, Int.reduceSub, Int.reduceMul, Int.reduceEq, Int.reduceNeg, reduceCtorEq, decide_true, decide_false, Bool.false_eq_true, ty3, ty22, ty38, fc, g1]
          refine Lwp.cond rfl (fun _ => Lwp.skip ?_) (fun h => by cases h)
          simp only [go_sem, List.isEmpty_nil, isC, eq_self, reduceIte, Nat.reduceAdd, Nat.reduceMul, Nat.reduceSub, Nat.reduceLT, Nat.reduceLeDiff, Nat.reduceEqDiff, Nat.reduceDiv, Nat.reduceMod, Nat.reducePow, Nat.reduceBEq, Nat.reduceBNe, Int.reduceLT, Int.reduceLE, Int.reduceGT, Int.reduceGE, Int.reduceBEq, Int.reduceBNe, Int.reduceToNat, Int.reduceAdd, Int.reduceSub, Int.reduceMul, Int.reduceEq, Int.reduceNeg, reduceCtorEq, decide_true, decide_false, Bool.false_eq_true]
          refine Lwp.block ?_
          refine Lwp.regI hT ?_
          simp only [L45r6, go_sem, List.isEmpty_nil, isC, eq_self, reduceIte, Nat.reduceAdd, Nat.reduceMul, Nat.reduceSub, Nat.reduceLT, Nat.reduceLeDiff, Nat.reduceEqDiff, Nat.reduceDiv, Nat.reduceMod, Nat.reducePow, Nat.reduceBEq, Nat.reduceBNe, Int.reduceLT, Int.reduceLE, Int.reduceGT, Int.reduceGE, Int.reduceBEq, Int.reduceBNe, Int.reduceToNat, Int.reduceAdd, Int.reduceSub, Int.reduceMul, Int.reduceEq, Int.reduceNeg, reduceCtorEq, decide_true, decide_false, Bool.false_eq_true, ty3, ty4, ty5, ty9, ty22, ty24, ty30, ty31, ty32, ty35, ty37, ty38, ty54, ty55, ty84, eq24, eq55, f32']
          refine ⟨z - m, ⟨?_, by omega⟩, by omega, ?_⟩
          · rw [← hz]; exact (Nat.mod_eq_sub_mod (by omega)).symm
          · refine weak_of rfl ?_ ?_ ?_
            · (simp only [go_sem, List.isEmpty_nil, isC, eq_self, reduceIte, Nat.reduceAdd, Nat.reduceMul, Nat.reduceSub, Nat.reduceLT, Nat.reduceLeDiff, Nat.reduceEqDiff, Nat.reduceDiv, Nat.reduceMod, Nat.reducePow, Nat.reduceBEq, Nat.reduceBNe, Int.reduceLT, Int.reduceLE, Int.reduceGT, Int.reduceGE, Int.reduceBEq, Int.reduceBNe, Int.reduceToNat, Int.reduceAdd, Int.reduceSub, Int.reduceMul, Int.reduceEq, Int.reduceNeg, reduceCtorEq, decide_true, decide_false, Bool.false_eq_true, Su45]; try rfl)
            · (simp only [go_sem, List.isEmpty_nil, isC, eq_self, reduceIte, Nat.reduceAdd, Nat.reduceMul, Nat.reduceSub, Nat.reduceLT, Nat.reduceLeDiff, Nat.reduceEqDiff, Nat.reduceDiv, Nat.reduceMod, Nat.reducePow, Nat.reduceBEq, Nat.reduceBNe, Int.reduceLT, Int.reduceLE, Int.reduceGT, Int.reduceGE, Int.reduceBEq, Int.reduceBNe, Int.reduceToNat, Int.reduceAdd, Int.reduceSub, Int.reduceMul, Int.reduceEq, Int.reduceNeg, reduceCtorEq, decide_true, decide_false, Bool.false_eq_true, Su45]; try rfl)
            · (simp only [go_sem, List.isEmpty_nil, isC, eq_self, reduceIte, Nat.reduceAdd, Nat.reduceMul, Nat.reduceSub, Nat.reduceLT, Nat.reduceLeDiff, Nat.reduceEqDiff, Nat.reduceDiv, Nat.reduceMod, Nat.reducePow, Nat.reduceBEq, Nat.reduceBNe, Int.reduceLT, Int.reduceLE, Int.reduceGT, Int.reduceGE, Int.reduceBEq, Int.reduceBNe, Int.reduceToNat, Int.reduceAdd, Int.reduceSub, Int.reduceMul, Int.reduceEq, Int.reduceNeg, reduceCtorEq, decide_true, decide_false, Bool.false_eq_true, Su45]; try rfl)
    · have hp : 0 < y / 4294967296 ^ 12 := Nat.pos_of_ne_zero h0
      have e1 : ((dig (y / 4294967296 ^ 12)).length : Int) > 0 := by
        have : ¬ (dig (y / 4294967296 ^ 12)).length ≤ 0 := by rw [dig_len_le]; simp; omega
        omega
      have hle := rest_less (x := y) hc hd1 hp
      have hmod := rest_step (x := y) hc
      have l1 : (dig (y / 4294967296 ^ 12)).length ≤ 400000 := Nat.le_trans (dig_mono (Nat.div_le_self _ _)) hl
      have f41 := S41_eq (y / 4294967296 ^ 12) c (by omega) (by omega)
      have hmul : y / 4294967296 ^ 12 * c ≤ y := by omega
      have l2 : (dig (y % 4294967296 ^ 12)).length ≤ 400000 := Nat.le_trans (dig_mono (Nat.mod_le _ _)) hl
      have l3 : (dig (y / 4294967296 ^ 12 * c)).length ≤ 400000 := Nat.le_trans (dig_mono hmul) hl
      have f30 := S30_eq (y % 4294967296 ^ 12) (y / 4294967296 ^ 12 * c) (by omega) (by omega)
      have l4 : (dig (y % 4294967296 ^ 12 + y / 4294967296 ^ 12 * c)).length ≤ 400000 := Nat.le_trans (dig_mono (Nat.le_of_lt hle)) hl
      have f61' := S61_eq (y % 4294967296 ^ 12 + y / 4294967296 ^ 12 * c) (by omega)
      simp only [L45r3, go_sem, List.isEmpty_nil, isC, eq_self, reduceIte, Nat.reduceAdd, Nat.reduceMul, Nat.reduceSub, Nat.reduceLT, Nat.reduceLeDiff, Nat.reduceEqDiff, Nat.reduceDiv, Nat.reduceMod, Nat.reducePow, Nat.reduceBEq, Nat.reduceBNe, Int.reduceLT, Int.reduceLE, Int.reduceGT, Int.reduceGE, Int.reduceBEq, Int.reduceBNe, Int.reduceToNat, Int.reduceAdd, Int.reduceSub, Int.reduceMul, Int.reduceEq, Int.reduceNeg, reduceCtorEq, decide_true, decide_false, Bool.false_eq_true, ty3, ty22, ty38, e1]
      refine Lwp.cond rfl (fun _ => Lwp.skip ?_) (fun h => by cases h)
      simp only [go_sem, List.isEmpty_nil, isC, eq_self, reduceIte, Nat.reduceAdd, Nat.reduceMul, Nat.reduceSub, Nat.reduceLT, Nat.reduceLeDiff, Nat.reduceEqDiff, Nat.reduceDiv, Nat.reduceMod, Nat.reducePow, Nat.reduceBEq, Nat.reduceBNe, Int.reduceLT, Int.reduceLE, Int.reduceGT, Int.reduceGE, Int.reduceBEq, Int.reduceBNe, Int.reduceToNat, Int.reduceAdd, Int.reduceSub, Int.reduceMul, Int.reduceEq, Int.reduceNeg, reduceCtorEq, decide_true, decide_false, Bool.false_eq_true]
      refine Lwp.block ?_
      refine Lwp.regI hT ?_
      simp only [L45r4, go_sem, List.isEmpty_nil, isC, eq_self, reduceIte, Nat.reduceAdd, Nat.reduceMul, Nat.reduceSub, Nat.reduceLT, Nat.reduceLeDiff, Nat.reduceEqDiff, Nat.reduceDiv, Nat.reduceMod, Nat.reducePow, Nat.reduceBEq, Nat.reduceBNe, Int.reduceLT, Int.reduceLE, Int.reduceGT, Int.reduceGE, Int.reduceBEq, Int.reduceBNe, Int.reduceToNat, Int.reduceAdd, Int.reduceSub, Int.reduceMul, Int.reduceEq, Int.reduceNeg, reduceCtorEq, decide_true, decide_false, Bool.false_eq_true, ty3, ty4, ty5, ty9, ty22, ty24, ty30, ty31, ty32, ty35, ty37, ty38, ty54, ty55, ty84, eq24, eq55, f41, f30, f61']
      refine ⟨y % 4294967296 ^ 12 + y / 4294967296 ^ 12 * c, ⟨by rw [hmod]; exact hy, l4⟩, hle, ?_⟩
      refine weak_of rfl ?_ ?_ ?_
      · (simp only [go_sem, List.isEmpty_nil, isC, eq_self, reduceIte, Nat.reduceAdd, Nat.reduceMul, Nat.reduceSub, Nat.reduceLT, Nat.reduceLeDiff, Nat.reduceEqDiff, Nat.reduceDiv, Nat.reduceMod, Nat.reducePow, Nat.reduceBEq, Nat.reduceBNe, Int.reduceLT, Int.reduceLE, Int.reduceGT, Int.reduceGE, Int.reduceBEq, Int.reduceBNe, Int.reduceToNat, Int.reduceAdd, Int.reduceSub, Int.reduceMul, Int.reduceEq, Int.reduceNeg, reduceCtorEq, decide_true, decide_false, Bool.false_eq_true, St45]; try rfl)
      · (simp only [go_sem, List.isEmpty_nil, isC, eq_self, reduceIte, Nat.reduceAdd, Nat.reduceMul, Nat.reduceSub, Nat.reduceLT, Nat.reduceLeDiff, Nat.reduceEqDiff, Nat.reduceDiv, Nat.reduceMod, Nat.reducePow, Nat.reduceBEq, Nat.reduceBNe, Int.reduceLT, Int.reduceLE, Int.reduceGT, Int.reduceGE, Int.reduceBEq, Int.reduceBNe, Int.reduceToNat, Int.reduceAdd, Int.reduceSub, Int.reduceMul, Int.reduceEq, Int.reduceNeg, reduceCtorEq, decide_true, decide_false, Bool.false_eq_true, St45]; try rfl)
      · (simp only [go_sem, List.isEmpty_nil, isC, eq_self, reduceIte, Nat.reduceAdd, Nat.reduceMul, Nat.reduceSub, Nat.reduceLT, Nat.reduceLeDiff, Nat.reduceEqDiff, Nat.reduceDiv, Nat.reduceMod, Nat.reducePow, Nat.reduceBEq, Nat.reduceBNe, Int.reduceLT, Int.reduceLE, Int.reduceGT, Int.reduceGE, Int.reduceBEq, Int.reduceBNe, Int.reduceToNat, Int.reduceAdd, Int.reduceSub, Int.reduceMul, Int.reduceEq, Int.reduceNeg, reduceCtorEq, decide_true, decide_false, Bool.false_eq_true, St45]; try rfl)
end Eng

namespace Eng
open Go Go.Proofs
set_option linter.unusedSimpArgs false
set_option linter.unusedVariables false
-- TY: ty3, ty4, ty5, ty9, ty22, ty24, ty30, ty31, ty32, ty35, ty37, ty38, ty54, ty55, ty84, eq24, eq55
-- XN: 55=subX 58=addX

theorem nat_tmod2 (n : Nat) : (n : Int).tmod 2 = ((n % 2 : Nat) : Int) := by rw [Int.tmod_eq_emod_of_nonneg (by omega)]; omega
theorem bit_digit (x i : Nat) : x / 4294967296 ^ (i / 32) % 4294967296 / 2 ^ (i % 32) % 2 = x / 2 ^ i % 2 := by
  have h1 : i = 32 * (i / 32) + i % 32 := (Nat.div_add_mod i 32).symm
  have h2 : 2 ^ i = 4294967296 ^ (i / 32) * 2 ^ (i % 32) := by
    conv => lhs; rw [h1, Nat.pow_add, Nat.pow_mul]
  have h3 : i % 32 < 32 := Nat.mod_lt _ (by decide)
  rw [h2, ← Nat.div_div_eq_div_mul]
  generalize x / 4294967296 ^ (i / 32) = q
  generalize i % 32 = s at *
  have h4 : (4294967296 : Nat) = 2 ^ s * 2 ^ (32 - s) := by rw [← Nat.pow_add]; rw [show s + (32 - s) = 32 by omega]; 
  rw [h4, Nat.mod_mul_right_div_self]
  have h5 : (2 : Nat) ^ (32 - s) = 2 * 2 ^ (31 - s) := by rw [← Nat.pow_succ']; congr 1; omega
  rw [h5, Nat.mod_mul_right_mod]

noncomputable def S65 : List AV → Option Ret := nz (sumOf (fun p : Nat × Nat => match p with | (x, i) => ((dig x).length ≤ 1000000) ∧ (i ≤ 100000000)) (fun p : Nat × Nat => match p with | (x, i) => [.slc (dig (x)).length (ints .u64 (dig (x))), .int .i64 i]) (fun p : Nat × Nat => match p with | (x, i) => ⟨.bool (decide (x / 2 ^ i % 2 = 1)), none⟩))
theorem S65_eq (x : Nat) (i : Nat) (h0 : (dig x).length ≤ 1000000) (h1 : i ≤ 100000000) : S65 [.slc (dig (x)).length (ints .u64 (dig (x))), .int .i64 i] = some ⟨.bool (decide (x / 2 ^ i % 2 = 1)), none⟩ :=
  sumOf_eq (dom := (fun p : Nat × Nat => match p with | (x, i) => ((dig x).length ≤ 1000000) ∧ (i ≤ 100000000))) (enc := (fun p : Nat × Nat => match p with | (x, i) => [.slc (dig (x)).length (ints .u64 (dig (x))), .int .i64 i])) (out := (fun p : Nat × Nat => match p with | (x, i) => ⟨.bool (decide (x / 2 ^ i % 2 = 1)), none⟩)) (x, i) ⟨h0, h1⟩ (fun y _ e => by
    obtain ⟨y0, y1⟩ := y
    simp only [List.cons.injEq, AV.agg.injEq, AV.int.injEq, AV.slc.injEq, AV.iptr.injEq, AV.bool.injEq, AV.str.injEq, ints_injEq, dig_injEq,  Int.ofNat_inj, BitVec.toNat_inj, true_and, and_true] at e
    first | with_reducible rfl | simp only [e] | rfl)
theorem S65_inv {args : List AV} {r : Ret} (h : sumOf (fun p : Nat × Nat => match p with | (x, i) => ((dig x).length ≤ 1000000) ∧ (i ≤ 100000000)) (fun p : Nat × Nat => match p with | (x, i) => [.slc (dig (x)).length (ints .u64 (dig (x))), .int .i64 i]) (fun p : Nat × Nat => match p with | (x, i) => ⟨.bool (decide (x / 2 ^ i % 2 = 1)), none⟩) args = some r) : ∃ (x : Nat) (i : Nat), (((dig x).length ≤ 1000000) ∧ (i ≤ 100000000)) ∧ args = [.slc (dig (x)).length (ints .u64 (dig (x))), .int .i64 i] ∧ r = ⟨.bool (decide (x / 2 ^ i % 2 = 1)), none⟩ := by
  obtain ⟨x, h1, h2, h3⟩ := sumOf_inv h
  obtain ⟨x, i⟩ := x
  exact ⟨x, i, h1, h2.symm, h3⟩


set_option maxRecDepth 100000 in
theorem snd65 : SndE Try.prog NoG 65 S65 := by
  refine snd_nz (snd_by [] [] Try.func65 (by kernel_rfl) lite65 nt65 rs65 trivial trivial (fun hT args r h => ?_))
  obtain ⟨x, i, ⟨hd0, hd1⟩, rfl, rfl⟩ := S65_inv h
  clear h
  have hM := hM0
  refine ⟨Nat.le_of_ble_eq_true rfl, fun F => ?_⟩
  unfold L65
  have c1 : ¬ (i : Int) < 0 := by omega
  have c2 : (i : Int).tdiv 32 = ((i / 32 : Nat) : Int) := by rw [Int.tdiv_eq_ediv_of_nonneg (by omega)]; omega
  have c3 : IntKind.i64.wrap ((i / 32 : Nat) : Int) = ((i / 32 : Nat) : Int) := wrap_i64 (by omega) (by omega)
  have c4 : (i : Int).tmod 32 = ((i % 32 : Nat) : Int) := by rw [Int.tmod_eq_emod_of_nonneg (by omega)]; omega
  have c5 : IntKind.i64.wrap ((i % 32 : Nat) : Int) = ((i % 32 : Nat) : Int) := wrap_i64 (by omega) (by omega)
  have key := bit_digit x i
  have g := dig_getD x (i / 32)
  refine Lwp.seq (Lwp.regI hT ?_)
  simp only [L65r0, go_sem, List.isEmpty_nil, isC, eq_self, reduceIte, Nat.reduceAdd, Nat.reduceMul, Nat.reduceSub, Nat.reduceLT, Nat.reduceLeDiff, Nat.reduceEqDiff, Nat.reduceDiv, Nat.reduceMod, Nat.reducePow, Nat.reduceBEq, Nat.reduceBNe, Int.reduceLT, Int.reduceLE, Int.reduceGT, Int.reduceGE, Int.reduceBEq, Int.reduceBNe, Int.reduceToNat, Int.reduceAdd, Int.reduceSub, Int.reduceMul, Int.reduceEq, Int.reduceNeg, reduceCtorEq, decide_true, decide_false, Bool.false_eq_true, ty3, ty4, ty5, ty9, ty22, ty24, ty30, ty31, ty32, ty35, ty37, ty38, ty54, ty55, ty84, eq24, eq55]
  refine Lwp.seq (Lwp.seq (Lwp.regI hT ?_))
  by_cases hl : (dig x).length ≤ i / 32
  · have a1 : ((i / 32 : Nat) : Int) ≥ ((dig x).length : Int) := by omega
    simp only [L65r1, go_sem, List.isEmpty_nil, isC, eq_self, reduceIte, Nat.reduceAdd, Nat.reduceMul, Nat.reduceSub, Nat.reduceLT, Nat.reduceLeDiff, Nat.reduceEqDiff, Nat.reduceDiv, Nat.reduceMod, Nat.reducePow, Nat.reduceBEq, Nat.reduceBNe, Int.reduceLT, Int.reduceLE, Int.reduceGT, Int.reduceGE, Int.reduceBEq, Int.reduceBNe, Int.reduceToNat, Int.reduceAdd, Int.reduceSub, Int.reduceMul, Int.reduceEq, Int.reduceNeg, reduceCtorEq, decide_true, decide_false, Bool.false_eq_true, ty3, ty38, c1, c2, c3, a1]
    refine Lwp.cond rfl (fun _ => ?_) (fun h => by cases h)
    refine Lwp.seq (Lwp.regI hT ?_)
    simp only [L65r2, go_sem, List.isEmpty_nil, isC, eq_self, reduceIte, Nat.reduceAdd, Nat.reduceMul, Nat.reduceSub, Nat.reduceLT, Nat.reduceLeDiff, Nat.reduceEqDiff, Nat.reduceDiv, Nat.reduceMod, Nat.reducePow, Nat.reduceBEq, Nat.reduceBNe, Int.reduceLT, Int.reduceLE, Int.reduceGT, Int.reduceGE, Int.reduceBEq, Int.reduceBNe, Int.reduceToNat, Int.reduceAdd, Int.reduceSub, Int.reduceMul, Int.reduceEq, Int.reduceNeg, reduceCtorEq, decide_true, decide_false, Bool.false_eq_true, ty3, ty4, ty5, ty9, ty22, ty24, ty30, ty31, ty32, ty35, ty37, ty38, ty54, ty55, ty84, eq24, eq55]
    have hx : x < 4294967296 ^ (i / 32) := (dig_len_le x _).1 hl
    have e0 : decide (x / 2 ^ i % 2 = 1) = false := by
      rw [← key, Nat.div_eq_of_lt hx]; simp
    refine Lwp.ret (post_val (v := .bool false) ?_ ?_)
    · simp only [go_sem, List.isEmpty_nil, isC, eq_self, reduceIte, Nat.reduceAdd, Nat.reduceMul, Nat.reduceSub, Nat.reduceLT, Nat.reduceLeDiff, Nat.reduceEqDiff, Nat.reduceDiv, Nat.reduceMod, Nat.reducePow, Nat.reduceBEq, Nat.reduceBNe, Int.reduceLT, Int.reduceLE, Int.reduceGT, Int.reduceGE, Int.reduceBEq, Int.reduceBNe, Int.reduceToNat, Int.reduceAdd, Int.reduceSub, Int.reduceMul, Int.reduceEq, Int.reduceNeg, reduceCtorEq, decide_true, decide_false, Bool.false_eq_true]
    · rw [e0]; simp only [go_sem, List.isEmpty_nil, isC, eq_self, reduceIte, Nat.reduceAdd, Nat.reduceMul, Nat.reduceSub, Nat.reduceLT, Nat.reduceLeDiff, Nat.reduceEqDiff, Nat.reduceDiv, Nat.reduceMod, Nat.reducePow, Nat.reduceBEq, Nat.reduceBNe, Int.reduceLT, Int.reduceLE, Int.reduceGT, Int.reduceGE, Int.reduceBEq, Int.reduceBNe, Int.reduceToNat, Int.reduceAdd, Int.reduceSub, Int.reduceMul, Int.reduceEq, Int.reduceNeg, reduceCtorEq, decide_true, decide_false, Bool.false_eq_true]
  · have a1 : ¬ ((i / 32 : Nat) : Int) ≥ ((dig x).length : Int) := by omega
    simp only [L65r1, go_sem, List.isEmpty_nil, isC, eq_self, reduceIte, Nat.reduceAdd, Nat.reduceMul, Nat.reduceSub, Nat.reduceLT, Nat.reduceLeDiff, Nat.reduceEqDiff, Nat.reduceDiv, Nat.reduceMod, Nat.reducePow, Nat.reduceBEq, Nat.reduceBNe, Int.reduceLT, Int.reduceLE, Int.reduceGT, Int.reduceGE, Int.reduceBEq, Int.reduceBNe, Int.reduceToNat, Int.reduceAdd, Int.reduceSub, Int.reduceMul, Int.reduceEq, Int.reduceNeg, reduceCtorEq, decide_true, decide_false, Bool.false_eq_true, ty3, ty38, c1, c2, c3, a1]
    refine Lwp.cond rfl (fun h => by cases h) (fun _ => Lwp.skip ?_)
    simp only [go_sem, List.isEmpty_nil, isC, eq_self, reduceIte, Nat.reduceAdd, Nat.reduceMul, Nat.reduceSub, Nat.reduceLT, Nat.reduceLeDiff, Nat.reduceEqDiff, Nat.reduceDiv, Nat.reduceMod, Nat.reducePow, Nat.reduceBEq, Nat.reduceBNe, Int.reduceLT, Int.reduceLE, Int.reduceGT, Int.reduceGE, Int.reduceBEq, Int.reduceBNe, Int.reduceToNat, Int.reduceAdd, Int.reduceSub, Int.reduceMul, Int.reduceEq, Int.reduceNeg, reduceCtorEq, decide_true, decide_false, Bool.false_eq_true]
    have b1 : (0 : Int) ≤ ((i / 32 : Nat) : Int) := by omega
    have b2 : ((i / 32 : Nat) : Int) < ((dig x).length : Int) := by omega
    have b3 : i / 32 < (dig x).length := by omega
    have b4 : (i / 32).succ ≤ (dig x).length := by omega
    have hw : x / 4294967296 ^ (i / 32) % 4294967296 < 4294967296 := Nat.mod_lt _ (by decide)
    generalize dig x = dx at *
    generalize x / 4294967296 ^ (i / 32) % 4294967296 = d at *
    generalize i / 32 = q at *
    refine Lwp.seq (Lwp.regI hT ?_)
    simp only [L65r3, go_sem, List.isEmpty_nil, isC, eq_self, reduceIte, Nat.reduceAdd, Nat.reduceMul, Nat.reduceSub, Nat.reduceLT, Nat.reduceLeDiff, Nat.reduceEqDiff, Nat.reduceDiv, Nat.reduceMod, Nat.reducePow, Nat.reduceBEq, Nat.reduceBNe, Int.reduceLT, Int.reduceLE, Int.reduceGT, Int.reduceGE, Int.reduceBEq, Int.reduceBNe, Int.reduceToNat, Int.reduceAdd, Int.reduceSub, Int.reduceMul, Int.reduceEq, Int.reduceNeg, reduceCtorEq, decide_true, decide_false, Bool.false_eq_true, ty3, ty4, ty5, ty9, ty22, ty24, ty30, ty31, ty32, ty35, ty37, ty38, ty54, ty55, ty84, eq24, eq55, c2, c3, b1, b2, b3, g]
    refine Lwp.seq ?_
    refine Lwp.seq (Lwp.regI hT ?_)
    simp only [L65r4, go_sem, List.isEmpty_nil, isC, eq_self, reduceIte, Nat.reduceAdd, Nat.reduceMul, Nat.reduceSub, Nat.reduceLT, Nat.reduceLeDiff, Nat.reduceEqDiff, Nat.reduceDiv, Nat.reduceMod, Nat.reducePow, Nat.reduceBEq, Nat.reduceBNe, Int.reduceLT, Int.reduceLE, Int.reduceGT, Int.reduceGE, Int.reduceBEq, Int.reduceBNe, Int.reduceToNat, Int.reduceAdd, Int.reduceSub, Int.reduceMul, Int.reduceEq, Int.reduceNeg, reduceCtorEq, decide_true, decide_false, Bool.false_eq_true, ty3, ty4, ty5, ty9, ty22, ty24, ty30, ty31, ty32, ty35, ty37, ty38, ty54, ty55, ty84, eq24, eq55]
    refine Lwp.block (Lwp.range (fun k => { nt := 32, env := [(1, .int .i64 i), (5, .int .u64 (d / 2 ^ k : Nat)), (6, .int .i64 k)], mem := [], next := 100 }) (i % 32) ?_ (fun k hk => ?_) ?_)
    · refine weak_of rfl ?_ ?_ ?_
      · (simp only [go_sem, List.isEmpty_nil, isC, eq_self, reduceIte, Nat.reduceAdd, Nat.reduceMul, Nat.reduceSub, Nat.reduceLT, Nat.reduceLeDiff, Nat.reduceEqDiff, Nat.reduceDiv, Nat.reduceMod, Nat.reducePow, Nat.reduceBEq, Nat.reduceBNe, Int.reduceLT, Int.reduceLE, Int.reduceGT, Int.reduceGE, Int.reduceBEq, Int.reduceBNe, Int.reduceToNat, Int.reduceAdd, Int.reduceSub, Int.reduceMul, Int.reduceEq, Int.reduceNeg, reduceCtorEq, decide_true, decide_false, Bool.false_eq_true, Nat.pow_zero, Nat.div_one]; try rfl)
      · (simp only [go_sem, List.isEmpty_nil, isC, eq_self, reduceIte, Nat.reduceAdd, Nat.reduceMul, Nat.reduceSub, Nat.reduceLT, Nat.reduceLeDiff, Nat.reduceEqDiff, Nat.reduceDiv, Nat.reduceMod, Nat.reducePow, Nat.reduceBEq, Nat.reduceBNe, Int.reduceLT, Int.reduceLE, Int.reduceGT, Int.reduceGE, Int.reduceBEq, Int.reduceBNe, Int.reduceToNat, Int.reduceAdd, Int.reduceSub, Int.reduceMul, Int.reduceEq, Int.reduceNeg, reduceCtorEq, decide_true, decide_false, Bool.false_eq_true, Nat.pow_zero, Nat.div_one]; try rfl)
      · (simp only [go_sem, List.isEmpty_nil, isC, eq_self, reduceIte, Nat.reduceAdd, Nat.reduceMul, Nat.reduceSub, Nat.reduceLT, Nat.reduceLeDiff, Nat.reduceEqDiff, Nat.reduceDiv, Nat.reduceMod, Nat.reducePow, Nat.reduceBEq, Nat.reduceBNe, Int.reduceLT, Int.reduceLE, Int.reduceGT, Int.reduceGE, Int.reduceBEq, Int.reduceBNe, Int.reduceToNat, Int.reduceAdd, Int.reduceSub, Int.reduceMul, Int.reduceEq, Int.reduceNeg, reduceCtorEq, decide_true, decide_false, Bool.false_eq_true, Nat.pow_zero, Nat.div_one]; try rfl)
    · have d1 : (k : Int) < ((i % 32 : Nat) : Int) := by omega
      have d2 := wrap_succ' (n := k) (by omega)
      have d3 : IntKind.u64.wrap (((d / 2 ^ k : Nat) : Int).tdiv 2) = ((d / 2 ^ (k + 1) : Nat) : Int) := by
        have hle : d / 2 ^ k ≤ d := Nat.div_le_self _ _
        rw [half64 (by omega), Nat.pow_succ, ← Nat.div_div_eq_div_mul]
      refine Lwp.seq ?_
      refine Lwp.seq (Lwp.regI hT ?_)
      simp only [L65r5, go_sem, List.isEmpty_nil, isC, eq_self, reduceIte, Nat.reduceAdd, Nat.reduceMul, Nat.reduceSub, Nat.reduceLT, Nat.reduceLeDiff, Nat.reduceEqDiff, Nat.reduceDiv, Nat.reduceMod, Nat.reducePow, Nat.reduceBEq, Nat.reduceBNe, Int.reduceLT, Int.reduceLE, Int.reduceGT, Int.reduceGE, Int.reduceBEq, Int.reduceBNe, Int.reduceToNat, Int.reduceAdd, Int.reduceSub, Int.reduceMul, Int.reduceEq, Int.reduceNeg, reduceCtorEq, decide_true, decide_false, Bool.false_eq_true, ty3, c4, c5, d1]
      refine Lwp.cond rfl (fun _ => Lwp.skip ?_) (fun h => by cases h)
      simp only [go_sem, List.isEmpty_nil, isC, eq_self, reduceIte, Nat.reduceAdd, Nat.reduceMul, Nat.reduceSub, Nat.reduceLT, Nat.reduceLeDiff, Nat.reduceEqDiff, Nat.reduceDiv, Nat.reduceMod, Nat.reducePow, Nat.reduceBEq, Nat.reduceBNe, Int.reduceLT, Int.reduceLE, Int.reduceGT, Int.reduceGE, Int.reduceBEq, Int.reduceBNe, Int.reduceToNat, Int.reduceAdd, Int.reduceSub, Int.reduceMul, Int.reduceEq, Int.reduceNeg, reduceCtorEq, decide_true, decide_false, Bool.false_eq_true]
      refine Lwp.seq (Lwp.block ?_)
      refine Lwp.regI hT ?_
      simp only [L65r7, go_sem, List.isEmpty_nil, isC, eq_self, reduceIte, Nat.reduceAdd, Nat.reduceMul, Nat.reduceSub, Nat.reduceLT, Nat.reduceLeDiff, Nat.reduceEqDiff, Nat.reduceDiv, Nat.reduceMod, Nat.reducePow, Nat.reduceBEq, Nat.reduceBNe, Int.reduceLT, Int.reduceLE, Int.reduceGT, Int.reduceGE, Int.reduceBEq, Int.reduceBNe, Int.reduceToNat, Int.reduceAdd, Int.reduceSub, Int.reduceMul, Int.reduceEq, Int.reduceNeg, reduceCtorEq, decide_true, decide_false, Bool.false_eq_true, ty3, ty4, ty5, ty9, ty22, ty24, ty30, ty31, ty32, ty35, ty37, ty38, ty54, ty55, ty84, eq24, eq55, d3]
      refine Lwp.regI hT ?_
      simp only [L65r6, go_sem, List.isEmpty_nil, isC, eq_self, reduceIte, Nat.reduceAdd, Nat.reduceMul, Nat.reduceSub, Nat.reduceLT, Nat.reduceLeDiff, Nat.reduceEqDiff, Nat.reduceDiv, Nat.reduceMod, Nat.reducePow, Nat.reduceBEq, Nat.reduceBNe, Int.reduceLT, Int.reduceLE, Int.reduceGT, Int.reduceGE, Int.reduceBEq, Int.reduceBNe, Int.reduceToNat, Int.reduceAdd, Int.reduceSub, Int.reduceMul, Int.reduceEq, Int.reduceNeg, reduceCtorEq, decide_true, decide_false, Bool.false_eq_true, ty3, ty4, ty5, ty9, ty22, ty24, ty30, ty31, ty32, ty35, ty37, ty38, ty54, ty55, ty84, eq24, eq55, d2]
      refine weak_of rfl ?_ ?_ ?_
      · (simp only [go_sem, List.isEmpty_nil, isC, eq_self, reduceIte, Nat.reduceAdd, Nat.reduceMul, Nat.reduceSub, Nat.reduceLT, Nat.reduceLeDiff, Nat.reduceEqDiff, Nat.reduceDiv, Nat.reduceMod, Nat.reducePow, Nat.reduceBEq, Nat.reduceBNe, Int.reduceLT, Int.reduceLE, Int.reduceGT, Int.reduceGE, Int.reduceBEq, Int.reduceBNe, Int.reduceToNat, Int.reduceAdd, Int.reduceSub, Int.reduceMul, Int.reduceEq, Int.reduceNeg, reduceCtorEq, decide_true, decide_false, Bool.false_eq_true]; try rfl)
      · (simp only [go_sem, List.isEmpty_nil, isC, eq_self, reduceIte, Nat.reduceAdd, Nat.reduceMul, Nat.reduceSub, Nat.reduceLT, Nat.reduceLeDiff, Nat.reduceEqDiff, Nat.reduceDiv, Nat.reduceMod, Nat.reducePow, Nat.reduceBEq, Nat.reduceBNe, Int.reduceLT, Int.reduceLE, Int.reduceGT, Int.reduceGE, Int.reduceBEq, Int.reduceBNe, Int.reduceToNat, Int.reduceAdd, Int.reduceSub, Int.reduceMul, Int.reduceEq, Int.reduceNeg, reduceCtorEq, decide_true, decide_false, Bool.false_eq_true]; try rfl)
      · (simp only [go_sem, List.isEmpty_nil, isC, eq_self, reduceIte, Nat.reduceAdd, Nat.reduceMul, Nat.reduceSub, Nat.reduceLT, Nat.reduceLeDiff, Nat.reduceEqDiff, Nat.reduceDiv, Nat.reduceMod, Nat.reducePow, Nat.reduceBEq, Nat.reduceBNe, Int.reduceLT, Int.reduceLE, Int.reduceGT, Int.reduceGE, Int.reduceBEq, Int.reduceBNe, Int.reduceToNat, Int.reduceAdd, Int.reduceSub, Int.reduceMul, Int.reduceEq, Int.reduceNeg, reduceCtorEq, decide_true, decide_false, Bool.false_eq_true]; try rfl)
    · have d1 : ¬ ((i % 32 : Nat) : Int) < ((i % 32 : Nat) : Int) := by omega
      refine Lwp.seq ?_
      refine Lwp.seq (Lwp.regI hT ?_)
      simp only [L65r5, go_sem, List.isEmpty_nil, isC, eq_self, reduceIte, Nat.reduceAdd, Nat.reduceMul, Nat.reduceSub, Nat.reduceLT, Nat.reduceLeDiff, Nat.reduceEqDiff, Nat.reduceDiv, Nat.reduceMod, Nat.reducePow, Nat.reduceBEq, Nat.reduceBNe, Int.reduceLT, Int.reduceLE, Int.reduceGT, Int.reduceGE, Int.reduceBEq, Int.reduceBNe, Int.reduceToNat, Int.reduceAdd, Int.reduceSub, Int.reduceMul, Int.reduceEq, Int.reduceNeg, reduceCtorEq, decide_true, decide_false, Bool.false_eq_true, ty3, c4, c5, d1]
      refine Lwp.cond rfl (fun h => by cases h) (fun _ => Lwp.exit ?_)
      simp only [go_sem, List.isEmpty_nil, isC, eq_self, reduceIte, Nat.reduceAdd, Nat.reduceMul, Nat.reduceSub, Nat.reduceLT, Nat.reduceLeDiff, Nat.reduceEqDiff, Nat.reduceDiv, Nat.reduceMod, Nat.reducePow, Nat.reduceBEq, Nat.reduceBNe, Int.reduceLT, Int.reduceLE, Int.reduceGT, Int.reduceGE, Int.reduceBEq, Int.reduceBNe, Int.reduceToNat, Int.reduceAdd, Int.reduceSub, Int.reduceMul, Int.reduceEq, Int.reduceNeg, reduceCtorEq, decide_true, decide_false, Bool.false_eq_true]
      have d4 : ((d / 2 ^ (i % 32) : Nat) : Int).tmod 2 = ((d / 2 ^ (i % 32) % 2 : Nat) : Int) := nat_tmod2 _
      have d5 : (((d / 2 ^ (i % 32) % 2 : Nat) : Int) == 1) = decide (x / 2 ^ i % 2 = 1) := by
        rw [key]
        rcases Nat.mod_two_eq_zero_or_one (x / 2 ^ i) with h | h <;> rw [h] <;> rfl
      refine Lwp.seq (Lwp.regI hT ?_)
      simp only [L65r8, go_sem, List.isEmpty_nil, isC, eq_self, reduceIte, Nat.reduceAdd, Nat.reduceMul, Nat.reduceSub, Nat.reduceLT, Nat.reduceLeDiff, Nat.reduceEqDiff, Nat.reduceDiv, Nat.reduceMod, Nat.reducePow, Nat.reduceBEq, Nat.reduceBNe, Int.reduceLT, Int.reduceLE, Int.reduceGT, Int.reduceGE, Int.reduceBEq, Int.reduceBNe, Int.reduceToNat, Int.reduceAdd, Int.reduceSub, Int.reduceMul, Int.reduceEq, Int.reduceNeg, reduceCtorEq, decide_true, decide_false, Bool.false_eq_true, ty3, ty4, ty5, ty9, ty22, ty24, ty30, ty31, ty32, ty35, ty37, ty38, ty54, ty55, ty84, eq24, eq55, d4, d5]
      refine Lwp.ret (post_val (v := .bool (decide (x / 2 ^ i % 2 = 1))) ?_ ?_)
      · simp only [go_sem, List.isEmpty_nil, isC, eq_self, reduceIte, Nat.reduceAdd, Nat.reduceMul, Nat.reduceSub, Nat.reduceLT, Nat.reduceLeDiff, Nat.reduceEqDiff, Nat.reduceDiv, Nat.reduceMod, Nat.reducePow, Nat.reduceBEq, Nat.reduceBNe, Int.reduceLT, Int.reduceLE, Int.reduceGT, Int.reduceGE, Int.reduceBEq, Int.reduceBNe, Int.reduceToNat, Int.reduceAdd, Int.reduceSub, Int.reduceMul, Int.reduceEq, Int.reduceNeg, reduceCtorEq, decide_true, decide_false, Bool.false_eq_true]
      · simp only [go_sem, List.isEmpty_nil, isC, eq_self, reduceIte, Nat.reduceAdd, Nat.reduceMul, Nat.reduceSub, Nat.reduceLT, Nat.reduceLeDiff, Nat.reduceEqDiff, Nat.reduceDiv, Nat.reduceMod, Nat.reducePow, Nat.reduceBEq, Nat.reduceBNe, Int.reduceLT, Int.reduceLE, Int.reduceGT, Int.reduceGE, Int.reduceBEq, Int.reduceBNe, Int.reduceToNat, Int.reduceAdd, Int.reduceSub, Int.reduceMul, Int.reduceEq, Int.reduceNeg, reduceCtorEq, decide_true, decide_false, Bool.false_eq_true]

theorem pow_bit (b e m i : Nat) : (b ^ (e / 2 ^ i)) % m = (if e / 2 ^ i % 2 = 1 then ((b ^ (e / 2 ^ (i + 1)) % m) * (b ^ (e / 2 ^ (i + 1)) % m) % m) * (b % m) % m else (b ^ (e / 2 ^ (i + 1)) % m) * (b ^ (e / 2 ^ (i + 1)) % m) % m) := by
  have h1 : e / 2 ^ (i + 1) = e / 2 ^ i / 2 := by rw [Nat.pow_succ, Nat.div_div_eq_div_mul]
  rw [h1]
  generalize e / 2 ^ i = q
  have h2 : q = q / 2 + q / 2 + q % 2 := by omega
  have h3 : b ^ q = b ^ (q / 2) * b ^ (q / 2) * b ^ (q % 2) := by rw [← Nat.pow_add, ← Nat.pow_add, ← h2]
  rcases Nat.mod_two_eq_zero_or_one q with h | h
  · rw [if_neg (by omega), h3, h, Nat.pow_zero, Nat.mul_one]
    exact Nat.mul_mod _ _ _
  · rw [if_pos h, h3, h, Nat.pow_one, ← Nat.mul_mod (b ^ (q / 2)) (b ^ (q / 2)) m]
    exact Nat.mul_mod _ _ _

theorem nb_lt (x : Nat) : x < 2 ^ nb x := (nb_le x (nb x)).1 (Nat.le_refl _)

def St52 (a e m : Nat) (k : Nat) : AState := { nt := 39, env := [(1, .slc (dig (e)).length (ints .u64 (dig (e)))), (2, .slc (dig (m)).length (ints .u64 (dig (m)))), (7, .slc (dig ((a % m) ^ (e / 2 ^ k) % m)).length (ints .u64 (dig ((a % m) ^ (e / 2 ^ k) % m)))), (8, .slc (dig (a % m)).length (ints .u64 (dig (a % m)))), (9, .int .i64 ((k : Int) - 1))], mem := [], next := 100 }

theorem dig_one : dig 1 = [1] := by rw [dig_pos (by decide)]; simp [dig_zero]

noncomputable def S52 : List AV → Option Ret := nz (sumOf (fun p : Nat × Nat × Nat => match p with | (a, e, m) => ((dig a).length ≤ 400000) ∧ ((dig e).length ≤ 400000) ∧ (0 < m) ∧ (m < 4294967296 ^ 12)) (fun p : Nat × Nat × Nat => match p with | (a, e, m) => [.slc (dig (a)).length (ints .u64 (dig (a))), .slc (dig (e)).length (ints .u64 (dig (e))), .slc (dig (m)).length (ints .u64 (dig (m)))]) (fun p : Nat × Nat × Nat => match p with | (a, e, m) => ⟨.slc (dig (a ^ e % m)).length (ints .u64 (dig (a ^ e % m))), none⟩))
theorem S52_eq (a : Nat) (e : Nat) (m : Nat) (h0 : (dig a).length ≤ 400000) (h1 : (dig e).length ≤ 400000) (h2 : 0 < m) (h3 : m < 4294967296 ^ 12) : S52 [.slc (dig (a)).length (ints .u64 (dig (a))), .slc (dig (e)).length (ints .u64 (dig (e))), .slc (dig (m)).length (ints .u64 (dig (m)))] = some ⟨.slc (dig (a ^ e % m)).length (ints .u64 (dig (a ^ e % m))), none⟩ :=
  sumOf_eq (dom := (fun p : Nat × Nat × Nat => match p with | (a, e, m) => ((dig a).length ≤ 400000) ∧ ((dig e).length ≤ 400000) ∧ (0 < m) ∧ (m < 4294967296 ^ 12))) (enc := (fun p : Nat × Nat × Nat => match p with | (a, e, m) => [.slc (dig (a)).length (ints .u64 (dig (a))), .slc (dig (e)).length (ints .u64 (dig (e))), .slc (dig (m)).length (ints .u64 (dig (m)))])) (out := (fun p : Nat × Nat × Nat => match p with | (a, e, m) => ⟨.slc (dig (a ^ e % m)).length (ints .u64 (dig (a ^ e % m))), none⟩)) (a, e, m) ⟨h0, h1, h2, h3⟩ (fun y _ e => by
    obtain ⟨y0, y1, y2⟩ := y
    simp only [List.cons.injEq, AV.agg.injEq, AV.int.injEq, AV.slc.injEq, AV.iptr.injEq, AV.bool.injEq, AV.str.injEq, ints_injEq, dig_injEq,  Int.ofNat_inj, BitVec.toNat_inj, true_and, and_true] at e
    first | with_reducible rfl | simp only [e] | rfl)
theorem S52_inv {args : List AV} {r : Ret} (h : sumOf (fun p : Nat × Nat × Nat => match p with | (a, e, m) => ((dig a).length ≤ 400000) ∧ ((dig e).length ≤ 400000) ∧ (0 < m) ∧ (m < 4294967296 ^ 12)) (fun p : Nat × Nat × Nat => match p with | (a, e, m) => [.slc (dig (a)).length (ints .u64 (dig (a))), .slc (dig (e)).length (ints .u64 (dig (e))), .slc (dig (m)).length (ints .u64 (dig (m)))]) (fun p : Nat × Nat × Nat => match p with | (a, e, m) => ⟨.slc (dig (a ^ e % m)).length (ints .u64 (dig (a ^ e % m))), none⟩) args = some r) : ∃ (a : Nat) (e : Nat) (m : Nat), (((dig a).length ≤ 400000) ∧ ((dig e).length ≤ 400000) ∧ (0 < m) ∧ (m < 4294967296 ^ 12)) ∧ args = [.slc (dig (a)).length (ints .u64 (dig (a))), .slc (dig (e)).length (ints .u64 (dig (e))), .slc (dig (m)).length (ints .u64 (dig (m)))] ∧ r = ⟨.slc (dig (a ^ e % m)).length (ints .u64 (dig (a ^ e % m))), none⟩ := by
  obtain ⟨x, h1, h2, h3⟩ := sumOf_inv h
  obtain ⟨a, e, m⟩ := x
  exact ⟨a, e, m, h1, h2.symm, h3⟩


set_option maxRecDepth 100000 in
theorem snd52 : SndE Try.prog NoG 52 S52 := by
  refine snd_nz (snd_by [(36, S36), (41, S41), (45, S45), (65, S65)] [] Try.func52 (by kernel_rfl) lite52 nt52 rs52 ⟨snd36, snd41, snd45, snd65, trivial⟩ trivial (fun hT args r h => ?_))
  obtain ⟨a, e, m, ⟨hd0, hd1, hd2, hd3⟩, rfl, rfl⟩ := S52_inv h
  clear h
  have hM := hM0
  refine ⟨Nat.le_of_ble_eq_true rfl, fun F => ?_⟩
  unfold L52
  have lm : (dig m).length ≤ 12 := (dig_len_le m 12).2 hd3
  have f45 : S45 [.slc 1 [.int .u64 1], .slc (dig (m)).length (ints .u64 (dig (m)))] = some ⟨.slc (dig (1 % m)).length (ints .u64 (dig (1 % m))), none⟩ := by
    have := S45_eq 1 m (by rw [dig_one]; decide) hd2 hd3; rw [dig_one] at this; exact this
  have f45a := S45_eq a m hd0 hd2 hd3
  have f36 := S36_eq e (by omega)
  have hnb : nb e ≤ 32 * (dig e).length := by
    rw [nb_le, Nat.pow_mul]; exact (dig_len_le e _).1 (Nat.le_refl _)
  have ham := Nat.mod_lt a hd2
  have lam : (dig (a % m)).length ≤ 12 := (dig_len_le _ 12).2 (by omega)
  have small : ∀ z, (dig (z % m)).length ≤ 12 := fun z => (dig_len_le _ 12).2 (by have := Nat.mod_lt z hd2; omega)
  have prod : ∀ y z, (dig y).length ≤ 12 → (dig z).length ≤ 12 → (dig (y * z)).length ≤ 400000 := fun y z hy hz => by
    rw [dig_len_le] at hy hz
    refine Nat.le_trans ((dig_len_le (y * z) 24).2 ?_) (by decide)
    refine Nat.lt_of_lt_of_le (Nat.mul_lt_mul_of_lt_of_le hy (Nat.le_of_lt hz) (Nat.pow_pos (by decide))) ?_
    rw [← Nat.pow_add]; exact Nat.le_refl _
  have z1 : IntKind.i64.wrap (((nb e : Nat) : Int) - 1) = ((nb e : Nat) : Int) - 1 := wrap_i64 (by omega) (by omega)
  have e0 : (a % m) ^ (e / 2 ^ nb e) % m = 1 % m := by rw [Nat.div_eq_of_lt (nb_lt e), Nat.pow_zero]
  refine Lwp.seq (Lwp.regI hT ?_)
  simp only [L52r0, go_sem, List.isEmpty_nil, isC, eq_self, reduceIte, Nat.reduceAdd, Nat.reduceMul, Nat.reduceSub, Nat.reduceLT, Nat.reduceLeDiff, Nat.reduceEqDiff, Nat.reduceDiv, Nat.reduceMod, Nat.reducePow, Nat.reduceBEq, Nat.reduceBNe, Int.reduceLT, Int.reduceLE, Int.reduceGT, Int.reduceGE, Int.reduceBEq, Int.reduceBNe, Int.reduceToNat, Int.reduceAdd, Int.reduceSub, Int.reduceMul, Int.reduceEq, Int.reduceNeg, reduceCtorEq, decide_true, decide_false, Bool.false_eq_true, ty3, ty4, ty5, ty9, ty22, ty24, ty30, ty31, ty32, ty35, ty37, ty38, ty54, ty55, ty84, eq24, eq55]
  refine Lwp.seq (Lwp.regI hT ?_)
  simp only [L52r1, go_sem, List.isEmpty_nil, isC, eq_self, reduceIte, Nat.reduceAdd, Nat.reduceMul, Nat.reduceSub, Nat.reduceLT, Nat.reduceLeDiff, Nat.reduceEqDiff, Nat.reduceDiv, Nat.reduceMod, Nat.reducePow, Nat.reduceBEq, Nat.reduceBNe, Int.reduceLT, Int.reduceLE, Int.reduceGT, Int.reduceGE, Int.reduceBEq, Int.reduceBNe, Int.reduceToNat, Int.reduceAdd, Int.reduceSub, Int.reduceMul, Int.reduceEq, Int.reduceNeg, reduceCtorEq, decide_true, decide_false, Bool.false_eq_true, ty3, ty4, ty5, ty9, ty22, ty24, ty30, ty31, ty32, ty35, ty37, ty38, ty54, ty55, ty84, eq24, eq55, f45, Nat.le_refl]
  refine Lwp.seq (Lwp.regI hT ?_)
  simp only [L52r2, go_sem, List.isEmpty_nil, isC, eq_self, reduceIte, Nat.reduceAdd, Nat.reduceMul, Nat.reduceSub, Nat.reduceLT, Nat.reduceLeDiff, Nat.reduceEqDiff, Nat.reduceDiv, Nat.reduceMod, Nat.reducePow, Nat.reduceBEq, Nat.reduceBNe, Int.reduceLT, Int.reduceLE, Int.reduceGT, Int.reduceGE, Int.reduceBEq, Int.reduceBNe, Int.reduceToNat, Int.reduceAdd, Int.reduceSub, Int.reduceMul, Int.reduceEq, Int.reduceNeg, reduceCtorEq, decide_true, decide_false, Bool.false_eq_true, ty3, ty4, ty5, ty9, ty22, ty24, ty30, ty31, ty32, ty35, ty37, ty38, ty54, ty55, ty84, eq24, eq55, f45a]
  refine Lwp.seq ?_
  refine Lwp.seq (Lwp.regI hT ?_)
  simp only [L52r3, go_sem, List.isEmpty_nil, isC, eq_self, reduceIte, Nat.reduceAdd, Nat.reduceMul, Nat.reduceSub, Nat.reduceLT, Nat.reduceLeDiff, Nat.reduceEqDiff, Nat.reduceDiv, Nat.reduceMod, Nat.reducePow, Nat.reduceBEq, Nat.reduceBNe, Int.reduceLT, Int.reduceLE, Int.reduceGT, Int.reduceGE, Int.reduceBEq, Int.reduceBNe, Int.reduceToNat, Int.reduceAdd, Int.reduceSub, Int.reduceMul, Int.reduceEq, Int.reduceNeg, reduceCtorEq, decide_true, decide_false, Bool.false_eq_true, ty3, ty4, ty5, ty9, ty22, ty24, ty30, ty31, ty32, ty35, ty37, ty38, ty54, ty55, ty84, eq24, eq55, f36, z1]
  refine Lwp.block (Lwp.whl (St52 a e m) (fun k => k ≤ nb e) (fun k => k) (nb e) (Nat.le_refl _) ?_ ?_)
  · refine weak_of rfl ?_ ?_ ?_
    · (simp only [go_sem, List.isEmpty_nil, isC, eq_self, reduceIte, Nat.reduceAdd, Nat.reduceMul, Nat.reduceSub, Nat.reduceLT, Nat.reduceLeDiff, Nat.reduceEqDiff, Nat.reduceDiv, Nat.reduceMod, Nat.reducePow, Nat.reduceBEq, Nat.reduceBNe, Int.reduceLT, Int.reduceLE, Int.reduceGT, Int.reduceGE, Int.reduceBEq, Int.reduceBNe, Int.reduceToNat, Int.reduceAdd, Int.reduceSub, Int.reduceMul, Int.reduceEq, Int.reduceNeg, reduceCtorEq, decide_true, decide_false, Bool.false_eq_true, St52, e0]; try rfl)
    · (simp only [go_sem, List.isEmpty_nil, isC, eq_self, reduceIte, Nat.reduceAdd, Nat.reduceMul, Nat.reduceSub, Nat.reduceLT, Nat.reduceLeDiff, Nat.reduceEqDiff, Nat.reduceDiv, Nat.reduceMod, Nat.reducePow, Nat.reduceBEq, Nat.reduceBNe, Int.reduceLT, Int.reduceLE, Int.reduceGT, Int.reduceGE, Int.reduceBEq, Int.reduceBNe, Int.reduceToNat, Int.reduceAdd, Int.reduceSub, Int.reduceMul, Int.reduceEq, Int.reduceNeg, reduceCtorEq, decide_true, decide_false, Bool.false_eq_true, St52, e0]; try rfl)
    · (simp only [go_sem, List.isEmpty_nil, isC, eq_self, reduceIte, Nat.reduceAdd, Nat.reduceMul, Nat.reduceSub, Nat.reduceLT, Nat.reduceLeDiff, Nat.reduceEqDiff, Nat.reduceDiv, Nat.reduceMod, Nat.reducePow, Nat.reduceBEq, Nat.reduceBNe, Int.reduceLT, Int.reduceLE, Int.reduceGT, Int.reduceGE, Int.reduceBEq, Int.reduceBNe, Int.reduceToNat, Int.reduceAdd, Int.reduceSub, Int.reduceMul, Int.reduceEq, Int.reduceNeg, reduceCtorEq, decide_true, decide_false, Bool.false_eq_true, St52, e0]; try rfl)
  · intro k hk
    unfold St52
    refine Lwp.seq (Lwp.seq (Lwp.regI hT ?_))
    by_cases h0 : k = 0
    · subst h0
      have b1 : ¬ (((0 : Nat) : Int) - 1) ≥ 0 := by omega
      simp only [L52r4, go_sem, List.isEmpty_nil, isC, eq_self, reduceIte, Nat.reduceAdd, Nat.reduceMul, Nat.reduceSub, Nat.reduceLT, Nat.reduceLeDiff, Nat.reduceEqDiff, Nat.reduceDiv, Nat.reduceMod, Nat.reducePow, Nat.reduceBEq, Nat.reduceBNe, Int.reduceLT, Int.reduceLE, Int.reduceGT, Int.reduceGE, Int.reduceBEq, Int.reduceBNe, Int.reduceToNat, Int.reduceAdd, Int.reduceSub, Int.reduceMul, Int.reduceEq, Int.reduceNeg, reduceCtorEq, decide_true, decide_false, Bool.false_eq_true, ty3, b1]
      refine Lwp.cond rfl (fun h => by cases h) (fun _ => Lwp.exit ?_)
      simp only [go_sem, List.isEmpty_nil, isC, eq_self, reduceIte, Nat.reduceAdd, Nat.reduceMul, Nat.reduceSub, Nat.reduceLT, Nat.reduceLeDiff, Nat.reduceEqDiff, Nat.reduceDiv, Nat.reduceMod, Nat.reducePow, Nat.reduceBEq, Nat.reduceBNe, Int.reduceLT, Int.reduceLE, Int.reduceGT, Int.reduceGE, Int.reduceBEq, Int.reduceBNe, Int.reduceToNat, Int.reduceAdd, Int.reduceSub, Int.reduceMul, Int.reduceEq, Int.reduceNeg, reduceCtorEq, decide_true, decide_false, Bool.false_eq_true]
      rw [Nat.div_one, ← Nat.pow_mod]
      refine Lwp.seq (Lwp.regI hT ?_)
      simp only [L52r10, go_sem, List.isEmpty_nil, isC, eq_self, reduceIte, Nat.reduceAdd, Nat.reduceMul, Nat.reduceSub, Nat.reduceLT, Nat.reduceLeDiff, Nat.reduceEqDiff, Nat.reduceDiv, Nat.reduceMod, Nat.reducePow, Nat.reduceBEq, Nat.reduceBNe, Int.reduceLT, Int.reduceLE, Int.reduceGT, Int.reduceGE, Int.reduceBEq, Int.reduceBNe, Int.reduceToNat, Int.reduceAdd, Int.reduceSub, Int.reduceMul, Int.reduceEq, Int.reduceNeg, reduceCtorEq, decide_true, decide_false, Bool.false_eq_true, ty3, ty4, ty5, ty9, ty22, ty24, ty30, ty31, ty32, ty35, ty37, ty38, ty54, ty55, ty84, eq24, eq55]
      refine Lwp.ret (post_val (v := .slc (dig (a ^ e % m)).length (ints .u64 (dig (a ^ e % m)))) ?_ ?_)
      · simp only [go_sem, List.isEmpty_nil, isC, eq_self, reduceIte, Nat.reduceAdd, Nat.reduceMul, Nat.reduceSub, Nat.reduceLT, Nat.reduceLeDiff, Nat.reduceEqDiff, Nat.reduceDiv, Nat.reduceMod, Nat.reducePow, Nat.reduceBEq, Nat.reduceBNe, Int.reduceLT, Int.reduceLE, Int.reduceGT, Int.reduceGE, Int.reduceBEq, Int.reduceBNe, Int.reduceToNat, Int.reduceAdd, Int.reduceSub, Int.reduceMul, Int.reduceEq, Int.reduceNeg, reduceCtorEq, decide_true, decide_false, Bool.false_eq_true]
      · simp only [go_sem, List.isEmpty_nil, isC, eq_self, reduceIte, Nat.reduceAdd, Nat.reduceMul, Nat.reduceSub, Nat.reduceLT, Nat.reduceLeDiff, Nat.reduceEqDiff, Nat.reduceDiv, Nat.reduceMod, Nat.reducePow, Nat.reduceBEq, Nat.reduceBNe, Int.reduceLT, Int.reduceLE, Int.reduceGT, Int.reduceGE, Int.reduceBEq, Int.reduceBNe, Int.reduceToNat, Int.reduceAdd, Int.reduceSub, Int.reduceMul, Int.reduceEq, Int.reduceNeg, reduceCtorEq, decide_true, decide_false, Bool.false_eq_true]
    · obtain ⟨i, rfl⟩ : ∃ i, k = i + 1 := ⟨k - 1, by omega⟩
      have b0 : ((i + 1 : Nat) : Int) - 1 = (i : Int) := by omega
      have b1 : (i : Int) ≥ 0 := by omega
      have b2 : IntKind.i64.wrap ((i : Int) - 1) = (i : Int) - 1 := wrap_i64 (by omega) (by omega)
      have pb := pow_bit (a % m) e m i
      rw [Nat.mod_mod] at pb
      have ly := small ((a % m) ^ (e / 2 ^ (i + 1)))
      simp only [b0]
      generalize hy : (a % m) ^ (e / 2 ^ (i + 1)) % m = y at *
      have f41 := S41_eq y y (by omega) (by omega)
      have f45y := S45_eq (y * y) m (prod y y ly ly) hd2 hd3
      have ly2 := small (y * y)
      have f65 := S65_eq e i (by omega) (by omega)
      have f41b := S41_eq (y * y % m) (a % m) (by omega) (by omega)
      have f45b := S45_eq (y * y % m * (a % m)) m (prod _ _ ly2 lam) hd2 hd3
      simp only [L52r4, go_sem, List.isEmpty_nil, isC, eq_self, reduceIte, Nat.reduceAdd, Nat.reduceMul, Nat.reduceSub, Nat.reduceLT, Nat.reduceLeDiff, Nat.reduceEqDiff, Nat.reduceDiv, Nat.reduceMod, Nat.reducePow, Nat.reduceBEq, Nat.reduceBNe, Int.reduceLT, Int.reduceLE, Int.reduceGT, Int.reduceGE, Int.reduceBEq, Int.reduceBNe, Int.reduceToNat, Int.reduceAdd, Int.reduceSub, Int.reduceMul, Int.reduceEq, Int.reduceNeg, reduceCtorEq, decide_true, decide_false, Bool.false_eq_true, ty3, b1]
      refine Lwp.cond rfl (fun _ => Lwp.skip ?_) (fun h => by cases h)
      simp only [go_sem, List.isEmpty_nil, isC, eq_self, reduceIte, Nat.reduceAdd, Nat.reduceMul, Nat.reduceSub, Nat.reduceLT, Nat.reduceLeDiff, Nat.reduceEqDiff, Nat.reduceDiv, Nat.reduceMod, Nat.reducePow, Nat.reduceBEq, Nat.reduceBNe, Int.reduceLT, Int.reduceLE, Int.reduceGT, Int.reduceGE, Int.reduceBEq, Int.reduceBNe, Int.reduceToNat, Int.reduceAdd, Int.reduceSub, Int.reduceMul, Int.reduceEq, Int.reduceNeg, reduceCtorEq, decide_true, decide_false, Bool.false_eq_true]
      refine Lwp.seq (Lwp.block ?_)
      refine Lwp.seq (Lwp.regI hT ?_)
      simp only [L52r6, go_sem, List.isEmpty_nil, isC, eq_self, reduceIte, Nat.reduceAdd, Nat.reduceMul, Nat.reduceSub, Nat.reduceLT, Nat.reduceLeDiff, Nat.reduceEqDiff, Nat.reduceDiv, Nat.reduceMod, Nat.reducePow, Nat.reduceBEq, Nat.reduceBNe, Int.reduceLT, Int.reduceLE, Int.reduceGT, Int.reduceGE, Int.reduceBEq, Int.reduceBNe, Int.reduceToNat, Int.reduceAdd, Int.reduceSub, Int.reduceMul, Int.reduceEq, Int.reduceNeg, reduceCtorEq, decide_true, decide_false, Bool.false_eq_true, ty3, ty4, ty5, ty9, ty22, ty24, ty30, ty31, ty32, ty35, ty37, ty38, ty54, ty55, ty84, eq24, eq55, f41, f45y]
      by_cases hb : e / 2 ^ i % 2 = 1
      · rw [decide_eq_true hb] at f65
        rw [if_pos hb] at pb
        refine Lwp.seq (Lwp.regI hT ?_)
        simp only [L52r7, go_sem, List.isEmpty_nil, isC, eq_self, reduceIte, Nat.reduceAdd, Nat.reduceMul, Nat.reduceSub, Nat.reduceLT, Nat.reduceLeDiff, Nat.reduceEqDiff, Nat.reduceDiv, Nat.reduceMod, Nat.reducePow, Nat.reduceBEq, Nat.reduceBNe, Int.reduceLT, Int.reduceLE, Int.reduceGT, Int.reduceGE, Int.reduceBEq, Int.reduceBNe, Int.reduceToNat, Int.reduceAdd, Int.reduceSub, Int.reduceMul, Int.reduceEq, Int.reduceNeg, reduceCtorEq, decide_true, decide_false, Bool.false_eq_true, ty3, ty4, ty5, ty9, ty22, ty24, ty30, ty31, ty32, ty35, ty37, ty38, ty54, ty55, ty84, eq24, eq55, f65]
        refine Lwp.seq (Lwp.regI hT ?_)
        simp only [L52r8, go_sem, List.isEmpty_nil, isC, eq_self, reduceIte, Nat.reduceAdd, Nat.reduceMul, Nat.reduceSub, Nat.reduceLT, Nat.reduceLeDiff, Nat.reduceEqDiff, Nat.reduceDiv, Nat.reduceMod, Nat.reducePow, Nat.reduceBEq, Nat.reduceBNe, Int.reduceLT, Int.reduceLE, Int.reduceGT, Int.reduceGE, Int.reduceBEq, Int.reduceBNe, Int.reduceToNat, Int.reduceAdd, Int.reduceSub, Int.reduceMul, Int.reduceEq, Int.reduceNeg, reduceCtorEq, decide_true, decide_false, Bool.false_eq_true, ty3, ty4, ty5, ty9, ty22, ty24, ty30, ty31, ty32, ty35, ty37, ty38, ty54, ty55, ty84, eq24, eq55]
        refine Lwp.cond rfl (fun _ => ?_) (fun h => by cases h)
        refine Lwp.regI hT ?_
        simp only [L52r9, go_sem, List.isEmpty_nil, isC, eq_self, reduceIte, Nat.reduceAdd, Nat.reduceMul, Nat.reduceSub, Nat.reduceLT, Nat.reduceLeDiff, Nat.reduceEqDiff, Nat.reduceDiv, Nat.reduceMod, Nat.reducePow, Nat.reduceBEq, Nat.reduceBNe, Int.reduceLT, Int.reduceLE, Int.reduceGT, Int.reduceGE, Int.reduceBEq, Int.reduceBNe, Int.reduceToNat, Int.reduceAdd, Int.reduceSub, Int.reduceMul, Int.reduceEq, Int.reduceNeg, reduceCtorEq, decide_true, decide_false, Bool.false_eq_true, ty3, ty4, ty5, ty9, ty22, ty24, ty30, ty31, ty32, ty35, ty37, ty38, ty54, ty55, ty84, eq24, eq55, f41b, f45b]
        refine Lwp.regI hT ?_
        simp only [L52r5, go_sem, List.isEmpty_nil, isC, eq_self, reduceIte, Nat.reduceAdd, Nat.reduceMul, Nat.reduceSub, Nat.reduceLT, Nat.reduceLeDiff, Nat.reduceEqDiff, Nat.reduceDiv, Nat.reduceMod, Nat.reducePow, Nat.reduceBEq, Nat.reduceBNe, Int.reduceLT, Int.reduceLE, Int.reduceGT, Int.reduceGE, Int.reduceBEq, Int.reduceBNe, Int.reduceToNat, Int.reduceAdd, Int.reduceSub, Int.reduceMul, Int.reduceEq, Int.reduceNeg, reduceCtorEq, decide_true, decide_false, Bool.false_eq_true, ty3, ty4, ty5, ty9, ty22, ty24, ty30, ty31, ty32, ty35, ty37, ty38, ty54, ty55, ty84, eq24, eq55, b2]
        refine ⟨i, by omega, by omega, ?_⟩
        refine weak_of rfl ?_ ?_ ?_
        · (simp only [go_sem, List.isEmpty_nil, isC, eq_self, reduceIte, Nat.reduceAdd, Nat.reduceMul, Nat.reduceSub, Nat.reduceLT, Nat.reduceLeDiff, Nat.reduceEqDiff, Nat.reduceDiv, Nat.reduceMod, Nat.reducePow, Nat.reduceBEq, Nat.reduceBNe, Int.reduceLT, Int.reduceLE, Int.reduceGT, Int.reduceGE, Int.reduceBEq, Int.reduceBNe, Int.reduceToNat, Int.reduceAdd, Int.reduceSub, Int.reduceMul, Int.reduceEq, Int.reduceNeg, reduceCtorEq, decide_true, decide_false, Bool.false_eq_true, St52, pb]; try rfl)
        · (simp only [go_sem, List.isEmpty_nil, isC, eq_self, reduceIte, Nat.reduceAdd, Nat.reduceMul, Nat.reduceSub, Nat.reduceLT, Nat.reduceLeDiff, Nat.reduceEqDiff, Nat.reduceDiv, Nat.reduceMod, Nat.reducePow, Nat.reduceBEq, Nat.reduceBNe, Int.reduceLT, Int.reduceLE, Int.reduceGT, Int.reduceGE, Int.reduceBEq, Int.reduceBNe, Int.reduceToNat, Int.reduceAdd, Int.reduceSub, Int.reduceMul, Int.reduceEq, Int.reduceNeg, reduceCtorEq, decide_true, decide_false, Bool.false_eq_true, St52, pb]; try rfl)
        · (simp only [go_sem, List.isEmpty_nil, isC, eq_self, reduceIte, Nat.reduceAdd, Nat.reduceMul, Nat.reduceSub, Nat.reduceLT, Nat.reduceLeDiff, Nat.reduceEqDiff, Nat.reduceDiv, Nat.reduceMod, Nat.reducePow, Nat.reduceBEq, Nat.reduceBNe, Int.reduceLT, Int.reduceLE, Int.reduceGT, Int.reduceGE, Int.reduceBEq, Int.reduceBNe, Int.reduceToNat, Int.reduceAdd, Int.reduceSub, Int.reduceMul, Int.reduceEq, Int.reduceNeg, reduceCtorEq, decide_true, decide_false, Bool.false_eq_true, St52, pb]; try rfl)
      · rw [decide_eq_false hb] at f65
        rw [if_neg hb] at pb
        refine Lwp.seq (Lwp.regI hT ?_)
        simp only [L52r7, go_sem, List.isEmpty_nil, isC, eq_self, reduceIte, Nat.reduceAdd, Nat.reduceMul, Nat.reduceSub, Nat.reduceLT, Nat.reduceLeDiff, Nat.reduceEqDiff, Nat.reduceDiv, Nat.reduceMod, Nat.reducePow, Nat.reduceBEq, Nat.reduceBNe, Int.reduceLT, Int.reduceLE, Int.reduceGT, Int.reduceGE, Int.reduceBEq, Int.reduceBNe, Int.reduceToNat, Int.reduceAdd, Int.reduceSub, Int.reduceMul, Int.reduceEq, Int.reduceNeg, reduceCtorEq, decide_true, decide_false, Bool.false_eq_true, ty3, ty4, ty5, ty9, ty22, ty24, ty30, ty31, ty32, ty35, ty37, ty38, ty54, ty55, ty84, eq24, eq55, f65]
        refine Lwp.seq (Lwp.regI hT ?_)
        simp only [L52r8, go_sem, List.isEmpty_nil, isC, eq_self, reduceIte, Nat.reduceAdd, Nat.reduceMul, Nat.reduceSub, Nat.reduceLT, Nat.reduceLeDiff, Nat.reduceEqDiff, Nat.reduceDiv, Nat.reduceMod, Nat.reducePow, Nat.reduceBEq, Nat.reduceBNe, Int.reduceLT, Int.reduceLE, Int.reduceGT, Int.reduceGE, Int.reduceBEq, Int.reduceBNe, Int.reduceToNat, Int.reduceAdd, Int.reduceSub, Int.reduceMul, Int.reduceEq, Int.reduceNeg, reduceCtorEq, decide_true, decide_false, Bool.false_eq_true, ty3, ty4, ty5, ty9, ty22, ty24, ty30, ty31, ty32, ty35, ty37, ty38, ty54, ty55, ty84, eq24, eq55]
        refine Lwp.cond rfl (fun h => by cases h) (fun _ => Lwp.skip ?_)
        simp only [go_sem, List.isEmpty_nil, isC, eq_self, reduceIte, Nat.reduceAdd, Nat.reduceMul, Nat.reduceSub, Nat.reduceLT, Nat.reduceLeDiff, Nat.reduceEqDiff, Nat.reduceDiv, Nat.reduceMod, Nat.reducePow, Nat.reduceBEq, Nat.reduceBNe, Int.reduceLT, Int.reduceLE, Int.reduceGT, Int.reduceGE, Int.reduceBEq, Int.reduceBNe, Int.reduceToNat, Int.reduceAdd, Int.reduceSub, Int.reduceMul, Int.reduceEq, Int.reduceNeg, reduceCtorEq, decide_true, decide_false, Bool.false_eq_true]
        refine Lwp.regI hT ?_
        simp only [L52r5, go_sem, List.isEmpty_nil, isC, eq_self, reduceIte, Nat.reduceAdd, Nat.reduceMul, Nat.reduceSub, Nat.reduceLT, Nat.reduceLeDiff, Nat.reduceEqDiff, Nat.reduceDiv, Nat.reduceMod, Nat.reducePow, Nat.reduceBEq, Nat.reduceBNe, Int.reduceLT, Int.reduceLE, Int.reduceGT, Int.reduceGE, Int.reduceBEq, Int.reduceBNe, Int.reduceToNat, Int.reduceAdd, Int.reduceSub, Int.reduceMul, Int.reduceEq, Int.reduceNeg, reduceCtorEq, decide_true, decide_false, Bool.false_eq_true, ty3, ty4, ty5, ty9, ty22, ty24, ty30, ty31, ty32, ty35, ty37, ty38, ty54, ty55, ty84, eq24, eq55, b2]
        refine ⟨i, by omega, by omega, ?_⟩
        refine weak_of rfl ?_ ?_ ?_
        · (simp only [go_sem, List.isEmpty_nil, isC, eq_self, reduceIte, Nat.reduceAdd, Nat.reduceMul, Nat.reduceSub, Nat.reduceLT, Nat.reduceLeDiff, Nat.reduceEqDiff, Nat.reduceDiv, Nat.reduceMod, Nat.reducePow, Nat.reduceBEq, Nat.reduceBNe, Int.reduceLT, Int.reduceLE, Int.reduceGT, Int.reduceGE, Int.reduceBEq, Int.reduceBNe, Int.reduceToNat, Int.reduceAdd, Int.reduceSub, Int.reduceMul, Int.reduceEq, Int.reduceNeg, reduceCtorEq, decide_true, decide_false, Bool.false_eq_true, St52, pb]; try rfl)
        · (simp only [go_sem, List.isEmpty_nil, isC, eq_self, reduceIte, Nat.reduceAdd, Nat.reduceMul, Nat.reduceSub, Nat.reduceLT, Nat.reduceLeDiff, Nat.reduceEqDiff, Nat.reduceDiv, Nat.reduceMod, Nat.reducePow, Nat.reduceBEq, Nat.reduceBNe, Int.reduceLT, Int.reduceLE, Int.reduceGT, Int.reduceGE, Int.reduceBEq, Int.reduceBNe, Int.reduceToNat, Int.reduceAdd, Int.reduceSub, Int.reduceMul, Int.reduceEq, Int.reduceNeg, reduceCtorEq, decide_true, decide_false, Bool.false_eq_true, St52, pb]; try rfl)
        · (simp only [go_sem, List.isEmpty_nil, isC, eq_self, reduceIte, Nat.reduceAdd, Nat.reduceMul, Nat.reduceSub, Nat.reduceLT, Nat.reduceLeDiff, Nat.reduceEqDiff, Nat.reduceDiv, Nat.reduceMod, Nat.reducePow, Nat.reduceBEq, Nat.reduceBNe, Int.reduceLT, Int.reduceLE, Int.reduceGT, Int.reduceGE, Int.reduceBEq, Int.reduceBNe, Int.reduceToNat, Int.reduceAdd, Int.reduceSub, Int.reduceMul, Int.reduceEq, Int.reduceNeg, reduceCtorEq, decide_true, decide_false, Bool.false_eq_true, St52, pb]; try rfl)

noncomputable def S46 : List AV → Option Ret := nz (sumOf (fun p : List Int => match p with | a => (U6 a)) (fun p : List Int => match p with | a => [.agg (ints .u64 a)]) (fun p : List Int => match p with | a => ⟨.slc (dig (v64 a)).length (ints .u64 (dig (v64 a))), none⟩))
theorem S46_eq (a : List Int) (h0 : U6 a) : S46 [.agg (ints .u64 a)] = some ⟨.slc (dig (v64 a)).length (ints .u64 (dig (v64 a))), none⟩ :=
  sumOf_eq (dom := (fun p : List Int => match p with | a => (U6 a))) (enc := (fun p : List Int => match p with | a => [.agg (ints .u64 a)])) (out := (fun p : List Int => match p with | a => ⟨.slc (dig (v64 a)).length (ints .u64 (dig (v64 a))), none⟩)) a h0 (fun y _ e => by
    simp only [List.cons.injEq, AV.agg.injEq, AV.int.injEq, AV.slc.injEq, AV.iptr.injEq, AV.bool.injEq, AV.str.injEq, ints_injEq, dig_injEq,  Int.ofNat_inj, BitVec.toNat_inj, true_and, and_true] at e
    first | with_reducible rfl | simp only [e] | rfl)
theorem S46_inv {args : List AV} {r : Ret} (h : sumOf (fun p : List Int => match p with | a => (U6 a)) (fun p : List Int => match p with | a => [.agg (ints .u64 a)]) (fun p : List Int => match p with | a => ⟨.slc (dig (v64 a)).length (ints .u64 (dig (v64 a))), none⟩) args = some r) : ∃ (a : List Int), ((U6 a)) ∧ args = [.agg (ints .u64 a)] ∧ r = ⟨.slc (dig (v64 a)).length (ints .u64 (dig (v64 a))), none⟩ := by
  obtain ⟨x, h1, h2, h3⟩ := sumOf_inv h
  exact ⟨x, h1, h2.symm, h3⟩

set_option maxRecDepth 100000 in
theorem snd46 : SndE Try.prog NoG 46 S46 := by
  refine snd_nz (snd_by [(28, S28)] [] Try.func46 (by kernel_rfl) lite46 nt46 rs46 ⟨snd28, trivial⟩ trivial (fun hT args r h => ?_))
  obtain ⟨a, hd0, rfl, rfl⟩ := S46_inv h
  clear h
  have hM := hM0
  refine ⟨Nat.le_of_ble_eq_true rfl, fun F => ?_⟩
  unfold L46
  have hl := hd0.1
  have f28 := S28_eq a hd0
  refine Lwp.seq (Lwp.regI hT ?_)
  simp only [L46r0, go_sem, List.isEmpty_nil, isC, eq_self, reduceIte, Nat.reduceAdd, Nat.reduceMul, Nat.reduceSub, Nat.reduceLT, Nat.reduceLeDiff, Nat.reduceEqDiff, Nat.reduceDiv, Nat.reduceMod, Nat.reducePow, Nat.reduceBEq, Nat.reduceBNe, Int.reduceLT, Int.reduceLE, Int.reduceGT, Int.reduceGE, Int.reduceBEq, Int.reduceBNe, Int.reduceToNat, Int.reduceAdd, Int.reduceSub, Int.reduceMul, Int.reduceEq, Int.reduceNeg, reduceCtorEq, decide_true, decide_false, Bool.false_eq_true, ty3, ty4, ty5, ty9, ty22, ty24, ty30, ty31, ty32, ty35, ty37, ty38, ty54, ty55, ty84, eq24, eq55]
  refine Lwp.seq (Lwp.regI hT ?_)
  simp only [L46r1, go_sem, List.isEmpty_nil, isC, eq_self, reduceIte, Nat.reduceAdd, Nat.reduceMul, Nat.reduceSub, Nat.reduceLT, Nat.reduceLeDiff, Nat.reduceEqDiff, Nat.reduceDiv, Nat.reduceMod, Nat.reducePow, Nat.reduceBEq, Nat.reduceBNe, Int.reduceLT, Int.reduceLE, Int.reduceGT, Int.reduceGE, Int.reduceBEq, Int.reduceBNe, Int.reduceToNat, Int.reduceAdd, Int.reduceSub, Int.reduceMul, Int.reduceEq, Int.reduceNeg, reduceCtorEq, decide_true, decide_false, Bool.false_eq_true, ty3, ty4, ty5, ty9, ty22, ty24, ty30, ty31, ty32, ty35, ty37, ty38, ty54, ty55, ty84, eq24, eq55, hl, f28]
  refine Lwp.ret (post_val (v := .slc (dig (v64 a)).length (ints .u64 (dig (v64 a)))) ?_ ?_)
  · simp only [go_sem, List.isEmpty_nil, isC, eq_self, reduceIte, Nat.reduceAdd, Nat.reduceMul, Nat.reduceSub, Nat.reduceLT, Nat.reduceLeDiff, Nat.reduceEqDiff, Nat.reduceDiv, Nat.reduceMod, Nat.reducePow, Nat.reduceBEq, Nat.reduceBNe, Int.reduceLT, Int.reduceLE, Int.reduceGT, Int.reduceGE, Int.reduceBEq, Int.reduceBNe, Int.reduceToNat, Int.reduceAdd, Int.reduceSub, Int.reduceMul, Int.reduceEq, Int.reduceNeg, reduceCtorEq, decide_true, decide_false, Bool.false_eq_true]
  · simp only [go_sem, List.isEmpty_nil, isC, eq_self, reduceIte, Nat.reduceAdd, Nat.reduceMul, Nat.reduceSub, Nat.reduceLT, Nat.reduceLeDiff, Nat.reduceEqDiff, Nat.reduceDiv, Nat.reduceMod, Nat.reducePow, Nat.reduceBEq, Nat.reduceBNe, Int.reduceLT, Int.reduceLE, Int.reduceGT, Int.reduceGE, Int.reduceBEq, Int.reduceBNe, Int.reduceToNat, Int.reduceAdd, Int.reduceSub, Int.reduceMul, Int.reduceEq, Int.reduceNeg, reduceCtorEq, decide_true, decide_false, Bool.false_eq_true]
end Eng

namespace Eng
open Go Go.Proofs
set_option linter.unusedSimpArgs false

def bitZ (a : List Int) (i : Int) : Int := if 0 ≤ i ∧ i < 384 then a.getD (i.toNat / 64) 0 / 2 ^ (i.toNat % 64) % 2 else 0

theorem shr_bound {x : Int} (h0 : 0 ≤ x) (h1 : x < 18446744073709551616) (n : Nat) : x.fdiv (2 ^ n) = x / 2 ^ n ∧ 0 ≤ x / 2 ^ n ∧ x / 2 ^ n < 18446744073709551616 := by
  have hp : (0 : Int) < 2 ^ n := Int.pow_pos (by decide)
  have hp1 : (1 : Int) ≤ 2 ^ n := hp
  refine ⟨Int.fdiv_eq_ediv_of_nonneg _ (Int.le_of_lt hp), Int.ediv_nonneg h0 (Int.le_of_lt hp), ?_⟩
  exact Int.lt_of_le_of_lt (Int.ediv_le_self _ h0) h1

theorem bitZ_run {a : List Int} {i : Int} (h : U6 a) (h0 : 0 ≤ i) (h1 : i < 384) :
    andZ .u64 (shrZ .u64 (a.getD (i / 64).toNat 0) (i % 64)) 1 = bitZ a i := by
  obtain ⟨b0, b1⟩ := h.at (i / 64).toNat
  have hm : min (i % 64).toNat 64 = i.toNat % 64 := by omega
  have hd : (i / 64).toNat = i.toNat / 64 := by omega
  obtain ⟨s0, s1, s2⟩ := shr_bound b0 b1 (i.toNat % 64)
  rw [shrZ_u64, hm, s0, andZ_one s1 s2, bitZ, if_pos ⟨h0, h1⟩, hd]

noncomputable def S21 : List AV → Option Ret := sumOf (fun p : List Int × Int => U6 p.1 ∧ I64 p.2) (fun p => [.agg (ints .u64 p.1), .int .i64 p.2]) (fun p => ⟨.int .u64 (bitZ p.1 p.2), none⟩)
theorem S21_eq (a : List Int) (i : Int) (h : U6 a) (hi : I64 i) : S21 [.agg (ints .u64 a), .int .i64 i] = some ⟨.int .u64 (bitZ a i), none⟩ :=
  sumOf_eq (enc := fun p : List Int × Int => [.agg (ints .u64 p.1), .int .i64 p.2]) (out := fun p : List Int × Int => ⟨.int .u64 (bitZ p.1 p.2), none⟩) (a, i) ⟨h, hi⟩ (fun y _ e => by
    simp only [List.cons.injEq, AV.agg.injEq, AV.int.injEq, true_and, and_true] at e
    rw [ints_inj e.1, e.2])

set_option maxRecDepth 100000 in
theorem snd21 : SndE Try.prog NoG 21 S21 := by
  refine snd_by [] [] Try.func21 (by kernel_rfl) lite21 nt21 rs21 trivial trivial (fun hT args r h => ?_)
  obtain ⟨⟨a, i⟩, ⟨⟨hl, hb⟩, hi⟩, rfl, rfl⟩ := sumOf_inv h
  clear h
  simp only at hl hb hi
  refine ⟨Nat.le_of_ble_eq_true rfl, fun F => ?_⟩
  unfold L21
  refine Lwp.seq (Lwp.region hT ?_)
  simp only [L21r0, go_sem, List.isEmpty_nil, isC, eq_self, reduceIte, Nat.reduceAdd, Nat.reduceMul, Nat.reduceSub, Nat.reduceLT, Nat.reduceLeDiff, Nat.reduceEqDiff, Nat.reduceDiv, Nat.reduceMod, Nat.reducePow, Nat.reduceBEq, Nat.reduceBNe, Int.reduceLT, Int.reduceLE, Int.reduceGT, Int.reduceGE, Int.reduceBEq, Int.reduceBNe, Int.reduceToNat, Int.reduceAdd, Int.reduceSub, Int.reduceMul, Int.reduceEq, Int.reduceNeg, reduceCtorEq, decide_true, decide_false, Bool.false_eq_true, ty24]
  refine Lwp.seq (Lwp.seq (Lwp.region hT ?_))
  by_cases h0 : i < 0
  · simp only [L21r1, go_sem, List.isEmpty_nil, isC, eq_self, reduceIte, Nat.reduceAdd, Nat.reduceMul, Nat.reduceSub, Nat.reduceLT, Nat.reduceLeDiff, Nat.reduceEqDiff, Nat.reduceDiv, Nat.reduceMod, Nat.reducePow, Nat.reduceBEq, Nat.reduceBNe, Int.reduceLT, Int.reduceLE, Int.reduceGT, Int.reduceGE, Int.reduceBEq, Int.reduceBNe, Int.reduceToNat, Int.reduceAdd, Int.reduceSub, Int.reduceMul, Int.reduceEq, Int.reduceNeg, reduceCtorEq, decide_true, decide_false, Bool.false_eq_true, ty24, ty22, ty3, h0]
    refine Lwp.cond rfl (fun _ => Lwp.seq (Lwp.region hT ?_)) (fun h => by cases h)
    simp only [L21r2, go_sem, List.isEmpty_nil, isC, eq_self, reduceIte, Nat.reduceAdd, Nat.reduceMul, Nat.reduceSub, Nat.reduceLT, Nat.reduceLeDiff, Nat.reduceEqDiff, Nat.reduceDiv, Nat.reduceMod, Nat.reducePow, Nat.reduceBEq, Nat.reduceBNe, Int.reduceLT, Int.reduceLE, Int.reduceGT, Int.reduceGE, Int.reduceBEq, Int.reduceBNe, Int.reduceToNat, Int.reduceAdd, Int.reduceSub, Int.reduceMul, Int.reduceEq, Int.reduceNeg, reduceCtorEq, decide_true, decide_false, Bool.false_eq_true]
    refine Lwp.ret (post_val (v := .int .u64 (bitZ a i)) ?_ ?_)
    · simp only [go_sem, List.isEmpty_nil, isC, eq_self, reduceIte, Nat.reduceAdd, Nat.reduceMul, Nat.reduceSub, Nat.reduceLT, Nat.reduceLeDiff, Nat.reduceEqDiff, Nat.reduceDiv, Nat.reduceMod, Nat.reducePow, Nat.reduceBEq, Nat.reduceBNe, Int.reduceLT, Int.reduceLE, Int.reduceGT, Int.reduceGE, Int.reduceBEq, Int.reduceBNe, Int.reduceToNat, Int.reduceAdd, Int.reduceSub, Int.reduceMul, Int.reduceEq, Int.reduceNeg, reduceCtorEq, decide_true, decide_false, Bool.false_eq_true]; rw [bitZ, if_neg (by omega)]
    · simp only [go_sem, List.isEmpty_nil, isC, eq_self, reduceIte, Nat.reduceAdd, Nat.reduceMul, Nat.reduceSub, Nat.reduceLT, Nat.reduceLeDiff, Nat.reduceEqDiff, Nat.reduceDiv, Nat.reduceMod, Nat.reducePow, Nat.reduceBEq, Nat.reduceBNe, Int.reduceLT, Int.reduceLE, Int.reduceGT, Int.reduceGE, Int.reduceBEq, Int.reduceBNe, Int.reduceToNat, Int.reduceAdd, Int.reduceSub, Int.reduceMul, Int.reduceEq, Int.reduceNeg, reduceCtorEq, decide_true, decide_false, Bool.false_eq_true]
  · by_cases h1 : i ≥ 384
    · simp only [L21r1, go_sem, List.isEmpty_nil, isC, eq_self, reduceIte, Nat.reduceAdd, Nat.reduceMul, Nat.reduceSub, Nat.reduceLT, Nat.reduceLeDiff, Nat.reduceEqDiff, Nat.reduceDiv, Nat.reduceMod, Nat.reducePow, Nat.reduceBEq, Nat.reduceBNe, Int.reduceLT, Int.reduceLE, Int.reduceGT, Int.reduceGE, Int.reduceBEq, Int.reduceBNe, Int.reduceToNat, Int.reduceAdd, Int.reduceSub, Int.reduceMul, Int.reduceEq, Int.reduceNeg, reduceCtorEq, decide_true, decide_false, Bool.false_eq_true, ty24, ty22, ty3, h0, h1]
      refine Lwp.cond rfl (fun _ => Lwp.seq (Lwp.region hT ?_)) (fun h => by cases h)
      simp only [L21r2, go_sem, List.isEmpty_nil, isC, eq_self, reduceIte, Nat.reduceAdd, Nat.reduceMul, Nat.reduceSub, Nat.reduceLT, Nat.reduceLeDiff, Nat.reduceEqDiff, Nat.reduceDiv, Nat.reduceMod, Nat.reducePow, Nat.reduceBEq, Nat.reduceBNe, Int.reduceLT, Int.reduceLE, Int.reduceGT, Int.reduceGE, Int.reduceBEq, Int.reduceBNe, Int.reduceToNat, Int.reduceAdd, Int.reduceSub, Int.reduceMul, Int.reduceEq, Int.reduceNeg, reduceCtorEq, decide_true, decide_false, Bool.false_eq_true]
      refine Lwp.ret (post_val (v := .int .u64 (bitZ a i)) ?_ ?_)
      · simp only [go_sem, List.isEmpty_nil, isC, eq_self, reduceIte, Nat.reduceAdd, Nat.reduceMul, Nat.reduceSub, Nat.reduceLT, Nat.reduceLeDiff, Nat.reduceEqDiff, Nat.reduceDiv, Nat.reduceMod, Nat.reducePow, Nat.reduceBEq, Nat.reduceBNe, Int.reduceLT, Int.reduceLE, Int.reduceGT, Int.reduceGE, Int.reduceBEq, Int.reduceBNe, Int.reduceToNat, Int.reduceAdd, Int.reduceSub, Int.reduceMul, Int.reduceEq, Int.reduceNeg, reduceCtorEq, decide_true, decide_false, Bool.false_eq_true]; rw [bitZ, if_neg (by omega)]
      · simp only [go_sem, List.isEmpty_nil, isC, eq_self, reduceIte, Nat.reduceAdd, Nat.reduceMul, Nat.reduceSub, Nat.reduceLT, Nat.reduceLeDiff, Nat.reduceEqDiff, Nat.reduceDiv, Nat.reduceMod, Nat.reducePow, Nat.reduceBEq, Nat.reduceBNe, Int.reduceLT, Int.reduceLE, Int.reduceGT, Int.reduceGE, Int.reduceBEq, Int.reduceBNe, Int.reduceToNat, Int.reduceAdd, Int.reduceSub, Int.reduceMul, Int.reduceEq, Int.reduceNeg, reduceCtorEq, decide_true, decide_false, Bool.false_eq_true]
    · simp only [L21r1, go_sem, List.isEmpty_nil, isC, eq_self, reduceIte, Nat.reduceAdd, Nat.reduceMul, Nat.reduceSub, Nat.reduceLT, Nat.reduceLeDiff, Nat.reduceEqDiff, Nat.reduceDiv, Nat.reduceMod, Nat.reducePow, Nat.reduceBEq, Nat.reduceBNe, Int.reduceLT, Int.reduceLE, Int.reduceGT, Int.reduceGE, Int.reduceBEq, Int.reduceBNe, Int.reduceToNat, Int.reduceAdd, Int.reduceSub, Int.reduceMul, Int.reduceEq, Int.reduceNeg, reduceCtorEq, decide_true, decide_false, Bool.false_eq_true, ty24, ty22, ty3, h0, h1]
      refine Lwp.cond rfl (fun h => by cases h) (fun _ => Lwp.skip ?_)
      simp only [go_sem, List.isEmpty_nil, isC, eq_self, reduceIte, Nat.reduceAdd, Nat.reduceMul, Nat.reduceSub, Nat.reduceLT, Nat.reduceLeDiff, Nat.reduceEqDiff, Nat.reduceDiv, Nat.reduceMod, Nat.reducePow, Nat.reduceBEq, Nat.reduceBNe, Int.reduceLT, Int.reduceLE, Int.reduceGT, Int.reduceGE, Int.reduceBEq, Int.reduceBNe, Int.reduceToNat, Int.reduceAdd, Int.reduceSub, Int.reduceMul, Int.reduceEq, Int.reduceNeg, reduceCtorEq, decide_true, decide_false, Bool.false_eq_true]
      refine Lwp.seq (Lwp.region hT ?_)
      have e1 : IntKind.i64.wrap (i.tdiv 64) = i / 64 := by rw [Int.tdiv_eq_ediv_of_nonneg (by omega)]; exact wrap_i64 (by omega) (by omega)
      have c1 : 0 ≤ i / 64 := by omega
      have c2 : i / 64 < 6 := by omega
      have c3 : (i / 64).toNat < 6 := by omega
      have e2 : i.tmod 64 = i % 64 := Int.tmod_eq_emod_of_nonneg (by omega)
      have c4 : ¬ i % 64 < 0 := by omega
      simp only [L21r3, go_sem, List.isEmpty_nil, isC, eq_self, reduceIte, Nat.reduceAdd, Nat.reduceMul, Nat.reduceSub, Nat.reduceLT, Nat.reduceLeDiff, Nat.reduceEqDiff, Nat.reduceDiv, Nat.reduceMod, Nat.reducePow, Nat.reduceBEq, Nat.reduceBNe, Int.reduceLT, Int.reduceLE, Int.reduceGT, Int.reduceGE, Int.reduceBEq, Int.reduceBNe, Int.reduceToNat, Int.reduceAdd, Int.reduceSub, Int.reduceMul, Int.reduceEq, Int.reduceNeg, reduceCtorEq, decide_true, decide_false, Bool.false_eq_true, ty24, ty22, ty3, e1, c1, c2, c3, e2, c4, hl]
      refine Lwp.ret (post_val (v := .int .u64 (bitZ a i)) ?_ ?_)
      · simp only [go_sem, List.isEmpty_nil, isC, eq_self, reduceIte, Nat.reduceAdd, Nat.reduceMul, Nat.reduceSub, Nat.reduceLT, Nat.reduceLeDiff, Nat.reduceEqDiff, Nat.reduceDiv, Nat.reduceMod, Nat.reducePow, Nat.reduceBEq, Nat.reduceBNe, Int.reduceLT, Int.reduceLE, Int.reduceGT, Int.reduceGE, Int.reduceBEq, Int.reduceBNe, Int.reduceToNat, Int.reduceAdd, Int.reduceSub, Int.reduceMul, Int.reduceEq, Int.reduceNeg, reduceCtorEq, decide_true, decide_false, Bool.false_eq_true]
        exact congrArg (fun x => some (AV.int .u64 x)) (bitZ_run (show U6 a from ⟨hl, hb⟩) (show 0 ≤ i by omega) (show i < 384 by omega))
      · simp only [go_sem, List.isEmpty_nil, isC, eq_self, reduceIte, Nat.reduceAdd, Nat.reduceMul, Nat.reduceSub, Nat.reduceLT, Nat.reduceLeDiff, Nat.reduceEqDiff, Nat.reduceDiv, Nat.reduceMod, Nat.reducePow, Nat.reduceBEq, Nat.reduceBNe, Int.reduceLT, Int.reduceLE, Int.reduceGT, Int.reduceGE, Int.reduceBEq, Int.reduceBNe, Int.reduceToNat, Int.reduceAdd, Int.reduceSub, Int.reduceMul, Int.reduceEq, Int.reduceNeg, reduceCtorEq, decide_true, decide_false, Bool.false_eq_true]
end Eng

namespace Eng
open Go Go.Proofs
set_option linter.unusedSimpArgs false

theorem bitZ_run' {a : List Int} {i : Int} (h : U6 a) (h0 : i ≥ 0) (h1 : i < 384) : (shrZ .u64 (a.getD (i / 64).toNat 0) (i % 64)).tmod 2 = bitZ a i := by
  obtain ⟨b0, b1⟩ := h.at (i / 64).toNat
  have hm : min (i % 64).toNat 64 = i.toNat % 64 := by omega
  have hd : (i / 64).toNat = i.toNat / 64 := by omega
  obtain ⟨s0, s1, s2⟩ := shr_bound b0 b1 (i.toNat % 64)
  rw [shrZ_u64, hm, s0, Int.tmod_eq_emod_of_nonneg s1, bitZ, if_pos ⟨h0, h1⟩, hd]

noncomputable def S3 : List AV → Option Ret := sumOf (fun p : List Int × Int => U6 p.1 ∧ I64 p.2) (fun p => [.agg (ints .u64 p.1), .int .i64 p.2]) (fun _ => ⟨.bool true, none⟩)
theorem S3_eq (a : List Int) (i : Int) (h : U6 a) (hi : I64 i) : S3 [.agg (ints .u64 a), .int .i64 i] = some ⟨.bool true, none⟩ :=
  sumOf_eq (enc := fun p : List Int × Int => [.agg (ints .u64 p.1), .int .i64 p.2]) (out := fun _ => ⟨.bool true, none⟩) (a, i) ⟨h, hi⟩ (fun _ _ _ => rfl)

set_option maxRecDepth 100000 in
theorem snd3 : SndE Try.prog NoG 3 S3 := by
  refine snd_by [(21, S21), (22, S22)] [] Try.func3 (by kernel_rfl) lite3 nt3 rs3 ⟨snd21, snd22, trivial⟩ trivial (fun hT args r h => ?_)
  obtain ⟨⟨a, i⟩, ⟨⟨hl, hb⟩, hi⟩, rfl, rfl⟩ := sumOf_inv h
  clear h
  simp only at hl hb hi
  have hU : U6 a := ⟨hl, hb⟩
  have b0 : bitZ one6 0 = 1 := by decide
  have hI0 : I64 0 := ⟨by decide, by decide⟩
  refine ⟨Nat.le_of_ble_eq_true rfl, fun F => ?_⟩
  unfold L3
  refine Lwp.seq (Lwp.region hT ?_)
  simp only [L3r0, go_sem, List.isEmpty_nil, isC, eq_self, reduceIte, Nat.reduceAdd, Nat.reduceMul, Nat.reduceSub, Nat.reduceLT, Nat.reduceLeDiff, Nat.reduceEqDiff, Nat.reduceDiv, Nat.reduceMod, Nat.reducePow, Nat.reduceBEq, Nat.reduceBNe, Int.reduceLT, Int.reduceLE, Int.reduceGT, Int.reduceGE, Int.reduceBEq, Int.reduceBNe, Int.reduceToNat, Int.reduceAdd, Int.reduceSub, Int.reduceMul, Int.reduceEq, Int.reduceNeg, reduceCtorEq, decide_true, decide_false, Bool.false_eq_true, ty24]
  refine Lwp.seq (Lwp.region hT ?_)
  simp only [L3r1, go_sem, List.isEmpty_nil, isC, eq_self, reduceIte, Nat.reduceAdd, Nat.reduceMul, Nat.reduceSub, Nat.reduceLT, Nat.reduceLeDiff, Nat.reduceEqDiff, Nat.reduceDiv, Nat.reduceMod, Nat.reducePow, Nat.reduceBEq, Nat.reduceBNe, Int.reduceLT, Int.reduceLE, Int.reduceGT, Int.reduceGE, Int.reduceBEq, Int.reduceBNe, Int.reduceToNat, Int.reduceAdd, Int.reduceSub, Int.reduceMul, Int.reduceEq, Int.reduceNeg, reduceCtorEq, decide_true, decide_false, Bool.false_eq_true, ty24]
  -- the rest, from a state where slot 5 holds the bit
  have rest : ∀ (v : Int) (nx : Nat) (env : List (Nat × AV)), v = bitZ a i → find env 5 = some (.int .u64 v) → find env 2 = some (.own 0 0) → find env 1 = some (.int .i64 i) →
      Lwp okDraw (tb Try.prog [(21, S21), (22, S22)] []) F (.seq (.region L3r4) .ret) (Post (tb Try.prog [(21, S21), (22, S22)] []) [.tmp 4] ⟨.bool true, none⟩) { nt := 30, env := env, mem := [(0, ints .u64 a)], next := nx } := by
    intro v nx env hv h5 h2 h1
    refine Lwp.seq (Lwp.region hT ?_)
    simp only [L3r4, go_sem, List.isEmpty_nil, isC, eq_self, reduceIte, Nat.reduceAdd, Nat.reduceMul, Nat.reduceSub, Nat.reduceLT, Nat.reduceLeDiff, Nat.reduceEqDiff, Nat.reduceDiv, Nat.reduceMod, Nat.reducePow, Nat.reduceBEq, Nat.reduceBNe, Int.reduceLT, Int.reduceLE, Int.reduceGT, Int.reduceGE, Int.reduceBEq, Int.reduceBNe, Int.reduceToNat, Int.reduceAdd, Int.reduceSub, Int.reduceMul, Int.reduceEq, Int.reduceNeg, reduceCtorEq, decide_true, decide_false, Bool.false_eq_true, ty24, ty22, h5, h2, h1, S22_eq, S21_eq _ _ U6_one hI0, S21_eq _ _ hU hi, b0, hv, hl, Nat.le_refl]
    refine Lwp.ret (post_val (v := .bool true) ?_ ?_)
    · simp only [go_sem, List.isEmpty_nil, isC, eq_self, reduceIte, Nat.reduceAdd, Nat.reduceMul, Nat.reduceSub, Nat.reduceLT, Nat.reduceLeDiff, Nat.reduceEqDiff, Nat.reduceDiv, Nat.reduceMod, Nat.reducePow, Nat.reduceBEq, Nat.reduceBNe, Int.reduceLT, Int.reduceLE, Int.reduceGT, Int.reduceGE, Int.reduceBEq, Int.reduceBNe, Int.reduceToNat, Int.reduceAdd, Int.reduceSub, Int.reduceMul, Int.reduceEq, Int.reduceNeg, reduceCtorEq, decide_true, decide_false, Bool.false_eq_true]
    · simp only [go_sem, List.isEmpty_nil, isC, eq_self, reduceIte, Nat.reduceAdd, Nat.reduceMul, Nat.reduceSub, Nat.reduceLT, Nat.reduceLeDiff, Nat.reduceEqDiff, Nat.reduceDiv, Nat.reduceMod, Nat.reducePow, Nat.reduceBEq, Nat.reduceBNe, Int.reduceLT, Int.reduceLE, Int.reduceGT, Int.reduceGE, Int.reduceBEq, Int.reduceBNe, Int.reduceToNat, Int.reduceAdd, Int.reduceSub, Int.reduceMul, Int.reduceEq, Int.reduceNeg, reduceCtorEq, decide_true, decide_false, Bool.false_eq_true]
  refine Lwp.seq (Lwp.seq (Lwp.region hT ?_))
  by_cases h0 : i ≥ 0
  · by_cases h1 : i < 384
    · simp only [L3r2, go_sem, List.isEmpty_nil, isC, eq_self, reduceIte, Nat.reduceAdd, Nat.reduceMul, Nat.reduceSub, Nat.reduceLT, Nat.reduceLeDiff, Nat.reduceEqDiff, Nat.reduceDiv, Nat.reduceMod, Nat.reducePow, Nat.reduceBEq, Nat.reduceBNe, Int.reduceLT, Int.reduceLE, Int.reduceGT, Int.reduceGE, Int.reduceBEq, Int.reduceBNe, Int.reduceToNat, Int.reduceAdd, Int.reduceSub, Int.reduceMul, Int.reduceEq, Int.reduceNeg, reduceCtorEq, decide_true, decide_false, Bool.false_eq_true, ty24, ty22, ty3, h0, h1]
      refine Lwp.cond rfl (fun _ => Lwp.region hT ?_) (fun h => by cases h)
      have e1 : IntKind.i64.wrap (i.tdiv 64) = i / 64 := by rw [Int.tdiv_eq_ediv_of_nonneg (by omega)]; exact wrap_i64 (by omega) (by omega)
      have c1 : 0 ≤ i / 64 := by omega
      have c2 : i / 64 < 6 := by omega
      have c3 : (i / 64).toNat < 6 := by omega
      have e2 : i.tmod 64 = i % 64 := Int.tmod_eq_emod_of_nonneg (by omega)
      have c4 : ¬ i % 64 < 0 := by omega
      simp only [L3r3, go_sem, List.isEmpty_nil, isC, eq_self, reduceIte, Nat.reduceAdd, Nat.reduceMul, Nat.reduceSub, Nat.reduceLT, Nat.reduceLeDiff, Nat.reduceEqDiff, Nat.reduceDiv, Nat.reduceMod, Nat.reducePow, Nat.reduceBEq, Nat.reduceBNe, Int.reduceLT, Int.reduceLE, Int.reduceGT, Int.reduceGE, Int.reduceBEq, Int.reduceBNe, Int.reduceToNat, Int.reduceAdd, Int.reduceSub, Int.reduceMul, Int.reduceEq, Int.reduceNeg, reduceCtorEq, decide_true, decide_false, Bool.false_eq_true, ty24, ty22, ty3, e1, c1, c2, c3, e2, c4, hl]
      refine rest _ _ _ ?_ rfl rfl rfl
      exact bitZ_run' hU h0 h1
    · simp only [L3r2, go_sem, List.isEmpty_nil, isC, eq_self, reduceIte, Nat.reduceAdd, Nat.reduceMul, Nat.reduceSub, Nat.reduceLT, Nat.reduceLeDiff, Nat.reduceEqDiff, Nat.reduceDiv, Nat.reduceMod, Nat.reducePow, Nat.reduceBEq, Nat.reduceBNe, Int.reduceLT, Int.reduceLE, Int.reduceGT, Int.reduceGE, Int.reduceBEq, Int.reduceBNe, Int.reduceToNat, Int.reduceAdd, Int.reduceSub, Int.reduceMul, Int.reduceEq, Int.reduceNeg, reduceCtorEq, decide_true, decide_false, Bool.false_eq_true, ty24, ty22, ty3, h0, h1]
      refine Lwp.cond rfl (fun h => by cases h) (fun _ => Lwp.skip ?_)
      simp only [go_sem, List.isEmpty_nil, isC, eq_self, reduceIte, Nat.reduceAdd, Nat.reduceMul, Nat.reduceSub, Nat.reduceLT, Nat.reduceLeDiff, Nat.reduceEqDiff, Nat.reduceDiv, Nat.reduceMod, Nat.reducePow, Nat.reduceBEq, Nat.reduceBNe, Int.reduceLT, Int.reduceLE, Int.reduceGT, Int.reduceGE, Int.reduceBEq, Int.reduceBNe, Int.reduceToNat, Int.reduceAdd, Int.reduceSub, Int.reduceMul, Int.reduceEq, Int.reduceNeg, reduceCtorEq, decide_true, decide_false, Bool.false_eq_true]
      refine rest _ _ _ ?_ rfl rfl rfl
      rw [bitZ, if_neg (by omega)]
  · simp only [L3r2, go_sem, List.isEmpty_nil, isC, eq_self, reduceIte, Nat.reduceAdd, Nat.reduceMul, Nat.reduceSub, Nat.reduceLT, Nat.reduceLeDiff, Nat.reduceEqDiff, Nat.reduceDiv, Nat.reduceMod, Nat.reducePow, Nat.reduceBEq, Nat.reduceBNe, Int.reduceLT, Int.reduceLE, Int.reduceGT, Int.reduceGE, Int.reduceBEq, Int.reduceBNe, Int.reduceToNat, Int.reduceAdd, Int.reduceSub, Int.reduceMul, Int.reduceEq, Int.reduceNeg, reduceCtorEq, decide_true, decide_false, Bool.false_eq_true, ty24, ty22, ty3, h0]
    refine Lwp.cond rfl (fun h => by cases h) (fun _ => Lwp.skip ?_)
    simp only [go_sem, List.isEmpty_nil, isC, eq_self, reduceIte, Nat.reduceAdd, Nat.reduceMul, Nat.reduceSub, Nat.reduceLT, Nat.reduceLeDiff, Nat.reduceEqDiff, Nat.reduceDiv, Nat.reduceMod, Nat.reducePow, Nat.reduceBEq, Nat.reduceBNe, Int.reduceLT, Int.reduceLE, Int.reduceGT, Int.reduceGE, Int.reduceBEq, Int.reduceBNe, Int.reduceToNat, Int.reduceAdd, Int.reduceSub, Int.reduceMul, Int.reduceEq, Int.reduceNeg, reduceCtorEq, decide_true, decide_false, Bool.false_eq_true]
    refine rest _ _ _ ?_ rfl rfl rfl
    rw [bitZ, if_neg (by omega)]
end Eng

namespace Eng
open Go Go.Proofs
set_option linter.unusedSimpArgs false
-- TY: ty3, ty22, ty24

def maskZ (n : Int) : Int := IntKind.u64.wrap (0 - andZ .u64 n 1)
def pickZ (n : Int) (a b : List Int) (j : Nat) : Int := orZ .u64 (andNotZ .u64 (a.getD j 0) (maskZ n)) (andZ .u64 (b.getD j 0) (maskZ n))
noncomputable def S23 : List AV → Option Ret := sumOf (fun p : Int × List Int × List Int => U6 p.2.1 ∧ U6 p.2.2) (fun p => [.int .u64 p.1, .agg (ints .u64 p.2.1), .agg (ints .u64 p.2.2)]) (fun p => ⟨.agg (ints .u64 (tab 6 (pickZ p.1 p.2.1 p.2.2))), none⟩)
theorem S23_eq (n : Int) (a b : List Int) (h : U6 a) (hb : U6 b) : S23 [.int .u64 n, .agg (ints .u64 a), .agg (ints .u64 b)] = some ⟨.agg (ints .u64 (tab 6 (pickZ n a b))), none⟩ :=
  sumOf_eq (enc := fun p : Int × List Int × List Int => [.int .u64 p.1, .agg (ints .u64 p.2.1), .agg (ints .u64 p.2.2)]) (out := fun p : Int × List Int × List Int => ⟨.agg (ints .u64 (tab 6 (pickZ p.1 p.2.1 p.2.2))), none⟩) (n, a, b) ⟨h, hb⟩ (fun y _ e => by
    simp only [List.cons.injEq, AV.agg.injEq, AV.int.injEq, true_and, and_true] at e
    rw [e.1, ints_inj e.2.1, ints_inj e.2.2])

set_option maxRecDepth 100000 in
theorem snd23 : SndE Try.prog NoG 23 S23 := by
  refine snd_by [] [] Try.func23 (by kernel_rfl) lite23 nt23 rs23 trivial trivial (fun hT args r h => ?_)
  obtain ⟨⟨n, a, b⟩, ⟨⟨hl, hb⟩, hl', hb'⟩, rfl, rfl⟩ := sumOf_inv h
  clear h
  simp only at hl hb hl' hb'
  have hM := hM0
  refine ⟨Nat.le_of_ble_eq_true rfl, fun F => ?_⟩
  unfold L23
  refine Lwp.seq (Lwp.regI hT ?_)
  simp only [L23r0, go_sem, List.isEmpty_nil, isC, eq_self, reduceIte, Nat.reduceAdd, Nat.reduceMul, Nat.reduceSub, Nat.reduceLT, Nat.reduceLeDiff, Nat.reduceEqDiff, Nat.reduceDiv, Nat.reduceMod, Nat.reducePow, Nat.reduceBEq, Nat.reduceBNe, Int.reduceLT, Int.reduceLE, Int.reduceGT, Int.reduceGE, Int.reduceBEq, Int.reduceBNe, Int.reduceToNat, Int.reduceAdd, Int.reduceSub, Int.reduceMul, Int.reduceEq, Int.reduceNeg, reduceCtorEq, decide_true, decide_false, Bool.false_eq_true, ty3, ty22, ty24]
  refine Lwp.seq (Lwp.regI hT ?_)
  simp only [L23r1, go_sem, List.isEmpty_nil, isC, eq_self, reduceIte, Nat.reduceAdd, Nat.reduceMul, Nat.reduceSub, Nat.reduceLT, Nat.reduceLeDiff, Nat.reduceEqDiff, Nat.reduceDiv, Nat.reduceMod, Nat.reducePow, Nat.reduceBEq, Nat.reduceBNe, Int.reduceLT, Int.reduceLE, Int.reduceGT, Int.reduceGE, Int.reduceBEq, Int.reduceBNe, Int.reduceToNat, Int.reduceAdd, Int.reduceSub, Int.reduceMul, Int.reduceEq, Int.reduceNeg, reduceCtorEq, decide_true, decide_false, Bool.false_eq_true, ty3, ty22, ty24]
  refine Lwp.seq (Lwp.regI hT ?_)
  simp only [L23r2, go_sem, List.isEmpty_nil, isC, eq_self, reduceIte, Nat.reduceAdd, Nat.reduceMul, Nat.reduceSub, Nat.reduceLT, Nat.reduceLeDiff, Nat.reduceEqDiff, Nat.reduceDiv, Nat.reduceMod, Nat.reducePow, Nat.reduceBEq, Nat.reduceBNe, Int.reduceLT, Int.reduceLE, Int.reduceGT, Int.reduceGE, Int.reduceBEq, Int.reduceBNe, Int.reduceToNat, Int.reduceAdd, Int.reduceSub, Int.reduceMul, Int.reduceEq, Int.reduceNeg, reduceCtorEq, decide_true, decide_false, Bool.false_eq_true, ty3, ty22, ty24]
  refine Lwp.seq ?_
  refine Lwp.seq (Lwp.regI hT ?_)
  simp only [L23r3, go_sem, List.isEmpty_nil, isC, eq_self, reduceIte, Nat.reduceAdd, Nat.reduceMul, Nat.reduceSub, Nat.reduceLT, Nat.reduceLeDiff, Nat.reduceEqDiff, Nat.reduceDiv, Nat.reduceMod, Nat.reducePow, Nat.reduceBEq, Nat.reduceBNe, Int.reduceLT, Int.reduceLE, Int.reduceGT, Int.reduceGE, Int.reduceBEq, Int.reduceBNe, Int.reduceToNat, Int.reduceAdd, Int.reduceSub, Int.reduceMul, Int.reduceEq, Int.reduceNeg, reduceCtorEq, decide_true, decide_false, Bool.false_eq_true, ty3, ty22, ty24]
  refine Lwp.block (Lwp.range (fun i => { nt := 31, env := [(4, .own 0 0), (5, .own 1 0), (6, .own 2 0), (7, .int .u64 (maskZ n)), (8, .own 7 0), (13, .int .i64 i)], mem := [(0, ints .u64 a), (1, ints .u64 b), (2, ints .u64 (List.replicate 6 0)), (7, ints .u64 (upto 6 (pickZ n a b) i))], next := 20 }) 6 ?_ (fun i hi => ?_) ?_)
  · refine weak_of rfl ?_ ?_ ?_
    · (simp only [go_sem, List.isEmpty_nil, isC, eq_self, reduceIte, Nat.reduceAdd, Nat.reduceMul, Nat.reduceSub, Nat.reduceLT, Nat.reduceLeDiff, Nat.reduceEqDiff, Nat.reduceDiv, Nat.reduceMod, Nat.reducePow, Nat.reduceBEq, Nat.reduceBNe, Int.reduceLT, Int.reduceLE, Int.reduceGT, Int.reduceGE, Int.reduceBEq, Int.reduceBNe, Int.reduceToNat, Int.reduceAdd, Int.reduceSub, Int.reduceMul, Int.reduceEq, Int.reduceNeg, reduceCtorEq, decide_true, decide_false, Bool.false_eq_true, maskZ, upto_zero]; try rfl)
    · (simp only [go_sem, List.isEmpty_nil, isC, eq_self, reduceIte, Nat.reduceAdd, Nat.reduceMul, Nat.reduceSub, Nat.reduceLT, Nat.reduceLeDiff, Nat.reduceEqDiff, Nat.reduceDiv, Nat.reduceMod, Nat.reducePow, Nat.reduceBEq, Nat.reduceBNe, Int.reduceLT, Int.reduceLE, Int.reduceGT, Int.reduceGE, Int.reduceBEq, Int.reduceBNe, Int.reduceToNat, Int.reduceAdd, Int.reduceSub, Int.reduceMul, Int.reduceEq, Int.reduceNeg, reduceCtorEq, decide_true, decide_false, Bool.false_eq_true, maskZ, upto_zero]; try rfl)
    · (simp only [go_sem, List.isEmpty_nil, isC, eq_self, reduceIte, Nat.reduceAdd, Nat.reduceMul, Nat.reduceSub, Nat.reduceLT, Nat.reduceLeDiff, Nat.reduceEqDiff, Nat.reduceDiv, Nat.reduceMod, Nat.reducePow, Nat.reduceBEq, Nat.reduceBNe, Int.reduceLT, Int.reduceLE, Int.reduceGT, Int.reduceGE, Int.reduceBEq, Int.reduceBNe, Int.reduceToNat, Int.reduceAdd, Int.reduceSub, Int.reduceMul, Int.reduceEq, Int.reduceNeg, reduceCtorEq, decide_true, decide_false, Bool.false_eq_true, maskZ, upto_zero]; try rfl)
  · have h1 : (i : Int) < 6 := by omega
    refine Lwp.seq (Lwp.regI hT ?_)
    simp only [L23r4, go_sem, List.isEmpty_nil, isC, eq_self, reduceIte, Nat.reduceAdd, Nat.reduceMul, Nat.reduceSub, Nat.reduceLT, Nat.reduceLeDiff, Nat.reduceEqDiff, Nat.reduceDiv, Nat.reduceMod, Nat.reducePow, Nat.reduceBEq, Nat.reduceBNe, Int.reduceLT, Int.reduceLE, Int.reduceGT, Int.reduceGE, Int.reduceBEq, Int.reduceBNe, Int.reduceToNat, Int.reduceAdd, Int.reduceSub, Int.reduceMul, Int.reduceEq, Int.reduceNeg, reduceCtorEq, decide_true, decide_false, Bool.false_eq_true, ty3, ty22, ty24, h1]
    refine Lwp.seq (Lwp.cond rfl (fun _ => Lwp.skip ?_) (fun h => by cases h))
    refine Lwp.seq (Lwp.block ?_)
    refine Lwp.seq (Lwp.regI hT ?_)
    simp only [L23r5, go_sem, List.isEmpty_nil, isC, eq_self, reduceIte, Nat.reduceAdd, Nat.reduceMul, Nat.reduceSub, Nat.reduceLT, Nat.reduceLeDiff, Nat.reduceEqDiff, Nat.reduceDiv, Nat.reduceMod, Nat.reducePow, Nat.reduceBEq, Nat.reduceBNe, Int.reduceLT, Int.reduceLE, Int.reduceGT, Int.reduceGE, Int.reduceBEq, Int.reduceBNe, Int.reduceToNat, Int.reduceAdd, Int.reduceSub, Int.reduceMul, Int.reduceEq, Int.reduceNeg, reduceCtorEq, decide_true, decide_false, Bool.false_eq_true, ty3, ty22, ty24]
    have h2 : (0 : Int) ≤ i := by omega
    have h3 : i ≤ 5 := by omega
    have h4 := wrap_succ hi (by decide)
    have h5 := upto_set 6 (pickZ n a b) i _ rfl
    refine Lwp.regD hT hM ?_
    simp only [L23r6, go_sem, List.isEmpty_nil, isC, eq_self, reduceIte, Nat.reduceAdd, Nat.reduceMul, Nat.reduceSub, Nat.reduceLT, Nat.reduceLeDiff, Nat.reduceEqDiff, Nat.reduceDiv, Nat.reduceMod, Nat.reducePow, Nat.reduceBEq, Nat.reduceBNe, Int.reduceLT, Int.reduceLE, Int.reduceGT, Int.reduceGE, Int.reduceBEq, Int.reduceBNe, Int.reduceToNat, Int.reduceAdd, Int.reduceSub, Int.reduceMul, Int.reduceEq, Int.reduceNeg, reduceCtorEq, decide_true, decide_false, Bool.false_eq_true, ty3, ty22, ty24, h1, h2, h3, hl, hl', hi, upto_len]
    refine Lwp.regI hT ?_
    simp only [L23r7, go_sem, List.isEmpty_nil, isC, eq_self, reduceIte, Nat.reduceAdd, Nat.reduceMul, Nat.reduceSub, Nat.reduceLT, Nat.reduceLeDiff, Nat.reduceEqDiff, Nat.reduceDiv, Nat.reduceMod, Nat.reducePow, Nat.reduceBEq, Nat.reduceBNe, Int.reduceLT, Int.reduceLE, Int.reduceGT, Int.reduceGE, Int.reduceBEq, Int.reduceBNe, Int.reduceToNat, Int.reduceAdd, Int.reduceSub, Int.reduceMul, Int.reduceEq, Int.reduceNeg, reduceCtorEq, decide_true, decide_false, Bool.false_eq_true, ty3, ty22, ty24, h4]
    refine weak_of rfl ?_ ?_ ?_
    · (simp only [go_sem, List.isEmpty_nil, isC, eq_self, reduceIte, Nat.reduceAdd, Nat.reduceMul, Nat.reduceSub, Nat.reduceLT, Nat.reduceLeDiff, Nat.reduceEqDiff, Nat.reduceDiv, Nat.reduceMod, Nat.reducePow, Nat.reduceBEq, Nat.reduceBNe, Int.reduceLT, Int.reduceLE, Int.reduceGT, Int.reduceGE, Int.reduceBEq, Int.reduceBNe, Int.reduceToNat, Int.reduceAdd, Int.reduceSub, Int.reduceMul, Int.reduceEq, Int.reduceNeg, reduceCtorEq, decide_true, decide_false, Bool.false_eq_true, ← h5, pickZ]; try rfl)
    · (simp only [go_sem, List.isEmpty_nil, isC, eq_self, reduceIte, Nat.reduceAdd, Nat.reduceMul, Nat.reduceSub, Nat.reduceLT, Nat.reduceLeDiff, Nat.reduceEqDiff, Nat.reduceDiv, Nat.reduceMod, Nat.reducePow, Nat.reduceBEq, Nat.reduceBNe, Int.reduceLT, Int.reduceLE, Int.reduceGT, Int.reduceGE, Int.reduceBEq, Int.reduceBNe, Int.reduceToNat, Int.reduceAdd, Int.reduceSub, Int.reduceMul, Int.reduceEq, Int.reduceNeg, reduceCtorEq, decide_true, decide_false, Bool.false_eq_true, ← h5, pickZ]; try rfl)
    · (simp only [go_sem, List.isEmpty_nil, isC, eq_self, reduceIte, Nat.reduceAdd, Nat.reduceMul, Nat.reduceSub, Nat.reduceLT, Nat.reduceLeDiff, Nat.reduceEqDiff, Nat.reduceDiv, Nat.reduceMod, Nat.reducePow, Nat.reduceBEq, Nat.reduceBNe, Int.reduceLT, Int.reduceLE, Int.reduceGT, Int.reduceGE, Int.reduceBEq, Int.reduceBNe, Int.reduceToNat, Int.reduceAdd, Int.reduceSub, Int.reduceMul, Int.reduceEq, Int.reduceNeg, reduceCtorEq, decide_true, decide_false, Bool.false_eq_true, ← h5, pickZ]; try rfl)
  · refine Lwp.seq (Lwp.regI hT ?_)
    simp only [L23r4, go_sem, List.isEmpty_nil, isC, eq_self, reduceIte, Nat.reduceAdd, Nat.reduceMul, Nat.reduceSub, Nat.reduceLT, Nat.reduceLeDiff, Nat.reduceEqDiff, Nat.reduceDiv, Nat.reduceMod, Nat.reducePow, Nat.reduceBEq, Nat.reduceBNe, Int.reduceLT, Int.reduceLE, Int.reduceGT, Int.reduceGE, Int.reduceBEq, Int.reduceBNe, Int.reduceToNat, Int.reduceAdd, Int.reduceSub, Int.reduceMul, Int.reduceEq, Int.reduceNeg, reduceCtorEq, decide_true, decide_false, Bool.false_eq_true, ty3, ty22, ty24]
    refine Lwp.seq (Lwp.cond rfl (fun h => by cases h) (fun _ => Lwp.exit ?_))
    simp only [go_sem, List.isEmpty_nil, isC, eq_self, reduceIte, Nat.reduceAdd, Nat.reduceMul, Nat.reduceSub, Nat.reduceLT, Nat.reduceLeDiff, Nat.reduceEqDiff, Nat.reduceDiv, Nat.reduceMod, Nat.reducePow, Nat.reduceBEq, Nat.reduceBNe, Int.reduceLT, Int.reduceLE, Int.reduceGT, Int.reduceGE, Int.reduceBEq, Int.reduceBNe, Int.reduceToNat, Int.reduceAdd, Int.reduceSub, Int.reduceMul, Int.reduceEq, Int.reduceNeg, reduceCtorEq, decide_true, decide_false, Bool.false_eq_true]
    refine Lwp.seq (Lwp.regI hT ?_)
    simp only [L23r8, go_sem, List.isEmpty_nil, isC, eq_self, reduceIte, Nat.reduceAdd, Nat.reduceMul, Nat.reduceSub, Nat.reduceLT, Nat.reduceLeDiff, Nat.reduceEqDiff, Nat.reduceDiv, Nat.reduceMod, Nat.reducePow, Nat.reduceBEq, Nat.reduceBNe, Int.reduceLT, Int.reduceLE, Int.reduceGT, Int.reduceGE, Int.reduceBEq, Int.reduceBNe, Int.reduceToNat, Int.reduceAdd, Int.reduceSub, Int.reduceMul, Int.reduceEq, Int.reduceNeg, reduceCtorEq, decide_true, decide_false, Bool.false_eq_true, ty3, ty22, ty24, upto_len]
    refine Lwp.ret (post_val (v := .agg (ints .u64 (tab 6 (pickZ n a b)))) ?_ ?_)
    · simp only [go_sem, List.isEmpty_nil, isC, eq_self, reduceIte, Nat.reduceAdd, Nat.reduceMul, Nat.reduceSub, Nat.reduceLT, Nat.reduceLeDiff, Nat.reduceEqDiff, Nat.reduceDiv, Nat.reduceMod, Nat.reducePow, Nat.reduceBEq, Nat.reduceBNe, Int.reduceLT, Int.reduceLE, Int.reduceGT, Int.reduceGE, Int.reduceBEq, Int.reduceBNe, Int.reduceToNat, Int.reduceAdd, Int.reduceSub, Int.reduceMul, Int.reduceEq, Int.reduceNeg, reduceCtorEq, decide_true, decide_false, Bool.false_eq_true, ty24, upto_full, tab_len]
    · simp only [go_sem, List.isEmpty_nil, isC, eq_self, reduceIte, Nat.reduceAdd, Nat.reduceMul, Nat.reduceSub, Nat.reduceLT, Nat.reduceLeDiff, Nat.reduceEqDiff, Nat.reduceDiv, Nat.reduceMod, Nat.reducePow, Nat.reduceBEq, Nat.reduceBNe, Int.reduceLT, Int.reduceLE, Int.reduceGT, Int.reduceGE, Int.reduceBEq, Int.reduceBNe, Int.reduceToNat, Int.reduceAdd, Int.reduceSub, Int.reduceMul, Int.reduceEq, Int.reduceNeg, reduceCtorEq, decide_true, decide_false, Bool.false_eq_true]
end Eng

namespace Eng
open Go Go.Proofs
set_option linter.unusedSimpArgs false
-- TY: ty3, ty22, ty24, eq24


theorem maskZ_even {n : Int} (h0 : 0 ≤ n) (h1 : n < 18446744073709551616) (h : n % 2 = 0) : maskZ n = 0 := by
  rw [maskZ, andZ_one h0 h1, h]; rfl
theorem maskZ_odd {n : Int} (h0 : 0 ≤ n) (h1 : n < 18446744073709551616) (h : n % 2 = 1) : maskZ n = 18446744073709551615 := by
  rw [maskZ, andZ_one h0 h1, h]; rfl
theorem pickZ_even {n : Int} {a b : List Int} {j : Nat} (h : maskZ n = 0) (ha : U6 a) : pickZ n a b j = a.getD j 0 := by
  have hx := ha.at j
  rw [pickZ, h]
  simp only [orZ_u64, andZ_u64, andNotZ_u64, ofInt_bv]
  rw [show BitVec.ofInt 64 0 = 0#64 from rfl]
  simp only [BitVec.and_zero, BitVec.or_zero, BitVec.not_zero, BitVec.and_allOnes]
  exact bv_ofInt hx.1 hx.2
theorem pickZ_odd {n : Int} {a b : List Int} {j : Nat} (h : maskZ n = 18446744073709551615) (hb : U6 b) : pickZ n a b j = b.getD j 0 := by
  have hx := hb.at j
  rw [pickZ, h]
  simp only [orZ_u64, andZ_u64, andNotZ_u64, ofInt_bv]
  rw [show BitVec.ofInt 64 18446744073709551615 = BitVec.allOnes 64 from rfl]
  simp only [BitVec.not_allOnes, BitVec.and_zero, BitVec.zero_or, BitVec.and_allOnes]
  exact bv_ofInt hx.1 hx.2
theorem tab_self {n : Nat} {a : List Int} (h : a.length = n) {f : Nat → Int} (hf : ∀ j, f j = a.getD j 0) : tab n f = a := (eq_tab h fun i _ => (hf i).symm).symm
theorem pick_eq {n : Int} {a b : List Int} (h0 : 0 ≤ n) (h1 : n < 18446744073709551616) (ha : U6 a) (hb : U6 b) : tab 6 (pickZ n a b) = if n % 2 = 1 then b else a := by
  split
  · rename_i h; exact tab_self hb.1 fun j => pickZ_odd (maskZ_odd h0 h1 h) hb
  · rename_i h; exact tab_self ha.1 fun j => pickZ_even (maskZ_even h0 h1 (by omega)) ha

noncomputable def S4 : List AV → Option Ret := sumOf (fun p : Int × List Int × List Int => U64 p.1 ∧ U6 p.2.1 ∧ U6 p.2.2) (fun p => [.int .u64 p.1, .agg (ints .u64 p.2.1), .agg (ints .u64 p.2.2)]) (fun _ => ⟨.bool true, none⟩)
theorem S4_eq (n : Int) (a b : List Int) (h0 : U64 n) (h : U6 a) (hb : U6 b) : S4 [.int .u64 n, .agg (ints .u64 a), .agg (ints .u64 b)] = some ⟨.bool true, none⟩ :=
  sumOf_eq (enc := fun p : Int × List Int × List Int => [.int .u64 p.1, .agg (ints .u64 p.2.1), .agg (ints .u64 p.2.2)]) (out := fun _ => ⟨.bool true, none⟩) (n, a, b) ⟨h0, h, hb⟩ (fun _ _ _ => rfl)

set_option maxRecDepth 100000 in
theorem snd4 : SndE Try.prog NoG 4 S4 := by
  refine snd_by [(22, S22), (23, S23)] [] Try.func4 (by kernel_rfl) lite4 nt4 rs4 ⟨snd22, snd23, trivial⟩ trivial (fun hT args r h => ?_)
  obtain ⟨⟨n, a, b⟩, ⟨⟨hn, hn'⟩, ha, hb⟩, rfl, rfl⟩ := sumOf_inv h
  clear h
  simp only at hn hn' ha hb
  have hM := hM0
  have hl := ha.1
  have hl' := hb.1
  have f1 : S23 [.int .u64 0, .agg (ints .u64 one6), .agg (ints .u64 (List.replicate 6 0))] = some ⟨.agg (ints .u64 one6), none⟩ := by rw [S23_eq _ _ _ U6_one U6_zero, pick_eq (by decide) (by decide) U6_one U6_zero]; rfl
  have f2 : S23 [.int .u64 n, .agg (ints .u64 a), .agg (ints .u64 b)] = some ⟨.agg (ints .u64 (if n % 2 = 1 then b else a)), none⟩ := by rw [S23_eq _ _ _ ha hb, pick_eq hn hn' ha hb]
  have e1 : n.tmod 2 = n % 2 := Int.tmod_eq_emod_of_nonneg hn
  refine ⟨Nat.le_of_ble_eq_true rfl, fun F => ?_⟩
  unfold L4
  refine Lwp.seq (Lwp.regI hT ?_)
  simp only [L4r0, go_sem, List.isEmpty_nil, isC, eq_self, reduceIte, Nat.reduceAdd, Nat.reduceMul, Nat.reduceSub, Nat.reduceLT, Nat.reduceLeDiff, Nat.reduceEqDiff, Nat.reduceDiv, Nat.reduceMod, Nat.reducePow, Nat.reduceBEq, Nat.reduceBNe, Int.reduceLT, Int.reduceLE, Int.reduceGT, Int.reduceGE, Int.reduceBEq, Int.reduceBNe, Int.reduceToNat, Int.reduceAdd, Int.reduceSub, Int.reduceMul, Int.reduceEq, Int.reduceNeg, reduceCtorEq, decide_true, decide_false, Bool.false_eq_true, ty3, ty22, ty24, eq24]
  refine Lwp.seq (Lwp.regI hT ?_)
  simp only [L4r1, go_sem, List.isEmpty_nil, isC, eq_self, reduceIte, Nat.reduceAdd, Nat.reduceMul, Nat.reduceSub, Nat.reduceLT, Nat.reduceLeDiff, Nat.reduceEqDiff, Nat.reduceDiv, Nat.reduceMod, Nat.reducePow, Nat.reduceBEq, Nat.reduceBNe, Int.reduceLT, Int.reduceLE, Int.reduceGT, Int.reduceGE, Int.reduceBEq, Int.reduceBNe, Int.reduceToNat, Int.reduceAdd, Int.reduceSub, Int.reduceMul, Int.reduceEq, Int.reduceNeg, reduceCtorEq, decide_true, decide_false, Bool.false_eq_true, ty3, ty22, ty24, eq24, hl]
  refine Lwp.seq (Lwp.seq (Lwp.region hT ?_))
  by_cases hp : n % 2 = 1
  · simp only [L4r2, go_sem, List.isEmpty_nil, isC, eq_self, reduceIte, Nat.reduceAdd, Nat.reduceMul, Nat.reduceSub, Nat.reduceLT, Nat.reduceLeDiff, Nat.reduceEqDiff, Nat.reduceDiv, Nat.reduceMod, Nat.reducePow, Nat.reduceBEq, Nat.reduceBNe, Int.reduceLT, Int.reduceLE, Int.reduceGT, Int.reduceGE, Int.reduceBEq, Int.reduceBNe, Int.reduceToNat, Int.reduceAdd, Int.reduceSub, Int.reduceMul, Int.reduceEq, Int.reduceNeg, reduceCtorEq, decide_true, decide_false, Bool.false_eq_true, ty3, ty22, ty24, e1, hp]
    refine Lwp.cond rfl (fun _ => Lwp.region hT ?_) (fun h => by cases h)
    simp only [L4r3, go_sem, List.isEmpty_nil, isC, eq_self, reduceIte, Nat.reduceAdd, Nat.reduceMul, Nat.reduceSub, Nat.reduceLT, Nat.reduceLeDiff, Nat.reduceEqDiff, Nat.reduceDiv, Nat.reduceMod, Nat.reducePow, Nat.reduceBEq, Nat.reduceBNe, Int.reduceLT, Int.reduceLE, Int.reduceGT, Int.reduceGE, Int.reduceBEq, Int.reduceBNe, Int.reduceToNat, Int.reduceAdd, Int.reduceSub, Int.reduceMul, Int.reduceEq, Int.reduceNeg, reduceCtorEq, decide_true, decide_false, Bool.false_eq_true, ty3, ty22, ty24, hl, hl']
    refine Lwp.seq (Lwp.regD hT hM ?_)
    simp only [L4r4, go_sem, List.isEmpty_nil, isC, eq_self, reduceIte, Nat.reduceAdd, Nat.reduceMul, Nat.reduceSub, Nat.reduceLT, Nat.reduceLeDiff, Nat.reduceEqDiff, Nat.reduceDiv, Nat.reduceMod, Nat.reducePow, Nat.reduceBEq, Nat.reduceBNe, Int.reduceLT, Int.reduceLE, Int.reduceGT, Int.reduceGE, Int.reduceBEq, Int.reduceBNe, Int.reduceToNat, Int.reduceAdd, Int.reduceSub, Int.reduceMul, Int.reduceEq, Int.reduceNeg, reduceCtorEq, decide_true, decide_false, Bool.false_eq_true, ty3, ty22, ty24, eq24, S22_eq, f1, f2, hl, hl', hp]
    refine Lwp.ret (post_val (v := .bool true) ?_ ?_)
    · simp only [go_sem, List.isEmpty_nil, isC, eq_self, reduceIte, Nat.reduceAdd, Nat.reduceMul, Nat.reduceSub, Nat.reduceLT, Nat.reduceLeDiff, Nat.reduceEqDiff, Nat.reduceDiv, Nat.reduceMod, Nat.reducePow, Nat.reduceBEq, Nat.reduceBNe, Int.reduceLT, Int.reduceLE, Int.reduceGT, Int.reduceGE, Int.reduceBEq, Int.reduceBNe, Int.reduceToNat, Int.reduceAdd, Int.reduceSub, Int.reduceMul, Int.reduceEq, Int.reduceNeg, reduceCtorEq, decide_true, decide_false, Bool.false_eq_true]
    · simp only [go_sem, List.isEmpty_nil, isC, eq_self, reduceIte, Nat.reduceAdd, Nat.reduceMul, Nat.reduceSub, Nat.reduceLT, Nat.reduceLeDiff, Nat.reduceEqDiff, Nat.reduceDiv, Nat.reduceMod, Nat.reducePow, Nat.reduceBEq, Nat.reduceBNe, Int.reduceLT, Int.reduceLE, Int.reduceGT, Int.reduceGE, Int.reduceBEq, Int.reduceBNe, Int.reduceToNat, Int.reduceAdd, Int.reduceSub, Int.reduceMul, Int.reduceEq, Int.reduceNeg, reduceCtorEq, decide_true, decide_false, Bool.false_eq_true]
  · simp only [L4r2, go_sem, List.isEmpty_nil, isC, eq_self, reduceIte, Nat.reduceAdd, Nat.reduceMul, Nat.reduceSub, Nat.reduceLT, Nat.reduceLeDiff, Nat.reduceEqDiff, Nat.reduceDiv, Nat.reduceMod, Nat.reducePow, Nat.reduceBEq, Nat.reduceBNe, Int.reduceLT, Int.reduceLE, Int.reduceGT, Int.reduceGE, Int.reduceBEq, Int.reduceBNe, Int.reduceToNat, Int.reduceAdd, Int.reduceSub, Int.reduceMul, Int.reduceEq, Int.reduceNeg, reduceCtorEq, decide_true, decide_false, Bool.false_eq_true, ty3, ty22, ty24, e1, hp, show (n % 2 == 1) = false from by simp [hp]]
    refine Lwp.cond rfl (fun h => by cases h) (fun _ => Lwp.skip ?_)
    simp only [go_sem, List.isEmpty_nil, isC, eq_self, reduceIte, Nat.reduceAdd, Nat.reduceMul, Nat.reduceSub, Nat.reduceLT, Nat.reduceLeDiff, Nat.reduceEqDiff, Nat.reduceDiv, Nat.reduceMod, Nat.reducePow, Nat.reduceBEq, Nat.reduceBNe, Int.reduceLT, Int.reduceLE, Int.reduceGT, Int.reduceGE, Int.reduceBEq, Int.reduceBNe, Int.reduceToNat, Int.reduceAdd, Int.reduceSub, Int.reduceMul, Int.reduceEq, Int.reduceNeg, reduceCtorEq, decide_true, decide_false, Bool.false_eq_true]
    refine Lwp.seq (Lwp.regD hT hM ?_)
    simp only [L4r4, go_sem, List.isEmpty_nil, isC, eq_self, reduceIte, Nat.reduceAdd, Nat.reduceMul, Nat.reduceSub, Nat.reduceLT, Nat.reduceLeDiff, Nat.reduceEqDiff, Nat.reduceDiv, Nat.reduceMod, Nat.reducePow, Nat.reduceBEq, Nat.reduceBNe, Int.reduceLT, Int.reduceLE, Int.reduceGT, Int.reduceGE, Int.reduceBEq, Int.reduceBNe, Int.reduceToNat, Int.reduceAdd, Int.reduceSub, Int.reduceMul, Int.reduceEq, Int.reduceNeg, reduceCtorEq, decide_true, decide_false, Bool.false_eq_true, ty3, ty22, ty24, eq24, S22_eq, f1, f2, hl, hl', hp]
    refine Lwp.ret (post_val (v := .bool true) ?_ ?_)
    · simp only [go_sem, List.isEmpty_nil, isC, eq_self, reduceIte, Nat.reduceAdd, Nat.reduceMul, Nat.reduceSub, Nat.reduceLT, Nat.reduceLeDiff, Nat.reduceEqDiff, Nat.reduceDiv, Nat.reduceMod, Nat.reducePow, Nat.reduceBEq, Nat.reduceBNe, Int.reduceLT, Int.reduceLE, Int.reduceGT, Int.reduceGE, Int.reduceBEq, Int.reduceBNe, Int.reduceToNat, Int.reduceAdd, Int.reduceSub, Int.reduceMul, Int.reduceEq, Int.reduceNeg, reduceCtorEq, decide_true, decide_false, Bool.false_eq_true]
    · simp only [go_sem, List.isEmpty_nil, isC, eq_self, reduceIte, Nat.reduceAdd, Nat.reduceMul, Nat.reduceSub, Nat.reduceLT, Nat.reduceLeDiff, Nat.reduceEqDiff, Nat.reduceDiv, Nat.reduceMod, Nat.reducePow, Nat.reduceBEq, Nat.reduceBNe, Int.reduceLT, Int.reduceLE, Int.reduceGT, Int.reduceGE, Int.reduceBEq, Int.reduceBNe, Int.reduceToNat, Int.reduceAdd, Int.reduceSub, Int.reduceMul, Int.reduceEq, Int.reduceNeg, reduceCtorEq, decide_true, decide_false, Bool.false_eq_true]
end Eng

namespace Eng
/-! Montgomery's reckoning, as plain numbers. -/

/-- What 'once' makes of a number with a bit above it. -/
def onceN (x c m : Nat) : Nat := if c = 1 ∨ m ≤ x then (x + 18446744073709551616 ^ 6 - m) % 18446744073709551616 ^ 6 else x
theorem onceN_lt {x c m : Nat} (hx : x < 18446744073709551616 ^ 6) : onceN x c m < 18446744073709551616 ^ 6 := by
  unfold onceN; split
  · exact Nat.mod_lt _ (Nat.pow_pos (by decide))
  · exact hx
theorem onceN_val {x c m : Nat} (hc : c ≤ 1) (_hx : x < 18446744073709551616 ^ 6) (hm : m < 18446744073709551616 ^ 6) (hlt : x + c * 18446744073709551616 ^ 6 < 18446744073709551616 ^ 6 + m) :
    onceN x c m = if m ≤ x + c * 18446744073709551616 ^ 6 then x + c * 18446744073709551616 ^ 6 - m else x + c * 18446744073709551616 ^ 6 := by
  unfold onceN
  generalize (18446744073709551616 : Nat) ^ 6 = R at *
  rcases Nat.le_one_iff_eq_zero_or_eq_one.1 hc with rfl | rfl
  · rw [Nat.zero_mul, Nat.add_zero]
    by_cases h : m ≤ x
    · rw [if_pos (.inr h), if_pos h, show x + R - m = (x - m) + R by omega, Nat.add_mod_right, Nat.mod_eq_of_lt (by omega)]
    · rw [if_neg (by rintro (h1 | h1); (cases h1); exact h h1), if_neg h]
  · rw [Nat.one_mul, if_pos (.inl rfl), if_pos (by omega), Nat.mod_eq_of_lt (by omega)]
theorem onceN_mod {x c m : Nat} (hc : c ≤ 1) (hx : x < 18446744073709551616 ^ 6) (hm : m < 18446744073709551616 ^ 6) (hlt : x + c * 18446744073709551616 ^ 6 < 2 * m) :
    onceN x c m = (x + c * 18446744073709551616 ^ 6) % m := by
  rw [onceN_val hc hx hm (by omega)]
  split
  · rename_i h; rw [Nat.mod_eq_sub_mod h, Nat.mod_eq_of_lt (by omega)]
  · rw [Nat.mod_eq_of_lt (by omega)]
theorem once_twice {x c m : Nat} (hc : c ≤ 1) (hx : x < 18446744073709551616 ^ 6) (hm : m < 18446744073709551616 ^ 6) (hlt : x + c * 18446744073709551616 ^ 6 < 18446744073709551616 ^ 6 + m) (h2 : 18446744073709551616 ^ 6 < 2 * m) :
    onceN (onceN x c m) 0 m = (x + c * 18446744073709551616 ^ 6) % m := by
  have h1 := onceN_val hc hx hm hlt
  have h3 : onceN x c m < 2 * m := by rw [h1]; split <;> omega
  rw [onceN_mod (by omega) (onceN_lt hx) hm (by omega), Nat.zero_mul, Nat.add_zero, h1]
  split
  · rename_i h; exact (Nat.mod_eq_sub_mod h).symm
  · rfl

/-- The inverse, as it is reckoned: each round doubles the bits that hold. -/
def invI (m : Nat) : Nat → Nat
  | 0 => 1
  | k + 1 => invI m k * ((2 + 18446744073709551616 - m * invI m k % 18446744073709551616) % 18446744073709551616) % 18446744073709551616
theorem invI_lt (m : Nat) : ∀ k, invI m k < 18446744073709551616
  | 0 => by show 1 < 18446744073709551616; decide
  | k + 1 => Nat.mod_lt _ (by decide)
theorem inv_step {W m i P : Int} {t s : Int} (ht : ∃ a, m * i = t + W * a) (hs : ∃ b, s = 2 - t + W * b) (hP : P ∣ m * i - 1) (hW : P * P ∣ W) {j : Int} (hj : ∃ c, i * s = j + W * c) : P * P ∣ m * j - 1 := by
  obtain ⟨a, ha⟩ := ht
  obtain ⟨b, hb⟩ := hs
  obtain ⟨c, hc⟩ := hj
  obtain ⟨d, hd⟩ := hP
  obtain ⟨e, he⟩ := hW
  have h1 : m * i = 1 + P * d := by omega
  have h2 : s = 2 - m * i + W * (a + b) := by
    rw [hb, ha, Int.mul_add]; omega
  have h3 : m * j = m * i * s - W * (m * c) := by
    have : j = i * s - W * c := by omega
    rw [this, Int.mul_sub, Int.mul_assoc, Int.mul_left_comm m W c]
  have h4 : m * i * s = 1 - P * P * (d * d) + W * (a + b) * (1 + P * d) := by
    rw [h2, h1, Int.mul_add, Int.mul_comm (1 + P * d) (W * (a + b))]
    congr 1
    have : (2 : Int) - (1 + P * d) = 1 - P * d := by omega
    rw [this, Int.add_mul, Int.one_mul, Int.mul_sub, Int.mul_one]
    have : P * d * (P * d) = P * P * (d * d) := by rw [Int.mul_assoc, Int.mul_left_comm d, ← Int.mul_assoc]
    omega
  refine ⟨e * ((a + b) * (1 + P * d)) - d * d - e * (m * c), ?_⟩
  rw [h3, h4, he, Int.mul_sub, Int.mul_sub, ← Int.mul_assoc (P * P) e, ← Int.mul_assoc (P * P) e, Int.mul_assoc (P * P * e) (a + b)]
  omega
theorem invI_one {m : Nat} (hm : m % 2 = 1) (k : Nat) (hk : k ≤ 6) : ((2 ^ 2 ^ k : Nat) : Int) ∣ (m : Int) * (invI m k : Nat) - 1 := by
  induction k with
  | zero => exact ⟨((m : Int) - 1) / 2, by simp [invI]; omega⟩
  | succ k ih =>
    have hk' : k < 6 := hk
    have e : ((2 ^ 2 ^ (k + 1) : Nat) : Int) = ((2 ^ 2 ^ k : Nat) : Int) * ((2 ^ 2 ^ k : Nat) : Int) := by
      rw [← Int.natCast_mul, ← Nat.pow_add, Nat.pow_succ, Nat.mul_two]
    rw [e]
    have h5 : (2 : Nat) ^ 2 ^ (k + 1) ∣ 18446744073709551616 := by
      have : (2 : Nat) ^ 2 ^ (k + 1) ∣ 2 ^ 64 := Nat.pow_dvd_pow 2 (show 2 ^ (k + 1) ≤ 2 ^ 6 from Nat.pow_le_pow_right (by decide) hk)
      exact this
    refine inv_step (W := 18446744073709551616) (t := ((m * invI m k % 18446744073709551616 : Nat) : Int)) (s := (((2 + 18446744073709551616 - m * invI m k % 18446744073709551616) % 18446744073709551616 : Nat) : Int)) ?_ ?_ (ih (by omega)) ?_ ?_
    · refine ⟨((m * invI m k / 18446744073709551616 : Nat) : Int), ?_⟩
      rw [← Int.natCast_mul]; omega
    · have hlt : m * invI m k % 18446744073709551616 < 18446744073709551616 := Nat.mod_lt _ (by decide)
      generalize m * invI m k % 18446744073709551616 = t at *
      refine ⟨1 - (((2 + 18446744073709551616 - t) / 18446744073709551616 : Nat) : Int), ?_⟩
      omega
    · rw [← e]; exact Int.ofNat_dvd.2 h5
    · show ∃ c, _ = ((invI m k * ((2 + 18446744073709551616 - m * invI m k % 18446744073709551616) % 18446744073709551616) % 18446744073709551616 : Nat) : Int) + 18446744073709551616 * c
      generalize (2 + 18446744073709551616 - m * invI m k % 18446744073709551616) % 18446744073709551616 = s
      refine ⟨((invI m k * s / 18446744073709551616 : Nat) : Int), ?_⟩
      rw [← Int.natCast_mul]; omega
/-- What times the lowest limb is -1. -/
def negInv (m : Nat) : Nat := (18446744073709551616 - invI m 6) % 18446744073709551616
theorem negInv_lt (m : Nat) : negInv m < 18446744073709551616 := Nat.mod_lt _ (by decide)
theorem negInv_mul {m : Nat} (hm : m % 2 = 1) : (m * negInv m + 1) % 18446744073709551616 = 0 := by
  obtain ⟨d, hd⟩ := invI_one hm 6 (Nat.le_refl 6)
  have hlt := invI_lt m 6
  unfold negInv
  have h0 : invI m 6 ≠ 0 := by
    intro h; rw [h] at hd; simp at hd; omega
  have e : (18446744073709551616 - invI m 6) % 18446744073709551616 = 18446744073709551616 - invI m 6 := Nat.mod_eq_of_lt (by omega)
  rw [e]
  generalize invI m 6 = i at *
  have h1 : ((2 ^ 2 ^ 6 : Nat) : Int) = 18446744073709551616 := by decide
  rw [h1] at hd
  have h2 : m * (18446744073709551616 - i) = m * 18446744073709551616 - m * i := Nat.mul_sub m _ i
  have h3 : m * i ≤ m * 18446744073709551616 := Nat.mul_le_mul_left m (by omega)
  rw [← Int.natCast_mul] at hd
  rw [h2]
  generalize m * i = p at *
  omega

/-- Montgomery's reduction: what times R leaves what t leaves. -/
noncomputable def redN (t m : Nat) : Nat := open Classical in if h : ∃ z, z < m ∧ z * 18446744073709551616 ^ 6 % m = t % m then Classical.choose h else 0
theorem cop_R {m : Nat} (hm : m % 2 = 1) : Nat.Coprime m (18446744073709551616 ^ 6) := by
  have h2 : Nat.Coprime m 2 := by
    rw [Nat.Coprime, Nat.gcd_comm, Nat.gcd_rec, hm]; decide
  have : (18446744073709551616 : Nat) ^ 6 = 2 ^ 384 := by decide
  rw [this]
  exact Nat.Coprime.pow_right 384 h2
theorem cancel_R {m x y : Nat} (hm : m % 2 = 1) (h : x * 18446744073709551616 ^ 6 % m = y * 18446744073709551616 ^ 6 % m) : x % m = y % m := by
  have hc := cop_R hm
  generalize (18446744073709551616 : Nat) ^ 6 = R at *
  have aux : ∀ x y : Nat, x ≤ y → x * R % m = y * R % m → x % m = y % m := by
    intro x y hxy h
    have h1 : (y * R - x * R) % m = 0 := Nat.sub_mod_eq_zero_of_mod_eq h.symm
    rw [← Nat.sub_mul] at h1
    have h2 : m ∣ y - x := Nat.Coprime.dvd_of_dvd_mul_right hc (Nat.dvd_of_mod_eq_zero h1)
    obtain ⟨d, hd⟩ := h2
    have : y = x + m * d := by omega
    rw [this, Nat.add_mul_mod_self_left]
  rcases Nat.le_total x y with hxy | hxy
  · exact aux x y hxy h
  · exact (aux y x hxy h.symm).symm
theorem redN_eq {t m z : Nat} (hm : m % 2 = 1) (hz : z < m) (h : z * 18446744073709551616 ^ 6 % m = t % m) : redN t m = z := by
  have hex : ∃ z, z < m ∧ z * 18446744073709551616 ^ 6 % m = t % m := ⟨z, hz, h⟩
  unfold redN
  rw [dif_pos hex]
  have hs := Classical.choose_spec hex
  have := cancel_R hm (hs.2.trans h.symm)
  rwa [Nat.mod_eq_of_lt hs.1, Nat.mod_eq_of_lt hz] at this
/-- It is there: R has an inverse. -/
theorem redN_ex {t m : Nat} (hm : m % 2 = 1) : ∃ z, z < m ∧ z * 18446744073709551616 ^ 6 % m = t % m := by
  have h2 : ((m + 1) / 2 * 2) % m = 1 % m := by
    have : (m + 1) / 2 * 2 = 1 + m := by omega
    rw [this, Nat.add_mod_right]
  have h3 : ((m + 1) / 2) ^ 384 * 2 ^ 384 % m = 1 % m := by
    rw [← Nat.mul_pow, Nat.pow_mod, h2, ← Nat.pow_mod, Nat.one_pow]
  have hR : (18446744073709551616 : Nat) ^ 6 = 2 ^ 384 := by decide
  rw [hR]
  refine ⟨t * ((m + 1) / 2) ^ 384 % m, Nat.mod_lt _ (by omega), ?_⟩
  rw [Nat.mod_mul_mod, Nat.mul_assoc, Nat.mul_mod, h3, ← Nat.mul_mod, Nat.mul_one]
theorem redN_spec {t m : Nat} (hm : m % 2 = 1) : redN t m < m ∧ redN t m * 18446744073709551616 ^ 6 % m = t % m := by
  unfold redN
  rw [dif_pos (redN_ex hm)]
  exact Classical.choose_spec (redN_ex hm)
theorem redN_mul {u v m x y : Nat} (hm : m % 2 = 1) (hx : x % m = u * 18446744073709551616 ^ 6 % m) (hy : y % m = v * 18446744073709551616 ^ 6 % m) : redN (x * y) m = u * v * 18446744073709551616 ^ 6 % m := by
  refine redN_eq hm (Nat.mod_lt _ (by omega)) ?_
  generalize (18446744073709551616 : Nat) ^ 6 = R at *
  rw [Nat.mod_mul_mod, Nat.mul_mod x y, hx, hy, ← Nat.mul_mod]
  congr 1
  simp only [Nat.mul_left_comm, Nat.mul_comm]
theorem redN_out {u m x y : Nat} (hm : m % 2 = 1) (hx : x % m = u * 18446744073709551616 ^ 6 % m) : redN (x * y) m = u * y % m := by
  refine redN_eq hm (Nat.mod_lt _ (by omega)) ?_
  generalize (18446744073709551616 : Nat) ^ 6 = R at *
  rw [Nat.mod_mul_mod, Nat.mul_mod x y, hx, ← Nat.mul_mod]
  congr 1
  simp only [Nat.mul_left_comm, Nat.mul_comm]
/-- Into Montgomery's form: times R squared. -/
theorem redN_in {u m : Nat} (hm : m % 2 = 1) : redN (u * (18446744073709551616 ^ 6 * 18446744073709551616 ^ 6 % m)) m = u * 18446744073709551616 ^ 6 % m := by
  refine redN_eq hm (Nat.mod_lt _ (by omega)) ?_
  generalize (18446744073709551616 : Nat) ^ 6 = R at *
  rw [Nat.mod_mul_mod, Nat.mul_mod_mod, Nat.mul_assoc]

/-- A row of the reduction. -/
structure RedI (v0 q m i j : Nat) (t0 t : List Int) (c : Nat) : Prop where
  len : t.length = 12
  d : D64 t
  cb : c < 18446744073709551616
  v : v64 t + c * 18446744073709551616 ^ (i + j) = v0 + q * (m % 18446744073709551616 ^ j) * 18446744073709551616 ^ i
theorem red_first {q m i : Nat} {t : List Int} (hl : t.length = 12) (hd : D64 t) : RedI (v64 t) q m i 0 t t 0 :=
  ⟨hl, hd, by decide, by simp [Nat.mod_one]⟩
theorem red_next {v0 q m i j : Nat} {t0 t : List Int} {c s : Nat} (hi : i < 6) (hj : j < 6) (h : RedI v0 q m i j t0 t c) (hq : q < 18446744073709551616) (hs : s = q * (m / 18446744073709551616 ^ j % 18446744073709551616) + (t.getD (i + j) 0).toNat + c) :
    RedI v0 q m i (j + 1) t0 (t.set (i + j) ((s % 18446744073709551616 : Nat) : Int)) (s / 18446744073709551616) := by
  have ho := h.d.at (i + j)
  have hy : m / 18446744073709551616 ^ j % 18446744073709551616 < 18446744073709551616 := Nat.mod_lt _ (by decide)
  have hf := mul_fits hq hy (show (t.getD (i + j) 0).toNat < 18446744073709551616 by omega) h.cb
  rw [← hs] at hf
  refine ⟨by rw [List.length_set, h.len], h.d.set _ (by omega) (by omega), mul_div_lt hf, ?_⟩
  have hset := v64_set t (i + j) (by rw [h.len]; omega) ((s % 18446744073709551616 : Nat) : Int)
  rw [Int.toNat_natCast] at hset
  have hst := mul_step (B := 18446744073709551616) hs hset h.v
  rw [show i + (j + 1) = i + j + 1 by omega, Nat.pow_succ, hst, Nat.mod_pow_succ, Nat.mul_add, Nat.add_mul, Nat.add_assoc]
  congr 2
  rw [Nat.pow_add]
  generalize (18446744073709551616 : Nat) ^ i = p
  generalize (18446744073709551616 : Nat) ^ j = r
  generalize m / r % 18446744073709551616 = z
  rw [Nat.mul_comm p r, Nat.mul_assoc r p, Nat.mul_comm p, Nat.mul_left_comm r, Nat.mul_assoc, Nat.mul_assoc, Nat.mul_assoc, Nat.mul_left_comm r]
/-- The carry goes up. -/
structure CarI (V i j : Nat) (t : List Int) (c : Nat) : Prop where
  len : t.length = 12
  d : D64 t
  cb : c < 18446744073709551616
  v : v64 t + c * 18446744073709551616 ^ j = V
theorem car_next {V i j : Nat} {t : List Int} {c : Nat} (hj : j < 12) (h : CarI V i j t c) :
    CarI V i (j + 1) (t.set j ((((t.getD j 0).toNat + c) % 18446744073709551616 : Nat) : Int)) (((t.getD j 0).toNat + c) / 18446744073709551616) := by
  have ho := h.d.at j
  have hcb := h.cb
  refine ⟨by rw [List.length_set, h.len], h.d.set _ (by omega) (by omega), by omega, ?_⟩
  have hset := v64_set t j (by rw [h.len]; omega) ((((t.getD j 0).toNat + c) % 18446744073709551616 : Nat) : Int)
  rw [Int.toNat_natCast] at hset
  have hv := h.v
  rw [Nat.pow_succ]
  generalize (18446744073709551616 : Nat) ^ j = P at *
  generalize (t.getD j 0).toNat = o at *
  have e : (o + c) % 18446744073709551616 + 18446744073709551616 * ((o + c) / 18446744073709551616) = o + c := Nat.mod_add_div _ _
  have e2 : P * ((o + c) % 18446744073709551616) + (o + c) / 18446744073709551616 * (P * 18446744073709551616) = P * o + c * P := by
    have : (o + c) / 18446744073709551616 * (P * 18446744073709551616) = P * (18446744073709551616 * ((o + c) / 18446744073709551616)) := by
      rw [Nat.mul_comm, Nat.mul_assoc]
    rw [this, ← Nat.mul_add, e, Nat.mul_add, Nat.mul_comm P c]
  omega

/-- Between the rounds. -/
structure OutI (T m i : Nat) (t : List Int) (o : Nat) : Prop where
  len : t.length = 12
  d : D64 t
  q : ∃ Q, Q < 18446744073709551616 ^ i ∧ v64 t + o * 18446744073709551616 ^ 12 = T + Q * m
  z : v64 t % 18446744073709551616 ^ i = 0
theorem OutI.le {T m i : Nat} {t : List Int} {o : Nat} (h : OutI T m i t o) (hi : i ≤ 6) (hT : T < 18446744073709551616 ^ 12) (hm : m < 18446744073709551616 ^ 6) : o ≤ 1 := by
  obtain ⟨Q, hQ, hv⟩ := h.q
  have h1 : (18446744073709551616 : Nat) ^ i ≤ 18446744073709551616 ^ 6 := Nat.pow_le_pow_right (by decide) hi
  have h2 : Q * m ≤ 18446744073709551616 ^ 6 * 18446744073709551616 ^ 6 := Nat.mul_le_mul (by omega) (by omega)
  rw [← Nat.pow_add] at h2
  generalize hE : (18446744073709551616 : Nat) ^ 12 = E at *
  refine Nat.le_of_not_lt fun ho => ?_
  have h3 : 2 * E ≤ o * E := Nat.mul_le_mul_right E ho
  omega
theorem inv_kill {m inv u t q : Nat} (hinv : (m * inv + 1) % 18446744073709551616 = 0) (hu : u % 18446744073709551616 = t) (hq : q = t * inv % 18446744073709551616) : (u + q * m) % 18446744073709551616 = 0 := by
  have h1 : (u + q * m) % 18446744073709551616 = (t * (m * inv + 1)) % 18446744073709551616 := by
    rw [hq, Nat.add_mod, Nat.mod_mul_mod, hu, Nat.mul_add, Nat.mul_one, Nat.mul_assoc, Nat.mul_comm inv m, Nat.add_comm]
    have ht : t % 18446744073709551616 = t := by rw [← hu, Nat.mod_mod]
    conv => rhs; rw [Nat.add_mod, ht]
  rw [h1, Nat.mul_mod, hinv, Nat.mul_zero, Nat.zero_mod]
theorem out_next {T m i inv q o : Nat} {t t' : List Int} {c : Nat} (hi : i < 6) (h : OutI T m i t o) (hinv : (m * inv + 1) % 18446744073709551616 = 0) (hq : q = (t.getD i 0).toNat * inv % 18446744073709551616)
    (h' : CarI (v64 t + q * m * 18446744073709551616 ^ i) i 12 t' c) : OutI T m (i + 1) t' (o + c) := by
  obtain ⟨Q, hQ, hv⟩ := h.q
  have hv' := h'.v
  have hql : q < 18446744073709551616 := by rw [hq]; exact Nat.mod_lt _ (by decide)
  refine ⟨h'.len, h'.d, ⟨Q + q * 18446744073709551616 ^ i, ?_, ?_⟩, ?_⟩
  · rw [Nat.pow_succ]
    have : (q + 1) * 18446744073709551616 ^ i ≤ 18446744073709551616 * 18446744073709551616 ^ i := Nat.mul_le_mul_right _ hql
    rw [Nat.add_mul, Nat.one_mul] at this
    rw [Nat.mul_comm (18446744073709551616 ^ i)]
    omega
  · have e : (Q + q * 18446744073709551616 ^ i) * m = Q * m + q * m * 18446744073709551616 ^ i := by rw [Nat.add_mul, Nat.mul_right_comm]
    generalize (18446744073709551616 : Nat) ^ 12 = E at *
    have e2 : (o + c) * E = o * E + c * E := Nat.add_mul _ _ _
    rw [e, e2]; omega
  · obtain ⟨r, hr⟩ : ∃ r, (18446744073709551616 : Nat) ^ 12 = 18446744073709551616 ^ (i + 1) * r := ⟨18446744073709551616 ^ (12 - (i + 1)), by rw [← Nat.pow_add]; congr 1; omega⟩
    have hz := h.z
    have hd := v64_getD h.d i
    generalize hu : v64 t / 18446744073709551616 ^ i = u at *
    have e1 : v64 t = 18446744073709551616 ^ i * u := by
      have := Nat.mod_add_div (v64 t) (18446744073709551616 ^ i); rw [hz, hu] at this; omega
    have hk := inv_kill (u := u) (t := (t.getD i 0).toNat) hinv (by omega) hq
    obtain ⟨s, hs⟩ := Nat.dvd_of_mod_eq_zero hk
    have e3 : v64 t + q * m * 18446744073709551616 ^ i = 18446744073709551616 ^ (i + 1) * s := by
      rw [e1, Nat.mul_comm (q * m), ← Nat.mul_add, hs, Nat.pow_succ, Nat.mul_assoc]
    have e4 : v64 t' = 18446744073709551616 ^ (i + 1) * s - 18446744073709551616 ^ (i + 1) * (c * r) := by
      rw [hr] at hv'
      have : c * (18446744073709551616 ^ (i + 1) * r) = 18446744073709551616 ^ (i + 1) * (c * r) := Nat.mul_left_comm _ _ _
      omega
    rw [e4, ← Nat.mul_sub, Nat.mul_mod_right]
theorem out_first {T m : Nat} {t : List Int} (hl : t.length = 12) (hd : D64 t) (hT : v64 t = T) : OutI T m 0 t 0 := ⟨hl, hd, ⟨0, by decide, by omega⟩, by simp [Nat.mod_one]⟩
theorem out_last {T m o : Nat} {t : List Int} (h : OutI T m 6 t o) (hT : T < 18446744073709551616 ^ 12) (hm : m < 18446744073709551616 ^ 6) (hodd : m % 2 = 1) (h2 : 18446744073709551616 ^ 6 < 2 * m) :
    onceN (onceN (v64 t / 18446744073709551616 ^ 6) o m) 0 m = redN T m := by
  have ho := h.le (Nat.le_refl 6) hT hm
  obtain ⟨Q, hQ, hv⟩ := h.q
  have hz := h.z
  have hx : v64 t < 18446744073709551616 ^ 12 := by have := v64_lt h.d; rwa [h.len] at this
  have hR : (18446744073709551616 : Nat) ^ 12 = 18446744073709551616 ^ 6 * 18446744073709551616 ^ 6 := by rw [← Nat.pow_add]
  have hR0 : (0 : Nat) < 18446744073709551616 ^ 6 := Nat.pow_pos (by decide)
  rw [hR] at hx hT hv
  have e1 : v64 t = 18446744073709551616 ^ 6 * (v64 t / 18446744073709551616 ^ 6) := by
    have := Nat.mod_add_div (v64 t) (18446744073709551616 ^ 6); omega
  have hxl : v64 t / 18446744073709551616 ^ 6 < 18446744073709551616 ^ 6 := Nat.div_lt_of_lt_mul hx
  have hw : ∀ z : Nat, z = v64 t / 18446744073709551616 ^ 6 + o * 18446744073709551616 ^ 6 → z * 18446744073709551616 ^ 6 = T + Q * m := by
    intro z hz'
    rw [hz', Nat.add_mul, Nat.mul_assoc, Nat.mul_comm (v64 t / _), ← e1]; exact hv
  generalize v64 t / 18446744073709551616 ^ 6 = x at *
  have hzR := hw _ rfl
  have hlt : x + o * 18446744073709551616 ^ 6 < 18446744073709551616 ^ 6 + m := by
    generalize (18446744073709551616 : Nat) ^ 6 = R at *
    refine Nat.lt_of_mul_lt_mul_right (a := R) ?_
    rw [hzR, Nat.add_mul]
    have h3 : Q * m ≤ R * m := Nat.mul_le_mul_right m (Nat.le_of_lt hQ)
    rw [Nat.mul_comm m R]; omega
  rw [once_twice ho hxl hm hlt h2]
  refine (redN_eq hodd (Nat.mod_lt _ (by omega)) ?_).symm
  rw [Nat.mod_mul_mod, hzR, Nat.add_mul_mod_self_right]
theorem drop_lim {t : List Int} (hl : t.length = 12) (hd : D64 t) : t.drop 6 = lim6 (v64 t / 18446744073709551616 ^ 6) := eq_tab (by rw [List.length_drop, hl]) fun i _ => by
  have := v64_getD hd (6 + i)
  rw [Nat.pow_add, ← Nat.div_div_eq_div_mul] at this
  rw [← this]
  simp [List.getD_eq_getElem?_getD, List.getElem?_drop]
end Eng
