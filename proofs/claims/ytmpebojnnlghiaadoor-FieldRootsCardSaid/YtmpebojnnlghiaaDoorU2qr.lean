/- Contracts of the program's functions, and laws over them. There is no further condition. -/
import Derived.Test.YtmpebojnnlghiaaDoorU1qr
import Derived.Test.YtmpebojnnlghiaaDoorED
import Derived.Test.YtmpebojnnlghiaaDoorU0qr
set_option linter.unusedVariables false
set_option linter.unusedSimpArgs false
set_option exponentiation.threshold 2000
namespace Eng
open Go Go.Proofs
set_option linter.unusedSimpArgs false
set_option linter.unusedVariables false
noncomputable def S55 : List AV → Option Ret := nz (sumOf (fun p : Nat × Nat => match p with | (x, y) => ((dig x).length ≤ 1000000) ∧ ((dig y).length ≤ 1000000) ∧ (y ≤ x)) (fun p : Nat × Nat => match p with | (x, y) => [.slc (dig (x)).length (ints .u64 (dig (x))), .slc (dig (y)).length (ints .u64 (dig (y)))]) (fun p : Nat × Nat => match p with | (x, y) => ⟨.slc (dig (x - y)).length (ints .u64 (dig (x - y))), none⟩))
theorem S55_eq (x : Nat) (y : Nat) (h0 : (dig x).length ≤ 1000000) (h1 : (dig y).length ≤ 1000000) (h2 : y ≤ x) : S55 [.slc (dig (x)).length (ints .u64 (dig (x))), .slc (dig (y)).length (ints .u64 (dig (y)))] = some ⟨.slc (dig (x - y)).length (ints .u64 (dig (x - y))), none⟩ :=
  sumOf_eq (dom := (fun p : Nat × Nat => match p with | (x, y) => ((dig x).length ≤ 1000000) ∧ ((dig y).length ≤ 1000000) ∧ (y ≤ x))) (enc := (fun p : Nat × Nat => match p with | (x, y) => [.slc (dig (x)).length (ints .u64 (dig (x))), .slc (dig (y)).length (ints .u64 (dig (y)))])) (out := (fun p : Nat × Nat => match p with | (x, y) => ⟨.slc (dig (x - y)).length (ints .u64 (dig (x - y))), none⟩)) (x, y) ⟨h0, h1, h2⟩ (fun y _ e => by
    obtain ⟨y0, y1⟩ := y
    simp only [List.cons.injEq, AV.agg.injEq, AV.int.injEq, AV.slc.injEq, AV.iptr.injEq, AV.bool.injEq, AV.str.injEq, ints_injEq, dig_injEq,  Int.ofNat_inj, BitVec.toNat_inj, true_and, and_true] at e
    first | with_reducible rfl | simp only [e] | rfl)
theorem S55_inv {args : List AV} {r : Ret} (h : sumOf (fun p : Nat × Nat => match p with | (x, y) => ((dig x).length ≤ 1000000) ∧ ((dig y).length ≤ 1000000) ∧ (y ≤ x)) (fun p : Nat × Nat => match p with | (x, y) => [.slc (dig (x)).length (ints .u64 (dig (x))), .slc (dig (y)).length (ints .u64 (dig (y)))]) (fun p : Nat × Nat => match p with | (x, y) => ⟨.slc (dig (x - y)).length (ints .u64 (dig (x - y))), none⟩) args = some r) : ∃ (x : Nat) (y : Nat), (((dig x).length ≤ 1000000) ∧ ((dig y).length ≤ 1000000) ∧ (y ≤ x)) ∧ args = [.slc (dig (x)).length (ints .u64 (dig (x))), .slc (dig (y)).length (ints .u64 (dig (y)))] ∧ r = ⟨.slc (dig (x - y)).length (ints .u64 (dig (x - y))), none⟩ := by
  obtain ⟨x, h1, h2, h3⟩ := sumOf_inv h
  obtain ⟨x, y⟩ := x
  exact ⟨x, y, h1, h2.symm, h3⟩


def St32 (x y i : Nat) : AState := { nt := 35, env := [(0, .slc (dig (x)).length (ints .u64 (dig (x)))), (1, .slc (dig (y)).length (ints .u64 (dig (y)))), (5, .osl 50 0 i 1), (6, .int .u64 (borrow 4294967296 x y i : Nat)), (7, .int .i64 i)], mem := [(50, ints .u64 (low i (x - y)))], next := 60 }

set_option maxRecDepth 100000 in
theorem snd55 : SndE Tryd.prog NoG 55 S55 := by
  refine snd_nz (snd_by [(53, S53), (52, S52)] [] Tryd.func55 (by kernel_rfl) lite55 nt55 rs55 ⟨snd53, snd52, trivial⟩ trivial (fun hT args r h => ?_))
  obtain ⟨x, y, ⟨hd0, hd1, hd2⟩, rfl, rfl⟩ := S55_inv h
  clear h
  have hM := hM0
  refine ⟨Nat.le_of_ble_eq_true rfl, fun F => ?_⟩
  unfold L55
  refine Lwp.seq (Lwp.regI hT ?_)
  simp only [L55r0, go_sem, List.isEmpty_nil, isC, eq_self, reduceIte, Nat.reduceAdd, Nat.reduceMul, Nat.reduceSub, Nat.reduceLT, Nat.reduceLeDiff, Nat.reduceEqDiff, Nat.reduceDiv, Nat.reduceMod, Nat.reducePow, Nat.reduceBEq, Nat.reduceBNe, Int.reduceLT, Int.reduceLE, Int.reduceGT, Int.reduceGE, Int.reduceBEq, Int.reduceBNe, Int.reduceToNat, Int.reduceAdd, Int.reduceSub, Int.reduceMul, Int.reduceEq, Int.reduceNeg, reduceCtorEq, decide_true, decide_false, Bool.false_eq_true, ty3, ty4, ty22, ty23, ty24, ty27, ty28, eq24]
  refine Lwp.seq (Lwp.regI hT ?_)
  simp only [L55r1, go_sem, List.isEmpty_nil, isC, eq_self, reduceIte, Nat.reduceAdd, Nat.reduceMul, Nat.reduceSub, Nat.reduceLT, Nat.reduceLeDiff, Nat.reduceEqDiff, Nat.reduceDiv, Nat.reduceMod, Nat.reducePow, Nat.reduceBEq, Nat.reduceBNe, Int.reduceLT, Int.reduceLE, Int.reduceGT, Int.reduceGE, Int.reduceBEq, Int.reduceBNe, Int.reduceToNat, Int.reduceAdd, Int.reduceSub, Int.reduceMul, Int.reduceEq, Int.reduceNeg, reduceCtorEq, decide_true, decide_false, Bool.false_eq_true, ty3, ty4, ty22, ty23, ty24, ty27, ty28, eq24]
  refine Lwp.seq (Lwp.regI hT ?_)
  simp only [L55r2, go_sem, List.isEmpty_nil, isC, eq_self, reduceIte, Nat.reduceAdd, Nat.reduceMul, Nat.reduceSub, Nat.reduceLT, Nat.reduceLeDiff, Nat.reduceEqDiff, Nat.reduceDiv, Nat.reduceMod, Nat.reducePow, Nat.reduceBEq, Nat.reduceBNe, Int.reduceLT, Int.reduceLE, Int.reduceGT, Int.reduceGE, Int.reduceBEq, Int.reduceBNe, Int.reduceToNat, Int.reduceAdd, Int.reduceSub, Int.reduceMul, Int.reduceEq, Int.reduceNeg, reduceCtorEq, decide_true, decide_false, Bool.false_eq_true, ty3, ty4, ty22, ty23, ty24, ty27, ty28, eq24]
  refine Lwp.seq (Lwp.seq (Lwp.region hT ?_))
  simp only [L55r3, go_sem, List.isEmpty_nil, isC, eq_self, reduceIte, Nat.reduceAdd, Nat.reduceMul, Nat.reduceSub, Nat.reduceLT, Nat.reduceLeDiff, Nat.reduceEqDiff, Nat.reduceDiv, Nat.reduceMod, Nat.reducePow, Nat.reduceBEq, Nat.reduceBNe, Int.reduceLT, Int.reduceLE, Int.reduceGT, Int.reduceGE, Int.reduceBEq, Int.reduceBNe, Int.reduceToNat, Int.reduceAdd, Int.reduceSub, Int.reduceMul, Int.reduceEq, Int.reduceNeg, reduceCtorEq, decide_true, decide_false, Bool.false_eq_true, ty3]
  refine Lwp.block (Lwp.range (St32 x y) (dig x).length ?_ (fun i hi => ?_) ?_)
  · refine Weak.trans (weak_nil (t := 5) (id := 50) (sz := 1) rfl rfl) ?_
    refine weak_of rfl ?_ ?_ ?_
    · (simp only [go_sem, List.isEmpty_nil, isC, eq_self, reduceIte, Nat.reduceAdd, Nat.reduceMul, Nat.reduceSub, Nat.reduceLT, Nat.reduceLeDiff, Nat.reduceEqDiff, Nat.reduceDiv, Nat.reduceMod, Nat.reducePow, Nat.reduceBEq, Nat.reduceBNe, Int.reduceLT, Int.reduceLE, Int.reduceGT, Int.reduceGE, Int.reduceBEq, Int.reduceBNe, Int.reduceToNat, Int.reduceAdd, Int.reduceSub, Int.reduceMul, Int.reduceEq, Int.reduceNeg, reduceCtorEq, decide_true, decide_false, Bool.false_eq_true, St32, borrow, Nat.pow_zero, Nat.mod_one, Nat.lt_irrefl]; try rfl)
    · (simp only [go_sem, List.isEmpty_nil, isC, eq_self, reduceIte, Nat.reduceAdd, Nat.reduceMul, Nat.reduceSub, Nat.reduceLT, Nat.reduceLeDiff, Nat.reduceEqDiff, Nat.reduceDiv, Nat.reduceMod, Nat.reducePow, Nat.reduceBEq, Nat.reduceBNe, Int.reduceLT, Int.reduceLE, Int.reduceGT, Int.reduceGE, Int.reduceBEq, Int.reduceBNe, Int.reduceToNat, Int.reduceAdd, Int.reduceSub, Int.reduceMul, Int.reduceEq, Int.reduceNeg, reduceCtorEq, decide_true, decide_false, Bool.false_eq_true, St32, borrow, Nat.pow_zero, Nat.mod_one, Nat.lt_irrefl]; try rfl)
    · (simp only [go_sem, List.isEmpty_nil, isC, eq_self, reduceIte, Nat.reduceAdd, Nat.reduceMul, Nat.reduceSub, Nat.reduceLT, Nat.reduceLeDiff, Nat.reduceEqDiff, Nat.reduceDiv, Nat.reduceMod, Nat.reducePow, Nat.reduceBEq, Nat.reduceBNe, Int.reduceLT, Int.reduceLE, Int.reduceGT, Int.reduceGE, Int.reduceBEq, Int.reduceBNe, Int.reduceToNat, Int.reduceAdd, Int.reduceSub, Int.reduceMul, Int.reduceEq, Int.reduceNeg, reduceCtorEq, decide_true, decide_false, Bool.false_eq_true, St32, borrow, Nat.pow_zero, Nat.mod_one, Nat.lt_irrefl]; try rfl)
  · have bs := bor_succ 4294967296 x y i (by decide)
    have ds := sub_dig 4294967296 x y i (by decide)
    have hb1 : borrow 4294967296 x y i ≤ 1 := by unfold borrow; split <;> omega
    have gx := dig_getD x i
    have gy := dig_getD y i
    have t1 : (dig x).length ≤ 1099511627776 := by omega
    have t2 : (dig y).length ≤ 1099511627776 := by omega
    have fx := S52_eq (dig x) i t1
    have fy := S52_eq (dig y) i t2
    have hz : (((x - y) / 4294967296 ^ i % 4294967296 : Nat) : Int) = (((x : Int) - y) / (4294967296 : Nat) ^ i) % (4294967296 : Nat) := by
      rw [show (x : Int) - y = ((x - y : Nat) : Int) by omega]; norm_cast
    rw [ds] at hz
    generalize hc' : borrow 4294967296 x y (i + 1) = c' at *
    generalize hc : borrow 4294967296 x y i = c at *
    have b0 : IntKind.u64.wrap ((dig x).getD i 0 + 4294967296) = (dig x).getD i 0 + 4294967296 := wrap_u64 (by omega) (by omega)
    have b1 : IntKind.u64.wrap ((dig x).getD i 0 + 4294967296 - (dig y).getD i 0) = (dig x).getD i 0 + 4294967296 - (dig y).getD i 0 := wrap_u64 (by omega) (by omega)
    have b2 : IntKind.u64.wrap ((dig x).getD i 0 + 4294967296 - (dig y).getD i 0 - (c : Int)) = (dig x).getD i 0 + 4294967296 - (dig y).getD i 0 - (c : Int) := wrap_u64 (by omega) (by omega)
    have b3 : ((dig x).getD i 0 + 4294967296 - (dig y).getD i 0 - (c : Int)).tmod 4294967296 = (((x - y) / 4294967296 ^ i % 4294967296 : Nat) : Int) := by
      rw [Int.tmod_eq_emod_of_nonneg (by omega), hz, gx, gy]; omega
    have q0 : c' ≤ 1 := by rw [bs]; split <;> omega
    have q1 : ((dig x).getD i 0 + 4294967296 - (dig y).getD i 0 - (c : Int)).tdiv 4294967296 = 1 - (c' : Int) := by
      rw [Int.tdiv_eq_ediv_of_nonneg (by omega), bs, gx, gy]
      split <;> omega
    have b4 : IntKind.u64.wrap (1 - IntKind.u64.wrap (((dig x).getD i 0 + 4294967296 - (dig y).getD i 0 - (c : Int)).tdiv 4294967296)) = (c' : Int) := by
      rw [q1, wrap_u64 (x := 1 - (c' : Int)) (by omega) (by omega), wrap_u64 (by omega) (by omega)]; omega
    have a1 : (i : Int) < (dig x).length := by omega
    have a3 := wrap_succ' (n := i) (by omega)
    have a4 : (i + 1) * 8 ≤ 140737488355328 := by omega
    refine Lwp.seq (Lwp.seq (Lwp.region hT ?_))
    simp only [L55r4, St32, hc, go_sem, List.isEmpty_nil, isC, eq_self, reduceIte, Nat.reduceAdd, Nat.reduceMul, Nat.reduceSub, Nat.reduceLT, Nat.reduceLeDiff, Nat.reduceEqDiff, Nat.reduceDiv, Nat.reduceMod, Nat.reducePow, Nat.reduceBEq, Nat.reduceBNe, Int.reduceLT, Int.reduceLE, Int.reduceGT, Int.reduceGE, Int.reduceBEq, Int.reduceBNe, Int.reduceToNat, Int.reduceAdd, Int.reduceSub, Int.reduceMul, Int.reduceEq, Int.reduceNeg, reduceCtorEq, decide_true, decide_false, Bool.false_eq_true, ty3, ty22, ty28, a1]
    refine Lwp.cond rfl (fun _ => Lwp.skip ?_) (fun h => by cases h)
    simp only [go_sem, List.isEmpty_nil, isC, eq_self, reduceIte, Nat.reduceAdd, Nat.reduceMul, Nat.reduceSub, Nat.reduceLT, Nat.reduceLeDiff, Nat.reduceEqDiff, Nat.reduceDiv, Nat.reduceMod, Nat.reducePow, Nat.reduceBEq, Nat.reduceBNe, Int.reduceLT, Int.reduceLE, Int.reduceGT, Int.reduceGE, Int.reduceBEq, Int.reduceBNe, Int.reduceToNat, Int.reduceAdd, Int.reduceSub, Int.reduceMul, Int.reduceEq, Int.reduceNeg, reduceCtorEq, decide_true, decide_false, Bool.false_eq_true]
    refine Lwp.seq (Lwp.block ?_)
    refine Lwp.seq (Lwp.regI hT ?_)
    simp only [L55r6, go_sem, List.isEmpty_nil, isC, eq_self, reduceIte, Nat.reduceAdd, Nat.reduceMul, Nat.reduceSub, Nat.reduceLT, Nat.reduceLeDiff, Nat.reduceEqDiff, Nat.reduceDiv, Nat.reduceMod, Nat.reducePow, Nat.reduceBEq, Nat.reduceBNe, Int.reduceLT, Int.reduceLE, Int.reduceGT, Int.reduceGE, Int.reduceBEq, Int.reduceBNe, Int.reduceToNat, Int.reduceAdd, Int.reduceSub, Int.reduceMul, Int.reduceEq, Int.reduceNeg, reduceCtorEq, decide_true, decide_false, Bool.false_eq_true, ty3, ty4, ty22, ty23, ty24, ty27, ty28, eq24, fx, fy, b0, b1, b2]
    refine Lwp.seq (Lwp.regI hT ?_)
    simp only [L55r7, go_sem, List.isEmpty_nil, isC, eq_self, reduceIte, Nat.reduceAdd, Nat.reduceMul, Nat.reduceSub, Nat.reduceLT, Nat.reduceLeDiff, Nat.reduceEqDiff, Nat.reduceDiv, Nat.reduceMod, Nat.reducePow, Nat.reduceBEq, Nat.reduceBNe, Int.reduceLT, Int.reduceLE, Int.reduceGT, Int.reduceGE, Int.reduceBEq, Int.reduceBNe, Int.reduceToNat, Int.reduceAdd, Int.reduceSub, Int.reduceMul, Int.reduceEq, Int.reduceNeg, reduceCtorEq, decide_true, decide_false, Bool.false_eq_true, ty3, ty4, ty22, ty23, ty24, ty27, ty28, eq24, a4, b3, low_len]
    refine Lwp.regI hT ?_
    simp only [L55r8, go_sem, List.isEmpty_nil, isC, eq_self, reduceIte, Nat.reduceAdd, Nat.reduceMul, Nat.reduceSub, Nat.reduceLT, Nat.reduceLeDiff, Nat.reduceEqDiff, Nat.reduceDiv, Nat.reduceMod, Nat.reducePow, Nat.reduceBEq, Nat.reduceBNe, Int.reduceLT, Int.reduceLE, Int.reduceGT, Int.reduceGE, Int.reduceBEq, Int.reduceBNe, Int.reduceToNat, Int.reduceAdd, Int.reduceSub, Int.reduceMul, Int.reduceEq, Int.reduceNeg, reduceCtorEq, decide_true, decide_false, Bool.false_eq_true, ty3, ty4, ty22, ty23, ty24, ty27, ty28, eq24, b4]
    refine Lwp.regI hT ?_
    simp only [L55r5, go_sem, List.isEmpty_nil, isC, eq_self, reduceIte, Nat.reduceAdd, Nat.reduceMul, Nat.reduceSub, Nat.reduceLT, Nat.reduceLeDiff, Nat.reduceEqDiff, Nat.reduceDiv, Nat.reduceMod, Nat.reducePow, Nat.reduceBEq, Nat.reduceBNe, Int.reduceLT, Int.reduceLE, Int.reduceGT, Int.reduceGE, Int.reduceBEq, Int.reduceBNe, Int.reduceToNat, Int.reduceAdd, Int.reduceSub, Int.reduceMul, Int.reduceEq, Int.reduceNeg, reduceCtorEq, decide_true, decide_false, Bool.false_eq_true, ty3, ty4, ty22, ty23, ty24, ty27, ty28, eq24, a3]
    refine weak_of rfl ?_ ?_ ?_
    · (simp only [go_sem, List.isEmpty_nil, isC, eq_self, reduceIte, Nat.reduceAdd, Nat.reduceMul, Nat.reduceSub, Nat.reduceLT, Nat.reduceLeDiff, Nat.reduceEqDiff, Nat.reduceDiv, Nat.reduceMod, Nat.reducePow, Nat.reduceBEq, Nat.reduceBNe, Int.reduceLT, Int.reduceLE, Int.reduceGT, Int.reduceGE, Int.reduceBEq, Int.reduceBNe, Int.reduceToNat, Int.reduceAdd, Int.reduceSub, Int.reduceMul, Int.reduceEq, Int.reduceNeg, reduceCtorEq, decide_true, decide_false, Bool.false_eq_true, St32, low_succ, hc']; try rfl)
    · (simp only [go_sem, List.isEmpty_nil, isC, eq_self, reduceIte, Nat.reduceAdd, Nat.reduceMul, Nat.reduceSub, Nat.reduceLT, Nat.reduceLeDiff, Nat.reduceEqDiff, Nat.reduceDiv, Nat.reduceMod, Nat.reducePow, Nat.reduceBEq, Nat.reduceBNe, Int.reduceLT, Int.reduceLE, Int.reduceGT, Int.reduceGE, Int.reduceBEq, Int.reduceBNe, Int.reduceToNat, Int.reduceAdd, Int.reduceSub, Int.reduceMul, Int.reduceEq, Int.reduceNeg, reduceCtorEq, decide_true, decide_false, Bool.false_eq_true, St32, low_succ, hc']; try rfl)
    · (simp only [go_sem, List.isEmpty_nil, isC, eq_self, reduceIte, Nat.reduceAdd, Nat.reduceMul, Nat.reduceSub, Nat.reduceLT, Nat.reduceLeDiff, Nat.reduceEqDiff, Nat.reduceDiv, Nat.reduceMod, Nat.reducePow, Nat.reduceBEq, Nat.reduceBNe, Int.reduceLT, Int.reduceLE, Int.reduceGT, Int.reduceGE, Int.reduceBEq, Int.reduceBNe, Int.reduceToNat, Int.reduceAdd, Int.reduceSub, Int.reduceMul, Int.reduceEq, Int.reduceNeg, reduceCtorEq, decide_true, decide_false, Bool.false_eq_true, St32, low_succ, hc']; try rfl)
  · refine Lwp.seq (Lwp.seq (Lwp.region hT ?_))
    have a1 : ¬ ((dig x).length : Int) < (dig x).length := by omega
    simp only [L55r4, St32, go_sem, List.isEmpty_nil, isC, eq_self, reduceIte, Nat.reduceAdd, Nat.reduceMul, Nat.reduceSub, Nat.reduceLT, Nat.reduceLeDiff, Nat.reduceEqDiff, Nat.reduceDiv, Nat.reduceMod, Nat.reducePow, Nat.reduceBEq, Nat.reduceBNe, Int.reduceLT, Int.reduceLE, Int.reduceGT, Int.reduceGE, Int.reduceBEq, Int.reduceBNe, Int.reduceToNat, Int.reduceAdd, Int.reduceSub, Int.reduceMul, Int.reduceEq, Int.reduceNeg, reduceCtorEq, decide_true, decide_false, Bool.false_eq_true, ty3, ty22, ty28, a1]
    refine Lwp.cond rfl (fun h => by cases h) (fun _ => Lwp.exit ?_)
    simp only [go_sem, List.isEmpty_nil, isC, eq_self, reduceIte, Nat.reduceAdd, Nat.reduceMul, Nat.reduceSub, Nat.reduceLT, Nat.reduceLeDiff, Nat.reduceEqDiff, Nat.reduceDiv, Nat.reduceMod, Nat.reducePow, Nat.reduceBEq, Nat.reduceBNe, Int.reduceLT, Int.reduceLE, Int.reduceGT, Int.reduceGE, Int.reduceBEq, Int.reduceBNe, Int.reduceToNat, Int.reduceAdd, Int.reduceSub, Int.reduceMul, Int.reduceEq, Int.reduceNeg, reduceCtorEq, decide_true, decide_false, Bool.false_eq_true]
    have hlt : x - y < 4294967296 ^ (dig x).length := Nat.lt_of_le_of_lt (Nat.sub_le _ _) ((dig_len_le x _).1 (Nat.le_refl _))
    have f54 := S53_low (show (dig x).length ≤ 1099511627776 by omega) hlt
    refine Lwp.seq (Lwp.regI hT ?_)
    simp only [L55r9, go_sem, List.isEmpty_nil, isC, eq_self, reduceIte, Nat.reduceAdd, Nat.reduceMul, Nat.reduceSub, Nat.reduceLT, Nat.reduceLeDiff, Nat.reduceEqDiff, Nat.reduceDiv, Nat.reduceMod, Nat.reducePow, Nat.reduceBEq, Nat.reduceBNe, Int.reduceLT, Int.reduceLE, Int.reduceGT, Int.reduceGE, Int.reduceBEq, Int.reduceBNe, Int.reduceToNat, Int.reduceAdd, Int.reduceSub, Int.reduceMul, Int.reduceEq, Int.reduceNeg, reduceCtorEq, decide_true, decide_false, Bool.false_eq_true, ty3, ty4, ty22, ty23, ty24, ty27, ty28, eq24, low_len, Nat.le_refl, f54]
    refine Lwp.ret (post_val (v := .slc (dig (x - y)).length (ints .u64 (dig (x - y)))) ?_ ?_)
    · simp only [go_sem, List.isEmpty_nil, isC, eq_self, reduceIte, Nat.reduceAdd, Nat.reduceMul, Nat.reduceSub, Nat.reduceLT, Nat.reduceLeDiff, Nat.reduceEqDiff, Nat.reduceDiv, Nat.reduceMod, Nat.reducePow, Nat.reduceBEq, Nat.reduceBNe, Int.reduceLT, Int.reduceLE, Int.reduceGT, Int.reduceGE, Int.reduceBEq, Int.reduceBNe, Int.reduceToNat, Int.reduceAdd, Int.reduceSub, Int.reduceMul, Int.reduceEq, Int.reduceNeg, reduceCtorEq, decide_true, decide_false, Bool.false_eq_true]
    · simp only [go_sem, List.isEmpty_nil, isC, eq_self, reduceIte, Nat.reduceAdd, Nat.reduceMul, Nat.reduceSub, Nat.reduceLT, Nat.reduceLeDiff, Nat.reduceEqDiff, Nat.reduceDiv, Nat.reduceMod, Nat.reducePow, Nat.reduceBEq, Nat.reduceBNe, Int.reduceLT, Int.reduceLE, Int.reduceGT, Int.reduceGE, Int.reduceBEq, Int.reduceBNe, Int.reduceToNat, Int.reduceAdd, Int.reduceSub, Int.reduceMul, Int.reduceEq, Int.reduceNeg, reduceCtorEq, decide_true, decide_false, Bool.false_eq_true]

def top : Nat := 39402006196394479212279040100143613805079739270465446667948293404245721771497210611414266254884915640806627990306816
theorem dig_top : dig top = [0, 0, 0, 0, 0, 0, 0, 0, 0, 0, 0, 0, 1] :=
  (congrArg dig (show top = val [0, 0, 0, 0, 0, 0, 0, 0, 0, 0, 0, 0, 1] by decide)).trans (dig_val [0, 0, 0, 0, 0, 0, 0, 0, 0, 0, 0, 0, 1] (by intro x hx; simp at hx; omega) (.inr (by decide)))
theorem top_len : (dig top).length = 13 := by rw [dig_top]; decide

noncomputable def S70 : List AV → Option Ret := nz (sumOf (fun _ : Unit => True) (fun _ => []) (fun _ => ⟨.osl 0 0 13 1, some (ints .u64 (dig top))⟩))
theorem S70_eq : S70 [] = some ⟨.osl 0 0 13 1, some (ints .u64 (dig top))⟩ := sumOf_eq (dom := fun _ : Unit => True) (enc := fun _ : Unit => []) (out := fun _ => ⟨.osl 0 0 13 1, some (ints .u64 (dig top))⟩) () trivial (fun _ _ _ => rfl)
set_option maxRecDepth 100000 in
theorem snd70 : SndE Tryd.prog NoG 70 S70 := by
  refine snd_nz (snd_by [] [] Tryd.func70 (by kernel_rfl) lite70 nt70 rs70 trivial trivial (fun hT args r h => ?_))
  obtain ⟨_, _, rfl, rfl⟩ := sumOf_inv h
  refine ⟨Nat.le_of_ble_eq_true rfl, fun F => ?_⟩
  unfold L70
  refine Lwp.seq (Lwp.regI hT ?_)
  simp only [L70r0, go_sem, List.isEmpty_nil, isC, eq_self, reduceIte, Nat.reduceAdd, Nat.reduceMul, Nat.reduceSub, Nat.reduceLT, Nat.reduceLeDiff, Nat.reduceEqDiff, Nat.reduceDiv, Nat.reduceMod, Nat.reducePow, Nat.reduceBEq, Nat.reduceBNe, Int.reduceLT, Int.reduceLE, Int.reduceGT, Int.reduceGE, Int.reduceBEq, Int.reduceBNe, Int.reduceToNat, Int.reduceAdd, Int.reduceSub, Int.reduceMul, Int.reduceEq, Int.reduceNeg, reduceCtorEq, decide_true, decide_false, Bool.false_eq_true, ty3, ty4, ty22, ty23, ty24, ty27, ty28, eq24]
  refine Lwp.seq (Lwp.regI hT ?_)
  simp only [L70r1, go_sem, List.isEmpty_nil, isC, eq_self, reduceIte, Nat.reduceAdd, Nat.reduceMul, Nat.reduceSub, Nat.reduceLT, Nat.reduceLeDiff, Nat.reduceEqDiff, Nat.reduceDiv, Nat.reduceMod, Nat.reducePow, Nat.reduceBEq, Nat.reduceBNe, Int.reduceLT, Int.reduceLE, Int.reduceGT, Int.reduceGE, Int.reduceBEq, Int.reduceBNe, Int.reduceToNat, Int.reduceAdd, Int.reduceSub, Int.reduceMul, Int.reduceEq, Int.reduceNeg, reduceCtorEq, decide_true, decide_false, Bool.false_eq_true, ty3, ty4, ty22, ty23, ty24, ty27, ty28, eq24]
  refine Lwp.ret (post_blk (v := .osl 1 0 13 1) 1 ?_ ?_ ?_ ?_)
  · simp only [go_sem, List.isEmpty_nil, isC, eq_self, reduceIte, Nat.reduceAdd, Nat.reduceMul, Nat.reduceSub, Nat.reduceLT, Nat.reduceLeDiff, Nat.reduceEqDiff, Nat.reduceDiv, Nat.reduceMod, Nat.reducePow, Nat.reduceBEq, Nat.reduceBNe, Int.reduceLT, Int.reduceLE, Int.reduceGT, Int.reduceGE, Int.reduceBEq, Int.reduceBNe, Int.reduceToNat, Int.reduceAdd, Int.reduceSub, Int.reduceMul, Int.reduceEq, Int.reduceNeg, reduceCtorEq, decide_true, decide_false, Bool.false_eq_true]
  · simp only [go_sem, List.isEmpty_nil, isC, eq_self, reduceIte, Nat.reduceAdd, Nat.reduceMul, Nat.reduceSub, Nat.reduceLT, Nat.reduceLeDiff, Nat.reduceEqDiff, Nat.reduceDiv, Nat.reduceMod, Nat.reducePow, Nat.reduceBEq, Nat.reduceBNe, Int.reduceLT, Int.reduceLE, Int.reduceGT, Int.reduceGE, Int.reduceBEq, Int.reduceBNe, Int.reduceToNat, Int.reduceAdd, Int.reduceSub, Int.reduceMul, Int.reduceEq, Int.reduceNeg, reduceCtorEq, decide_true, decide_false, Bool.false_eq_true]
  · simp only [go_sem, List.isEmpty_nil, isC, eq_self, reduceIte, Nat.reduceAdd, Nat.reduceMul, Nat.reduceSub, Nat.reduceLT, Nat.reduceLeDiff, Nat.reduceEqDiff, Nat.reduceDiv, Nat.reduceMod, Nat.reducePow, Nat.reduceBEq, Nat.reduceBNe, Int.reduceLT, Int.reduceLE, Int.reduceGT, Int.reduceGE, Int.reduceBEq, Int.reduceBNe, Int.reduceToNat, Int.reduceAdd, Int.reduceSub, Int.reduceMul, Int.reduceEq, Int.reduceNeg, reduceCtorEq, decide_true, decide_false, Bool.false_eq_true, dig_top]; rfl
  · simp only [go_sem, List.isEmpty_nil, isC, eq_self, reduceIte, Nat.reduceAdd, Nat.reduceMul, Nat.reduceSub, Nat.reduceLT, Nat.reduceLeDiff, Nat.reduceEqDiff, Nat.reduceDiv, Nat.reduceMod, Nat.reducePow, Nat.reduceBEq, Nat.reduceBNe, Int.reduceLT, Int.reduceLE, Int.reduceGT, Int.reduceGE, Int.reduceBEq, Int.reduceBNe, Int.reduceToNat, Int.reduceAdd, Int.reduceSub, Int.reduceMul, Int.reduceEq, Int.reduceNeg, reduceCtorEq, decide_true, decide_false, Bool.false_eq_true]

end Eng


namespace Eng
open Go Go.Proofs
set_option linter.unusedSimpArgs false
set_option linter.unusedVariables false
def orV (a b : List Int) : Nat → BitVec 64
  | 0 => 0#64
  | i + 1 => orV a b i ||| (BitVec.ofInt 64 (a.getD i 0) ^^^ BitVec.ofInt 64 (b.getD i 0))
theorem orV_zero {a b : List Int} (ha : U6 a) (hb : U6 b) : ∀ n, orV a b n = 0#64 ↔ ∀ i, i < n → a.getD i 0 = b.getD i 0
  | 0 => by simp [orV]
  | n + 1 => by
    rw [orV, BitVec.or_eq_zero_iff, orV_zero ha hb n, BitVec.xor_eq_zero_iff]
    have h1 := ha.at n
    have h2 := hb.at n
    constructor
    · rintro ⟨h, he⟩ i hi
      rcases Nat.lt_or_ge i n with h' | h'
      · exact h i h'
      · have : i = n := by omega
        subst this
        rw [← bv_ofInt h1.1 h1.2, ← bv_ofInt h2.1 h2.2, he]
    · intro h
      exact ⟨fun i hi => h i (by omega), by rw [h n (by omega)]⟩
theorem orV_same {a b : List Int} (ha : U6 a) (hb : U6 b) : orV a b 6 = 0#64 ↔ a = b := by
  rw [orV_zero ha hb]
  constructor
  · intro h
    rw [eq_tab ha.1 (fun i hi => h i hi), ← eq_tab hb.1 (fun i _ => rfl)]
  · rintro rfl i _; rfl
theorem orV_lt {a b : List Int} (ha : U6 a) (hb : U6 b) : (if ((orV a b 6).toNat : Int) < 1 + 0 then (1 : Int) else 0) = if a = b then 1 else 0 := by
  by_cases h : a = b
  · rw [if_pos h, if_pos]
    rw [(orV_same ha hb).2 h]; decide
  · rw [if_neg h, if_neg]
    intro h'
    refine h ((orV_same ha hb).1 (BitVec.eq_of_toNat_eq ?_))
    simp; omega

theorem orV_z (a b : List Int) : ((orV a b 0).toNat : Int) = 0 := by simp [orV]
theorem bvU64 (v : BitVec 64) : U64 (v.toNat : Int) := ⟨Int.natCast_nonneg _, by have := v.isLt; omega⟩
theorem U64_one : U64 1 := ⟨by decide, by decide⟩
noncomputable def S63 : List AV → Option Ret := nz (sumOf (fun p : List Int × List Int => match p with | (a, b) => (U6 a) ∧ (U6 b)) (fun p : List Int × List Int => match p with | (a, b) => [.agg (ints .u64 a), .agg (ints .u64 b)]) (fun p : List Int × List Int => match p with | (a, b) => ⟨.int .u64 (if a = b then 1 else 0), none⟩))
theorem S63_eq (a : List Int) (b : List Int) (h0 : U6 a) (h1 : U6 b) : S63 [.agg (ints .u64 a), .agg (ints .u64 b)] = some ⟨.int .u64 (if a = b then 1 else 0), none⟩ :=
  sumOf_eq (dom := (fun p : List Int × List Int => match p with | (a, b) => (U6 a) ∧ (U6 b))) (enc := (fun p : List Int × List Int => match p with | (a, b) => [.agg (ints .u64 a), .agg (ints .u64 b)])) (out := (fun p : List Int × List Int => match p with | (a, b) => ⟨.int .u64 (if a = b then 1 else 0), none⟩)) (a, b) ⟨h0, h1⟩ (fun y _ e => by
    obtain ⟨y0, y1⟩ := y
    simp only [List.cons.injEq, AV.agg.injEq, AV.int.injEq, AV.slc.injEq, AV.iptr.injEq, AV.bool.injEq, AV.str.injEq, ints_injEq, dig_injEq,  Int.ofNat_inj, BitVec.toNat_inj, true_and, and_true] at e
    first | with_reducible rfl | simp only [e] | rfl)
theorem S63_inv {args : List AV} {r : Ret} (h : sumOf (fun p : List Int × List Int => match p with | (a, b) => (U6 a) ∧ (U6 b)) (fun p : List Int × List Int => match p with | (a, b) => [.agg (ints .u64 a), .agg (ints .u64 b)]) (fun p : List Int × List Int => match p with | (a, b) => ⟨.int .u64 (if a = b then 1 else 0), none⟩) args = some r) : ∃ (a : List Int) (b : List Int), ((U6 a) ∧ (U6 b)) ∧ args = [.agg (ints .u64 a), .agg (ints .u64 b)] ∧ r = ⟨.int .u64 (if a = b then 1 else 0), none⟩ := by
  obtain ⟨x, h1, h2, h3⟩ := sumOf_inv h
  obtain ⟨a, b⟩ := x
  exact ⟨a, b, h1, h2.symm, h3⟩


def St34 (a b : List Int) (i : Nat) : AState := { nt := 28, env := [(2, .own 0 0), (3, .own 1 0), (5, .int .u64 ((orV a b i).toNat : Nat)), (9, .int .i64 i)], mem := [(0, ints .u64 a), (1, ints .u64 b)], next := 20 }

set_option maxRecDepth 100000 in
theorem snd63 : SndE Tryd.prog NoG 63 S63 := by
  refine snd_nz (snd_by [] [(74, subX)] Tryd.func63 (by kernel_rfl) lite63 nt63 rs63 trivial ⟨ext74, trivial⟩ (fun hT args r h => ?_))
  obtain ⟨a, b, ⟨hd0, hd1⟩, rfl, rfl⟩ := S63_inv h
  clear h
  have hM := hM0
  refine ⟨Nat.le_of_ble_eq_true rfl, fun F => ?_⟩
  unfold L63
  have hl := hd0.1
  have hl' := hd1.1
  refine Lwp.seq (Lwp.regI hT ?_)
  simp only [L63r0, go_sem, List.isEmpty_nil, isC, eq_self, reduceIte, Nat.reduceAdd, Nat.reduceMul, Nat.reduceSub, Nat.reduceLT, Nat.reduceLeDiff, Nat.reduceEqDiff, Nat.reduceDiv, Nat.reduceMod, Nat.reducePow, Nat.reduceBEq, Nat.reduceBNe, Int.reduceLT, Int.reduceLE, Int.reduceGT, Int.reduceGE, Int.reduceBEq, Int.reduceBNe, Int.reduceToNat, Int.reduceAdd, Int.reduceSub, Int.reduceMul, Int.reduceEq, Int.reduceNeg, reduceCtorEq, decide_true, decide_false, Bool.false_eq_true, ty3, ty4, ty22, ty23, ty24, ty27, ty28, eq24]
  refine Lwp.seq (Lwp.regI hT ?_)
  simp only [L63r1, go_sem, List.isEmpty_nil, isC, eq_self, reduceIte, Nat.reduceAdd, Nat.reduceMul, Nat.reduceSub, Nat.reduceLT, Nat.reduceLeDiff, Nat.reduceEqDiff, Nat.reduceDiv, Nat.reduceMod, Nat.reducePow, Nat.reduceBEq, Nat.reduceBNe, Int.reduceLT, Int.reduceLE, Int.reduceGT, Int.reduceGE, Int.reduceBEq, Int.reduceBNe, Int.reduceToNat, Int.reduceAdd, Int.reduceSub, Int.reduceMul, Int.reduceEq, Int.reduceNeg, reduceCtorEq, decide_true, decide_false, Bool.false_eq_true, ty3, ty4, ty22, ty23, ty24, ty27, ty28, eq24]
  refine Lwp.seq ?_
  refine Lwp.seq (Lwp.regI hT ?_)
  simp only [L63r2, go_sem, List.isEmpty_nil, isC, eq_self, reduceIte, Nat.reduceAdd, Nat.reduceMul, Nat.reduceSub, Nat.reduceLT, Nat.reduceLeDiff, Nat.reduceEqDiff, Nat.reduceDiv, Nat.reduceMod, Nat.reducePow, Nat.reduceBEq, Nat.reduceBNe, Int.reduceLT, Int.reduceLE, Int.reduceGT, Int.reduceGE, Int.reduceBEq, Int.reduceBNe, Int.reduceToNat, Int.reduceAdd, Int.reduceSub, Int.reduceMul, Int.reduceEq, Int.reduceNeg, reduceCtorEq, decide_true, decide_false, Bool.false_eq_true, ty3, ty4, ty22, ty23, ty24, ty27, ty28, eq24]
  refine Lwp.block (Lwp.range (St34 a b) 6 ?_ (fun i hi => ?_) ?_)
  · refine weak_of rfl ?_ ?_ ?_
    · (simp only [go_sem, List.isEmpty_nil, isC, eq_self, reduceIte, Nat.reduceAdd, Nat.reduceMul, Nat.reduceSub, Nat.reduceLT, Nat.reduceLeDiff, Nat.reduceEqDiff, Nat.reduceDiv, Nat.reduceMod, Nat.reducePow, Nat.reduceBEq, Nat.reduceBNe, Int.reduceLT, Int.reduceLE, Int.reduceGT, Int.reduceGE, Int.reduceBEq, Int.reduceBNe, Int.reduceToNat, Int.reduceAdd, Int.reduceSub, Int.reduceMul, Int.reduceEq, Int.reduceNeg, reduceCtorEq, decide_true, decide_false, Bool.false_eq_true, St34, orV_z]; try rfl)
    · (simp only [go_sem, List.isEmpty_nil, isC, eq_self, reduceIte, Nat.reduceAdd, Nat.reduceMul, Nat.reduceSub, Nat.reduceLT, Nat.reduceLeDiff, Nat.reduceEqDiff, Nat.reduceDiv, Nat.reduceMod, Nat.reducePow, Nat.reduceBEq, Nat.reduceBNe, Int.reduceLT, Int.reduceLE, Int.reduceGT, Int.reduceGE, Int.reduceBEq, Int.reduceBNe, Int.reduceToNat, Int.reduceAdd, Int.reduceSub, Int.reduceMul, Int.reduceEq, Int.reduceNeg, reduceCtorEq, decide_true, decide_false, Bool.false_eq_true, St34, orV_z]; try rfl)
    · (simp only [go_sem, List.isEmpty_nil, isC, eq_self, reduceIte, Nat.reduceAdd, Nat.reduceMul, Nat.reduceSub, Nat.reduceLT, Nat.reduceLeDiff, Nat.reduceEqDiff, Nat.reduceDiv, Nat.reduceMod, Nat.reducePow, Nat.reduceBEq, Nat.reduceBNe, Int.reduceLT, Int.reduceLE, Int.reduceGT, Int.reduceGE, Int.reduceBEq, Int.reduceBNe, Int.reduceToNat, Int.reduceAdd, Int.reduceSub, Int.reduceMul, Int.reduceEq, Int.reduceNeg, reduceCtorEq, decide_true, decide_false, Bool.false_eq_true, St34, orV_z]; try rfl)
  · have h1 : (i : Int) < 6 := by omega
    have h2 : (0 : Int) ≤ i := by omega
    have h4 := wrap_succ hi (by decide)
    unfold St34
    refine Lwp.seq (Lwp.regI hT ?_)
    simp only [L63r3, go_sem, List.isEmpty_nil, isC, eq_self, reduceIte, Nat.reduceAdd, Nat.reduceMul, Nat.reduceSub, Nat.reduceLT, Nat.reduceLeDiff, Nat.reduceEqDiff, Nat.reduceDiv, Nat.reduceMod, Nat.reducePow, Nat.reduceBEq, Nat.reduceBNe, Int.reduceLT, Int.reduceLE, Int.reduceGT, Int.reduceGE, Int.reduceBEq, Int.reduceBNe, Int.reduceToNat, Int.reduceAdd, Int.reduceSub, Int.reduceMul, Int.reduceEq, Int.reduceNeg, reduceCtorEq, decide_true, decide_false, Bool.false_eq_true, ty3, ty4, ty22, ty23, ty24, ty27, ty28, eq24, h1]
    refine Lwp.seq (Lwp.cond rfl (fun _ => Lwp.skip ?_) (fun h => by cases h))
    refine Lwp.seq (Lwp.block ?_)
    refine Lwp.seq (Lwp.regI hT ?_)
    simp only [L63r4, go_sem, List.isEmpty_nil, isC, eq_self, reduceIte, Nat.reduceAdd, Nat.reduceMul, Nat.reduceSub, Nat.reduceLT, Nat.reduceLeDiff, Nat.reduceEqDiff, Nat.reduceDiv, Nat.reduceMod, Nat.reducePow, Nat.reduceBEq, Nat.reduceBNe, Int.reduceLT, Int.reduceLE, Int.reduceGT, Int.reduceGE, Int.reduceBEq, Int.reduceBNe, Int.reduceToNat, Int.reduceAdd, Int.reduceSub, Int.reduceMul, Int.reduceEq, Int.reduceNeg, reduceCtorEq, decide_true, decide_false, Bool.false_eq_true, ty3, ty4, ty22, ty23, ty24, ty27, ty28, eq24]
    refine Lwp.regD hT hM ?_
    simp only [L63r5, go_sem, List.isEmpty_nil, isC, eq_self, reduceIte, Nat.reduceAdd, Nat.reduceMul, Nat.reduceSub, Nat.reduceLT, Nat.reduceLeDiff, Nat.reduceEqDiff, Nat.reduceDiv, Nat.reduceMod, Nat.reducePow, Nat.reduceBEq, Nat.reduceBNe, Int.reduceLT, Int.reduceLE, Int.reduceGT, Int.reduceGE, Int.reduceBEq, Int.reduceBNe, Int.reduceToNat, Int.reduceAdd, Int.reduceSub, Int.reduceMul, Int.reduceEq, Int.reduceNeg, reduceCtorEq, decide_true, decide_false, Bool.false_eq_true, ty3, ty4, ty22, ty23, ty24, ty27, ty28, eq24, h1, h2, hl, hl', hi]
    refine Lwp.regI hT ?_
    simp only [L63r6, go_sem, List.isEmpty_nil, isC, eq_self, reduceIte, Nat.reduceAdd, Nat.reduceMul, Nat.reduceSub, Nat.reduceLT, Nat.reduceLeDiff, Nat.reduceEqDiff, Nat.reduceDiv, Nat.reduceMod, Nat.reducePow, Nat.reduceBEq, Nat.reduceBNe, Int.reduceLT, Int.reduceLE, Int.reduceGT, Int.reduceGE, Int.reduceBEq, Int.reduceBNe, Int.reduceToNat, Int.reduceAdd, Int.reduceSub, Int.reduceMul, Int.reduceEq, Int.reduceNeg, reduceCtorEq, decide_true, decide_false, Bool.false_eq_true, ty3, ty4, ty22, ty23, ty24, ty27, ty28, eq24, h4]
    have h5 : orZ .u64 ((orV a b i).toNat : Int) (xorZ .u64 (a.getD i 0) (b.getD i 0)) = ((orV a b (i + 1)).toNat : Int) := by
      rw [orZ_u64, xorZ_u64, ofInt_bv, ofInt_bv, orV]
    refine weak_of rfl ?_ ?_ ?_
    · (simp only [go_sem, List.isEmpty_nil, isC, eq_self, reduceIte, Nat.reduceAdd, Nat.reduceMul, Nat.reduceSub, Nat.reduceLT, Nat.reduceLeDiff, Nat.reduceEqDiff, Nat.reduceDiv, Nat.reduceMod, Nat.reducePow, Nat.reduceBEq, Nat.reduceBNe, Int.reduceLT, Int.reduceLE, Int.reduceGT, Int.reduceGE, Int.reduceBEq, Int.reduceBNe, Int.reduceToNat, Int.reduceAdd, Int.reduceSub, Int.reduceMul, Int.reduceEq, Int.reduceNeg, reduceCtorEq, decide_true, decide_false, Bool.false_eq_true, h5]; try rfl)
    · (simp only [go_sem, List.isEmpty_nil, isC, eq_self, reduceIte, Nat.reduceAdd, Nat.reduceMul, Nat.reduceSub, Nat.reduceLT, Nat.reduceLeDiff, Nat.reduceEqDiff, Nat.reduceDiv, Nat.reduceMod, Nat.reducePow, Nat.reduceBEq, Nat.reduceBNe, Int.reduceLT, Int.reduceLE, Int.reduceGT, Int.reduceGE, Int.reduceBEq, Int.reduceBNe, Int.reduceToNat, Int.reduceAdd, Int.reduceSub, Int.reduceMul, Int.reduceEq, Int.reduceNeg, reduceCtorEq, decide_true, decide_false, Bool.false_eq_true, h5]; try rfl)
    · (simp only [go_sem, List.isEmpty_nil, isC, eq_self, reduceIte, Nat.reduceAdd, Nat.reduceMul, Nat.reduceSub, Nat.reduceLT, Nat.reduceLeDiff, Nat.reduceEqDiff, Nat.reduceDiv, Nat.reduceMod, Nat.reducePow, Nat.reduceBEq, Nat.reduceBNe, Int.reduceLT, Int.reduceLE, Int.reduceGT, Int.reduceGE, Int.reduceBEq, Int.reduceBNe, Int.reduceToNat, Int.reduceAdd, Int.reduceSub, Int.reduceMul, Int.reduceEq, Int.reduceNeg, reduceCtorEq, decide_true, decide_false, Bool.false_eq_true, h5]; try rfl)
  · unfold St34
    refine Lwp.seq (Lwp.regI hT ?_)
    simp only [L63r3, go_sem, List.isEmpty_nil, isC, eq_self, reduceIte, Nat.reduceAdd, Nat.reduceMul, Nat.reduceSub, Nat.reduceLT, Nat.reduceLeDiff, Nat.reduceEqDiff, Nat.reduceDiv, Nat.reduceMod, Nat.reducePow, Nat.reduceBEq, Nat.reduceBNe, Int.reduceLT, Int.reduceLE, Int.reduceGT, Int.reduceGE, Int.reduceBEq, Int.reduceBNe, Int.reduceToNat, Int.reduceAdd, Int.reduceSub, Int.reduceMul, Int.reduceEq, Int.reduceNeg, reduceCtorEq, decide_true, decide_false, Bool.false_eq_true, ty3, ty4, ty22, ty23, ty24, ty27, ty28, eq24]
    refine Lwp.seq (Lwp.cond rfl (fun h => by cases h) (fun _ => Lwp.exit ?_))
    simp only [go_sem, List.isEmpty_nil, isC, eq_self, reduceIte, Nat.reduceAdd, Nat.reduceMul, Nat.reduceSub, Nat.reduceLT, Nat.reduceLeDiff, Nat.reduceEqDiff, Nat.reduceDiv, Nat.reduceMod, Nat.reducePow, Nat.reduceBEq, Nat.reduceBNe, Int.reduceLT, Int.reduceLE, Int.reduceGT, Int.reduceGE, Int.reduceBEq, Int.reduceBNe, Int.reduceToNat, Int.reduceAdd, Int.reduceSub, Int.reduceMul, Int.reduceEq, Int.reduceNeg, reduceCtorEq, decide_true, decide_false, Bool.false_eq_true]
    have h6 : subX [.int .u64 ((orV a b 6).toNat : Int), .int .u64 1, .int .u64 0] = some (.tup [.int .u64 ((((orV a b 6).toNat : Int) - 1 - 0) % 18446744073709551616), .int .u64 (if a = b then 1 else 0)]) := by
      rw [← orV_lt hd0 hd1]
      exact subX_eq _ 1 0 (bvU64 _) U64_one (by decide) (by decide)
    clear hd0 hd1
    generalize (((orV a b 6).toNat : Nat) : Int) = V at h6 ⊢
    generalize (V - 1 - 0) % 18446744073709551616 = D at h6
    generalize (if a = b then (1 : Int) else 0) = E at h6 ⊢
    refine Lwp.seq (Lwp.regI hT ?_)
    simp only [L63r7, go_sem, List.isEmpty_nil, isC, eq_self, reduceIte, Nat.reduceAdd, Nat.reduceMul, Nat.reduceSub, Nat.reduceLT, Nat.reduceLeDiff, Nat.reduceEqDiff, Nat.reduceDiv, Nat.reduceMod, Nat.reducePow, Nat.reduceBEq, Nat.reduceBNe, Int.reduceLT, Int.reduceLE, Int.reduceGT, Int.reduceGE, Int.reduceBEq, Int.reduceBNe, Int.reduceToNat, Int.reduceAdd, Int.reduceSub, Int.reduceMul, Int.reduceEq, Int.reduceNeg, reduceCtorEq, decide_true, decide_false, Bool.false_eq_true, ty3, ty4, ty22, ty23, ty24, ty27, ty28, eq24, h6]
    refine Lwp.seq (Lwp.regI hT ?_)
    simp only [L63r8, go_sem, List.isEmpty_nil, isC, eq_self, reduceIte, Nat.reduceAdd, Nat.reduceMul, Nat.reduceSub, Nat.reduceLT, Nat.reduceLeDiff, Nat.reduceEqDiff, Nat.reduceDiv, Nat.reduceMod, Nat.reducePow, Nat.reduceBEq, Nat.reduceBNe, Int.reduceLT, Int.reduceLE, Int.reduceGT, Int.reduceGE, Int.reduceBEq, Int.reduceBNe, Int.reduceToNat, Int.reduceAdd, Int.reduceSub, Int.reduceMul, Int.reduceEq, Int.reduceNeg, reduceCtorEq, decide_true, decide_false, Bool.false_eq_true, ty3, ty4, ty22, ty23, ty24, ty27, ty28, eq24]
    refine Lwp.ret (post_val (v := .int .u64 E) ?_ ?_)
    · simp only [go_sem, List.isEmpty_nil, isC, eq_self, reduceIte, Nat.reduceAdd, Nat.reduceMul, Nat.reduceSub, Nat.reduceLT, Nat.reduceLeDiff, Nat.reduceEqDiff, Nat.reduceDiv, Nat.reduceMod, Nat.reducePow, Nat.reduceBEq, Nat.reduceBNe, Int.reduceLT, Int.reduceLE, Int.reduceGT, Int.reduceGE, Int.reduceBEq, Int.reduceBNe, Int.reduceToNat, Int.reduceAdd, Int.reduceSub, Int.reduceMul, Int.reduceEq, Int.reduceNeg, reduceCtorEq, decide_true, decide_false, Bool.false_eq_true]
    · simp only [go_sem, List.isEmpty_nil, isC, eq_self, reduceIte, Nat.reduceAdd, Nat.reduceMul, Nat.reduceSub, Nat.reduceLT, Nat.reduceLeDiff, Nat.reduceEqDiff, Nat.reduceDiv, Nat.reduceMod, Nat.reducePow, Nat.reduceBEq, Nat.reduceBNe, Int.reduceLT, Int.reduceLE, Int.reduceGT, Int.reduceGE, Int.reduceBEq, Int.reduceBNe, Int.reduceToNat, Int.reduceAdd, Int.reduceSub, Int.reduceMul, Int.reduceEq, Int.reduceNeg, reduceCtorEq, decide_true, decide_false, Bool.false_eq_true]

/- Sums and differences of limbs. -/
theorem v64_lim6 {x : Nat} (h : x < 18446744073709551616 ^ 6) : v64 (lim6 x) = x := by
  have key : ∀ n, v64 ((List.range n).map (fun j => ((x / 18446744073709551616 ^ j % 18446744073709551616 : Nat) : Int))) = x % 18446744073709551616 ^ n := by
    have app : ∀ a b : List Int, v64 (a ++ b) = v64 a + 18446744073709551616 ^ a.length * v64 b := by
      intro a b
      induction a with
      | nil => simp [v64]
      | cons y a ih =>
        simp only [List.cons_append, v64, ih, List.length_cons, Nat.pow_succ]
        rw [Nat.mul_add, Nat.add_assoc, ← Nat.mul_assoc, Nat.mul_comm 18446744073709551616 (18446744073709551616 ^ _)]
    intro n
    induction n with
    | zero => simp [v64, Nat.mod_one]
    | succ n ih =>
      rw [List.range_succ, List.map_append, app, ih, Nat.mod_pow_succ]
      simp only [List.length_map, List.length_range, List.map_cons, List.map_nil, v64, Int.toNat_natCast, Nat.mul_zero, Nat.add_zero]
  unfold lim6 tab
  rw [key, Nat.mod_eq_of_lt h]
theorem U6_lim (x : Nat) : U6 (lim6 x) := ⟨lim6_len x, lim6_D64 x⟩
theorem addC_lim (x y : Nat) : ∀ i, i ≤ 6 → addC (lim6 x) (lim6 y) i = (((x % 18446744073709551616 ^ i + y % 18446744073709551616 ^ i) / 18446744073709551616 ^ i : Nat) : Int)
  | 0, _ => by simp [addC, Nat.mod_one]
  | i + 1, h => by
    rw [addC, addC_lim x y i (by omega), lim6_getD x (by omega), lim6_getD y (by omega), add_car 18446744073709551616 x y i (by decide)]
    omega
theorem addD_lim (x y : Nat) : tab 6 (addD (lim6 x) (lim6 y)) = lim6 (x + y) := tab_ext fun i hi => by
  rw [addD, addC_lim x y i (by omega), lim6_getD x hi, lim6_getD y hi, add_dig 18446744073709551616 x y i (by decide)]
  omega
theorem addC_six {x y : Nat} (hx : x < 18446744073709551616 ^ 6) (hy : y < 18446744073709551616 ^ 6) : addC (lim6 x) (lim6 y) 6 = if x + y < 18446744073709551616 ^ 6 then 0 else 1 := by
  rw [addC_lim x y 6 (by decide), Nat.mod_eq_of_lt hx, Nat.mod_eq_of_lt hy]
  split
  · rename_i h; rw [Nat.div_eq_of_lt h]; rfl
  · rename_i h
    have : (x + y) / 18446744073709551616 ^ 6 = 1 := by
      rw [Nat.div_eq_iff (by decide)]; omega
    rw [this]; rfl
theorem subC_lim (x y : Nat) : ∀ i, i ≤ 6 → subC (lim6 x) (lim6 y) i = ((borrow 18446744073709551616 x y i : Nat) : Int)
  | 0, _ => by simp [subC, borrow, Nat.mod_one]
  | i + 1, h => by
    rw [subC, subC_lim x y i (by omega), lim6_getD x (by omega), lim6_getD y (by omega), bor_succ 18446744073709551616 x y i (by decide)]
    split <;> split <;> omega
theorem subC_six {x y : Nat} (hx : x < 18446744073709551616 ^ 6) (hy : y < 18446744073709551616 ^ 6) : subC (lim6 x) (lim6 y) 6 = if x < y then 1 else 0 := by
  rw [subC_lim x y 6 (by decide), borrow, Nat.mod_eq_of_lt hx, Nat.mod_eq_of_lt hy]
  split <;> rfl
/-- The limbs of an integer. -/
def limZ (z : Int) : List Int := tab 6 (fun j => z / (18446744073709551616 : Int) ^ j % 18446744073709551616)
theorem limZ_nat (x : Nat) : limZ (x : Int) = lim6 x := tab_ext fun i _ => by
  rfl
theorem subD_lim (x y : Nat) : tab 6 (subD (lim6 x) (lim6 y)) = limZ ((x : Int) - y) := tab_ext fun i hi => by
  have h := sub_dig 18446744073709551616 x y i (by decide)
  rw [subD, subC_lim x y i (by omega), lim6_getD x hi, lim6_getD y hi]
  exact h.symm
theorem limZ_add (z : Int) : limZ (z + 18446744073709551616 ^ 6) = limZ z := tab_ext fun i hi => by
  obtain ⟨m, hm⟩ : ∃ m, 6 = i + 1 + m := ⟨6 - (i + 1), by omega⟩
  have : (18446744073709551616 : Int) ^ 6 = 18446744073709551616 ^ i * (18446744073709551616 * 18446744073709551616 ^ m) := by rw [hm, Int.pow_add, Int.pow_succ, Int.mul_assoc]
  rw [this, Int.add_mul_ediv_left _ _ (by have : (0 : Int) < 18446744073709551616 ^ i := Int.pow_pos (by decide); omega), Int.add_mul_emod_self_left]
end Eng


namespace Eng
open Go Go.Proofs
set_option linter.unusedSimpArgs false
set_option linter.unusedVariables false
noncomputable def S76 : List AV → Option Ret := nz (sumOf (fun p : Nat => match p with | x => ((dig x).length ≤ 1000000)) (fun p : Nat => match p with | x => [.slc (dig (x)).length (ints .u64 (dig (x)))]) (fun p : Nat => match p with | x => ⟨.int .i64 (nb x : Nat), none⟩))
theorem S76_eq (x : Nat) (h0 : (dig x).length ≤ 1000000) : S76 [.slc (dig (x)).length (ints .u64 (dig (x)))] = some ⟨.int .i64 (nb x : Nat), none⟩ :=
  sumOf_eq (dom := (fun p : Nat => match p with | x => ((dig x).length ≤ 1000000))) (enc := (fun p : Nat => match p with | x => [.slc (dig (x)).length (ints .u64 (dig (x)))])) (out := (fun p : Nat => match p with | x => ⟨.int .i64 (nb x : Nat), none⟩)) x h0 (fun y _ e => by
    simp only [List.cons.injEq, AV.agg.injEq, AV.int.injEq, AV.slc.injEq, AV.iptr.injEq, AV.bool.injEq, AV.str.injEq, ints_injEq, dig_injEq,  Int.ofNat_inj, BitVec.toNat_inj, true_and, and_true] at e
    first | with_reducible rfl | simp only [e] | rfl)
theorem S76_inv {args : List AV} {r : Ret} (h : sumOf (fun p : Nat => match p with | x => ((dig x).length ≤ 1000000)) (fun p : Nat => match p with | x => [.slc (dig (x)).length (ints .u64 (dig (x)))]) (fun p : Nat => match p with | x => ⟨.int .i64 (nb x : Nat), none⟩) args = some r) : ∃ (x : Nat), (((dig x).length ≤ 1000000)) ∧ args = [.slc (dig (x)).length (ints .u64 (dig (x)))] ∧ r = ⟨.int .i64 (nb x : Nat), none⟩ := by
  obtain ⟨x, h1, h2, h3⟩ := sumOf_inv h
  exact ⟨x, h1, h2.symm, h3⟩


theorem half64 {q : Nat} (h : q < 18446744073709551616) : IntKind.u64.wrap ((q : Int).tdiv 2) = ((q / 2 : Nat) : Int) := by
  rw [Int.tdiv_eq_ediv_of_nonneg (by omega), wrap_u64 (by omega) (by omega)]; omega
def St36 (m d i : Nat) : AState := { nt := 25, env := [(3, .int .i64 (32 * m + i : Nat)), (4, .int .u64 (d / 2 ^ i : Nat))], mem := [], next := 20 }

set_option maxRecDepth 100000 in
theorem snd76 : SndE Tryd.prog NoG 76 S76 := by
  refine snd_nz (snd_by [] [] Tryd.func76 (by kernel_rfl) lite76 nt76 rs76 trivial trivial (fun hT args r h => ?_))
  obtain ⟨x, hd0, rfl, rfl⟩ := S76_inv h
  clear h
  have hM := hM0
  refine ⟨Nat.le_of_ble_eq_true rfl, fun F => ?_⟩
  unfold L76
  refine Lwp.seq (Lwp.regI hT ?_)
  simp only [L76r0, go_sem, List.isEmpty_nil, isC, eq_self, reduceIte, Nat.reduceAdd, Nat.reduceMul, Nat.reduceSub, Nat.reduceLT, Nat.reduceLeDiff, Nat.reduceEqDiff, Nat.reduceDiv, Nat.reduceMod, Nat.reducePow, Nat.reduceBEq, Nat.reduceBNe, Int.reduceLT, Int.reduceLE, Int.reduceGT, Int.reduceGE, Int.reduceBEq, Int.reduceBNe, Int.reduceToNat, Int.reduceAdd, Int.reduceSub, Int.reduceMul, Int.reduceEq, Int.reduceNeg, reduceCtorEq, decide_true, decide_false, Bool.false_eq_true, List.isEmpty_nil, ty3, ty4, ty22, ty23, ty24, ty27, ty28, eq24]
  refine Lwp.seq (Lwp.seq (Lwp.region hT ?_))
  by_cases hx : x = 0
  · subst hx
    have e : (dig 0).length = 0 := by rw [dig_zero]; rfl
    simp only [L76r1, go_sem, List.isEmpty_nil, isC, eq_self, reduceIte, Nat.reduceAdd, Nat.reduceMul, Nat.reduceSub, Nat.reduceLT, Nat.reduceLeDiff, Nat.reduceEqDiff, Nat.reduceDiv, Nat.reduceMod, Nat.reducePow, Nat.reduceBEq, Nat.reduceBNe, Int.reduceLT, Int.reduceLE, Int.reduceGT, Int.reduceGE, Int.reduceBEq, Int.reduceBNe, Int.reduceToNat, Int.reduceAdd, Int.reduceSub, Int.reduceMul, Int.reduceEq, Int.reduceNeg, reduceCtorEq, decide_true, decide_false, Bool.false_eq_true, ty3, ty22, ty28, e, Int.natCast_zero]
    refine Lwp.cond rfl (fun _ => ?_) (fun h => by cases h)
    refine Lwp.seq (Lwp.regI hT ?_)
    simp only [L76r2, go_sem, List.isEmpty_nil, isC, eq_self, reduceIte, Nat.reduceAdd, Nat.reduceMul, Nat.reduceSub, Nat.reduceLT, Nat.reduceLeDiff, Nat.reduceEqDiff, Nat.reduceDiv, Nat.reduceMod, Nat.reducePow, Nat.reduceBEq, Nat.reduceBNe, Int.reduceLT, Int.reduceLE, Int.reduceGT, Int.reduceGE, Int.reduceBEq, Int.reduceBNe, Int.reduceToNat, Int.reduceAdd, Int.reduceSub, Int.reduceMul, Int.reduceEq, Int.reduceNeg, reduceCtorEq, decide_true, decide_false, Bool.false_eq_true, List.isEmpty_nil, ty3, ty4, ty22, ty23, ty24, ty27, ty28, eq24]
    refine Lwp.ret (post_val (v := .int .i64 0) ?_ ?_)
    · simp only [go_sem, List.isEmpty_nil, isC, eq_self, reduceIte, Nat.reduceAdd, Nat.reduceMul, Nat.reduceSub, Nat.reduceLT, Nat.reduceLeDiff, Nat.reduceEqDiff, Nat.reduceDiv, Nat.reduceMod, Nat.reducePow, Nat.reduceBEq, Nat.reduceBNe, Int.reduceLT, Int.reduceLE, Int.reduceGT, Int.reduceGE, Int.reduceBEq, Int.reduceBNe, Int.reduceToNat, Int.reduceAdd, Int.reduceSub, Int.reduceMul, Int.reduceEq, Int.reduceNeg, reduceCtorEq, decide_true, decide_false, Bool.false_eq_true]
    · simp only [go_sem, List.isEmpty_nil, isC, eq_self, reduceIte, Nat.reduceAdd, Nat.reduceMul, Nat.reduceSub, Nat.reduceLT, Nat.reduceLeDiff, Nat.reduceEqDiff, Nat.reduceDiv, Nat.reduceMod, Nat.reducePow, Nat.reduceBEq, Nat.reduceBNe, Int.reduceLT, Int.reduceLE, Int.reduceGT, Int.reduceGE, Int.reduceBEq, Int.reduceBNe, Int.reduceToNat, Int.reduceAdd, Int.reduceSub, Int.reduceMul, Int.reduceEq, Int.reduceNeg, reduceCtorEq, decide_true, decide_false, Bool.false_eq_true]; rfl
  · obtain ⟨m, hm⟩ : ∃ m, (dig x).length = m + 1 := ⟨(dig x).length - 1, by
      have : ¬ (dig x).length ≤ 0 := by rw [dig_len_le]; simp; omega
      omega⟩
    have x1 := (dig_len_le x (m + 1)).1 (by omega)
    have x2 : ¬ x < 4294967296 ^ m := by rw [← dig_len_le]; omega
    have g := dig_getD x m
    have hd : x / 4294967296 ^ m < 4294967296 := Nat.div_lt_of_lt_mul (by rw [← Nat.pow_succ]; exact x1)
    have hd1 : 0 < x / 4294967296 ^ m := Nat.div_pos (by omega) (Nat.pow_pos (by decide))
    rw [Nat.mod_eq_of_lt hd] at g
    have key : ∀ i, nb x ≤ 32 * m + i ↔ x / 4294967296 ^ m < 2 ^ i := by
      intro i
      rw [nb_le, Nat.pow_add, Nat.pow_mul, Nat.div_lt_iff_lt_mul (Nat.pow_pos (by decide)), Nat.mul_comm]
    generalize x / 4294967296 ^ m = d at *
    have a1 : (((m + 1 : Nat) : Int) == 0) = false := by simp; omega
    simp only [L76r1, go_sem, List.isEmpty_nil, isC, eq_self, reduceIte, Nat.reduceAdd, Nat.reduceMul, Nat.reduceSub, Nat.reduceLT, Nat.reduceLeDiff, Nat.reduceEqDiff, Nat.reduceDiv, Nat.reduceMod, Nat.reducePow, Nat.reduceBEq, Nat.reduceBNe, Int.reduceLT, Int.reduceLE, Int.reduceGT, Int.reduceGE, Int.reduceBEq, Int.reduceBNe, Int.reduceToNat, Int.reduceAdd, Int.reduceSub, Int.reduceMul, Int.reduceEq, Int.reduceNeg, reduceCtorEq, decide_true, decide_false, Bool.false_eq_true, ty3, ty22, ty28, hm, a1]
    refine Lwp.cond rfl (fun h => by cases h) (fun _ => Lwp.skip ?_)
    simp only [go_sem, List.isEmpty_nil, isC, eq_self, reduceIte, Nat.reduceAdd, Nat.reduceMul, Nat.reduceSub, Nat.reduceLT, Nat.reduceLeDiff, Nat.reduceEqDiff, Nat.reduceDiv, Nat.reduceMod, Nat.reducePow, Nat.reduceBEq, Nat.reduceBNe, Int.reduceLT, Int.reduceLE, Int.reduceGT, Int.reduceGE, Int.reduceBEq, Int.reduceBNe, Int.reduceToNat, Int.reduceAdd, Int.reduceSub, Int.reduceMul, Int.reduceEq, Int.reduceNeg, reduceCtorEq, decide_true, decide_false, Bool.false_eq_true]
    have a2 : IntKind.i64.wrap (((m + 1 : Nat) : Int) - 1) = (m : Int) := by rw [wrap_i64 (by omega) (by omega)]; omega
    have a3 : IntKind.i64.wrap (32 * (m : Int)) = ((32 * m + 0 : Nat) : Int) := by rw [wrap_i64 (by omega) (by omega)]; omega
    have a4 : (0 : Int) ≤ m := by omega
    have a5 : (m : Int) < ((m + 1 : Nat) : Int) := by omega
    have a6 : m < (dig x).length := by omega
    refine Lwp.seq (Lwp.regI hT ?_)
    simp only [L76r3, go_sem, List.isEmpty_nil, isC, eq_self, reduceIte, Nat.reduceAdd, Nat.reduceMul, Nat.reduceSub, Nat.reduceLT, Nat.reduceLeDiff, Nat.reduceEqDiff, Nat.reduceDiv, Nat.reduceMod, Nat.reducePow, Nat.reduceBEq, Nat.reduceBNe, Int.reduceLT, Int.reduceLE, Int.reduceGT, Int.reduceGE, Int.reduceBEq, Int.reduceBNe, Int.reduceToNat, Int.reduceAdd, Int.reduceSub, Int.reduceMul, Int.reduceEq, Int.reduceNeg, reduceCtorEq, decide_true, decide_false, Bool.false_eq_true, List.isEmpty_nil, ty3, ty4, ty22, ty23, ty24, ty27, ty28, eq24, a2, a3]
    have gd : (dig x).getD m 0 = (((d / 2 ^ 0 : Nat)) : Int) := by rw [g]; simp
    have a7 : m ≤ m := Nat.le_refl _
    have a8 : m < m + 1 := by omega
    refine Lwp.seq (Lwp.regI hT ?_)
    simp only [L76r4, go_sem, List.isEmpty_nil, isC, eq_self, reduceIte, Nat.reduceAdd, Nat.reduceMul, Nat.reduceSub, Nat.reduceLT, Nat.reduceLeDiff, Nat.reduceEqDiff, Nat.reduceDiv, Nat.reduceMod, Nat.reducePow, Nat.reduceBEq, Nat.reduceBNe, Int.reduceLT, Int.reduceLE, Int.reduceGT, Int.reduceGE, Int.reduceBEq, Int.reduceBNe, Int.reduceToNat, Int.reduceAdd, Int.reduceSub, Int.reduceMul, Int.reduceEq, Int.reduceNeg, reduceCtorEq, decide_true, decide_false, Bool.false_eq_true, List.isEmpty_nil, ty3, ty4, ty22, ty23, ty24, ty27, ty28, eq24, a2, a4, a5, a6, gd, hm, a7, a8]
    refine Lwp.seq ?_
    refine Lwp.block (Lwp.whl (St36 m d) (fun i => i ≤ 40 ∧ (i = 0 ∨ ¬ nb x ≤ 32 * m + (i - 1))) (fun i => 40 - i) 0 ⟨by omega, .inl rfl⟩ ?_ ?_)
    · refine weak_of rfl ?_ ?_ ?_
      · (simp only [go_sem, List.isEmpty_nil, isC, eq_self, reduceIte, Nat.reduceAdd, Nat.reduceMul, Nat.reduceSub, Nat.reduceLT, Nat.reduceLeDiff, Nat.reduceEqDiff, Nat.reduceDiv, Nat.reduceMod, Nat.reducePow, Nat.reduceBEq, Nat.reduceBNe, Int.reduceLT, Int.reduceLE, Int.reduceGT, Int.reduceGE, Int.reduceBEq, Int.reduceBNe, Int.reduceToNat, Int.reduceAdd, Int.reduceSub, Int.reduceMul, Int.reduceEq, Int.reduceNeg, reduceCtorEq, decide_true, decide_false, Bool.false_eq_true, St36]; try rfl)
      · (simp only [go_sem, List.isEmpty_nil, isC, eq_self, reduceIte, Nat.reduceAdd, Nat.reduceMul, Nat.reduceSub, Nat.reduceLT, Nat.reduceLeDiff, Nat.reduceEqDiff, Nat.reduceDiv, Nat.reduceMod, Nat.reducePow, Nat.reduceBEq, Nat.reduceBNe, Int.reduceLT, Int.reduceLE, Int.reduceGT, Int.reduceGE, Int.reduceBEq, Int.reduceBNe, Int.reduceToNat, Int.reduceAdd, Int.reduceSub, Int.reduceMul, Int.reduceEq, Int.reduceNeg, reduceCtorEq, decide_true, decide_false, Bool.false_eq_true, St36]; try rfl)
      · (simp only [go_sem, List.isEmpty_nil, isC, eq_self, reduceIte, Nat.reduceAdd, Nat.reduceMul, Nat.reduceSub, Nat.reduceLT, Nat.reduceLeDiff, Nat.reduceEqDiff, Nat.reduceDiv, Nat.reduceMod, Nat.reducePow, Nat.reduceBEq, Nat.reduceBNe, Int.reduceLT, Int.reduceLE, Int.reduceGT, Int.reduceGE, Int.reduceBEq, Int.reduceBNe, Int.reduceToNat, Int.reduceAdd, Int.reduceSub, Int.reduceMul, Int.reduceEq, Int.reduceNeg, reduceCtorEq, decide_true, decide_false, Bool.false_eq_true, St36]; try rfl)
    · rintro i ⟨hi, hn⟩
      refine Lwp.seq (Lwp.seq (Lwp.region hT ?_))
      by_cases hz : d / 2 ^ i = 0
      · have b1 : ¬ ((d / 2 ^ i : Nat) : Int) > 0 := by omega
        simp only [L76r5, St36, go_sem, List.isEmpty_nil, isC, eq_self, reduceIte, Nat.reduceAdd, Nat.reduceMul, Nat.reduceSub, Nat.reduceLT, Nat.reduceLeDiff, Nat.reduceEqDiff, Nat.reduceDiv, Nat.reduceMod, Nat.reducePow, Nat.reduceBEq, Nat.reduceBNe, Int.reduceLT, Int.reduceLE, Int.reduceGT, Int.reduceGE, Int.reduceBEq, Int.reduceBNe, Int.reduceToNat, Int.reduceAdd, Int.reduceSub, Int.reduceMul, Int.reduceEq, Int.reduceNeg, reduceCtorEq, decide_true, decide_false, Bool.false_eq_true, ty3, ty22, b1]
        refine Lwp.cond rfl (fun h => by cases h) (fun _ => Lwp.exit ?_)
        simp only [go_sem, List.isEmpty_nil, isC, eq_self, reduceIte, Nat.reduceAdd, Nat.reduceMul, Nat.reduceSub, Nat.reduceLT, Nat.reduceLeDiff, Nat.reduceEqDiff, Nat.reduceDiv, Nat.reduceMod, Nat.reducePow, Nat.reduceBEq, Nat.reduceBNe, Int.reduceLT, Int.reduceLE, Int.reduceGT, Int.reduceGE, Int.reduceBEq, Int.reduceBNe, Int.reduceToNat, Int.reduceAdd, Int.reduceSub, Int.reduceMul, Int.reduceEq, Int.reduceNeg, reduceCtorEq, decide_true, decide_false, Bool.false_eq_true]
        refine Lwp.seq (Lwp.regI hT ?_)
        simp only [L76r8, go_sem, List.isEmpty_nil, isC, eq_self, reduceIte, Nat.reduceAdd, Nat.reduceMul, Nat.reduceSub, Nat.reduceLT, Nat.reduceLeDiff, Nat.reduceEqDiff, Nat.reduceDiv, Nat.reduceMod, Nat.reducePow, Nat.reduceBEq, Nat.reduceBNe, Int.reduceLT, Int.reduceLE, Int.reduceGT, Int.reduceGE, Int.reduceBEq, Int.reduceBNe, Int.reduceToNat, Int.reduceAdd, Int.reduceSub, Int.reduceMul, Int.reduceEq, Int.reduceNeg, reduceCtorEq, decide_true, decide_false, Bool.false_eq_true, List.isEmpty_nil, ty3, ty4, ty22, ty23, ty24, ty27, ty28, eq24]
        have b2 : nb x = 32 * m + i := by
          have h1 : nb x ≤ 32 * m + i := by
            rw [key]
            rcases Nat.div_eq_zero_iff.1 hz with h | h
            · exact absurd h (by have : 0 < 2 ^ i := Nat.pow_pos (by decide); omega)
            · exact h
          rcases hn with h | h
          · subst h
            rw [Nat.pow_zero, Nat.div_one] at hz; omega
          · omega
        refine Lwp.ret (post_val (v := .int .i64 (nb x : Nat)) ?_ ?_)
        · simp only [go_sem, List.isEmpty_nil, isC, eq_self, reduceIte, Nat.reduceAdd, Nat.reduceMul, Nat.reduceSub, Nat.reduceLT, Nat.reduceLeDiff, Nat.reduceEqDiff, Nat.reduceDiv, Nat.reduceMod, Nat.reducePow, Nat.reduceBEq, Nat.reduceBNe, Int.reduceLT, Int.reduceLE, Int.reduceGT, Int.reduceGE, Int.reduceBEq, Int.reduceBNe, Int.reduceToNat, Int.reduceAdd, Int.reduceSub, Int.reduceMul, Int.reduceEq, Int.reduceNeg, reduceCtorEq, decide_true, decide_false, Bool.false_eq_true, b2]
        · simp only [go_sem, List.isEmpty_nil, isC, eq_self, reduceIte, Nat.reduceAdd, Nat.reduceMul, Nat.reduceSub, Nat.reduceLT, Nat.reduceLeDiff, Nat.reduceEqDiff, Nat.reduceDiv, Nat.reduceMod, Nat.reducePow, Nat.reduceBEq, Nat.reduceBNe, Int.reduceLT, Int.reduceLE, Int.reduceGT, Int.reduceGE, Int.reduceBEq, Int.reduceBNe, Int.reduceToNat, Int.reduceAdd, Int.reduceSub, Int.reduceMul, Int.reduceEq, Int.reduceNeg, reduceCtorEq, decide_true, decide_false, Bool.false_eq_true]
      · have b1 : ((d / 2 ^ i : Nat) : Int) > 0 := Int.ofNat_lt.2 (Nat.pos_of_ne_zero hz)
        have i40 : i < 32 := by
          refine Nat.lt_of_not_le fun h => hz ?_
          exact Nat.div_eq_of_lt (Nat.lt_of_lt_of_le hd (show 2 ^ 32 ≤ 2 ^ i from Nat.pow_le_pow_right (by decide) h))
        have b2 : IntKind.u64.wrap (((d / 2 ^ i : Nat) : Int).tdiv 2) = ((d / 2 ^ (i + 1) : Nat) : Int) := by
          have hle : d / 2 ^ i ≤ d := Nat.div_le_self _ _
          rw [half64 (by omega), Nat.pow_succ, ← Nat.div_div_eq_div_mul]
        have b3 : IntKind.i64.wrap (((32 * m + i : Nat) : Int) + 1) = ((32 * m + (i + 1) : Nat) : Int) := by rw [wrap_i64 (by omega) (by omega)]; omega
        simp only [L76r5, St36, go_sem, List.isEmpty_nil, isC, eq_self, reduceIte, Nat.reduceAdd, Nat.reduceMul, Nat.reduceSub, Nat.reduceLT, Nat.reduceLeDiff, Nat.reduceEqDiff, Nat.reduceDiv, Nat.reduceMod, Nat.reducePow, Nat.reduceBEq, Nat.reduceBNe, Int.reduceLT, Int.reduceLE, Int.reduceGT, Int.reduceGE, Int.reduceBEq, Int.reduceBNe, Int.reduceToNat, Int.reduceAdd, Int.reduceSub, Int.reduceMul, Int.reduceEq, Int.reduceNeg, reduceCtorEq, decide_true, decide_false, Bool.false_eq_true, ty3, ty22, b1]
        refine Lwp.cond rfl (fun _ => Lwp.skip ?_) (fun h => by cases h)
        simp only [go_sem, List.isEmpty_nil, isC, eq_self, reduceIte, Nat.reduceAdd, Nat.reduceMul, Nat.reduceSub, Nat.reduceLT, Nat.reduceLeDiff, Nat.reduceEqDiff, Nat.reduceDiv, Nat.reduceMod, Nat.reducePow, Nat.reduceBEq, Nat.reduceBNe, Int.reduceLT, Int.reduceLE, Int.reduceGT, Int.reduceGE, Int.reduceBEq, Int.reduceBNe, Int.reduceToNat, Int.reduceAdd, Int.reduceSub, Int.reduceMul, Int.reduceEq, Int.reduceNeg, reduceCtorEq, decide_true, decide_false, Bool.false_eq_true]
        refine Lwp.block ?_
        refine Lwp.seq (Lwp.regI hT ?_)
        simp only [L76r6, go_sem, List.isEmpty_nil, isC, eq_self, reduceIte, Nat.reduceAdd, Nat.reduceMul, Nat.reduceSub, Nat.reduceLT, Nat.reduceLeDiff, Nat.reduceEqDiff, Nat.reduceDiv, Nat.reduceMod, Nat.reducePow, Nat.reduceBEq, Nat.reduceBNe, Int.reduceLT, Int.reduceLE, Int.reduceGT, Int.reduceGE, Int.reduceBEq, Int.reduceBNe, Int.reduceToNat, Int.reduceAdd, Int.reduceSub, Int.reduceMul, Int.reduceEq, Int.reduceNeg, reduceCtorEq, decide_true, decide_false, Bool.false_eq_true, List.isEmpty_nil, ty3, ty4, ty22, ty23, ty24, ty27, ty28, eq24, b2]
        refine Lwp.regI hT ?_
        simp only [L76r7, go_sem, List.isEmpty_nil, isC, eq_self, reduceIte, Nat.reduceAdd, Nat.reduceMul, Nat.reduceSub, Nat.reduceLT, Nat.reduceLeDiff, Nat.reduceEqDiff, Nat.reduceDiv, Nat.reduceMod, Nat.reducePow, Nat.reduceBEq, Nat.reduceBNe, Int.reduceLT, Int.reduceLE, Int.reduceGT, Int.reduceGE, Int.reduceBEq, Int.reduceBNe, Int.reduceToNat, Int.reduceAdd, Int.reduceSub, Int.reduceMul, Int.reduceEq, Int.reduceNeg, reduceCtorEq, decide_true, decide_false, Bool.false_eq_true, List.isEmpty_nil, ty3, ty4, ty22, ty23, ty24, ty27, ty28, eq24, b3]
        refine ⟨i + 1, ⟨by omega, .inr ?_⟩, by omega, ?_⟩
        · rw [Nat.add_sub_cancel, key]
          intro h
          exact hz (Nat.div_eq_of_lt h)
        · refine weak_of rfl ?_ ?_ ?_
          · (simp only [go_sem, List.isEmpty_nil, isC, eq_self, reduceIte, Nat.reduceAdd, Nat.reduceMul, Nat.reduceSub, Nat.reduceLT, Nat.reduceLeDiff, Nat.reduceEqDiff, Nat.reduceDiv, Nat.reduceMod, Nat.reducePow, Nat.reduceBEq, Nat.reduceBNe, Int.reduceLT, Int.reduceLE, Int.reduceGT, Int.reduceGE, Int.reduceBEq, Int.reduceBNe, Int.reduceToNat, Int.reduceAdd, Int.reduceSub, Int.reduceMul, Int.reduceEq, Int.reduceNeg, reduceCtorEq, decide_true, decide_false, Bool.false_eq_true, St36]; try rfl)
          · (simp only [go_sem, List.isEmpty_nil, isC, eq_self, reduceIte, Nat.reduceAdd, Nat.reduceMul, Nat.reduceSub, Nat.reduceLT, Nat.reduceLeDiff, Nat.reduceEqDiff, Nat.reduceDiv, Nat.reduceMod, Nat.reducePow, Nat.reduceBEq, Nat.reduceBNe, Int.reduceLT, Int.reduceLE, Int.reduceGT, Int.reduceGE, Int.reduceBEq, Int.reduceBNe, Int.reduceToNat, Int.reduceAdd, Int.reduceSub, Int.reduceMul, Int.reduceEq, Int.reduceNeg, reduceCtorEq, decide_true, decide_false, Bool.false_eq_true, St36]; try rfl)
          · (simp only [go_sem, List.isEmpty_nil, isC, eq_self, reduceIte, Nat.reduceAdd, Nat.reduceMul, Nat.reduceSub, Nat.reduceLT, Nat.reduceLeDiff, Nat.reduceEqDiff, Nat.reduceDiv, Nat.reduceMod, Nat.reducePow, Nat.reduceBEq, Nat.reduceBNe, Int.reduceLT, Int.reduceLE, Int.reduceGT, Int.reduceGE, Int.reduceBEq, Int.reduceBNe, Int.reduceToNat, Int.reduceAdd, Int.reduceSub, Int.reduceMul, Int.reduceEq, Int.reduceNeg, reduceCtorEq, decide_true, decide_false, Bool.false_eq_true, St36]; try rfl)

theorem dig12 {x : Nat} (h : x < 18446744073709551616 ^ 6) : (dig x).length ≤ 12 := by rw [dig_len_le]; exact h
theorem S62_lim {x y : Nat} (hx : x < 18446744073709551616 ^ 6) (hy : y < 18446744073709551616 ^ 6) : S62 [.agg (ints .u64 (lim6 x)), .agg (ints .u64 (lim6 y))] = some ⟨.tup [.agg (ints .u64 (lim6 (x + y))), .int .u64 (if x + y < 18446744073709551616 ^ 6 then 0 else 1)], none⟩ := by
  rw [S62_eq _ _ (U6_lim x) (U6_lim y), addD_lim, addC_six hx hy]
theorem S60_lim (x y : Nat) : S60 [.agg (ints .u64 (lim6 x)), .agg (ints .u64 (lim6 y))] = some ⟨.tup [.agg (ints .u64 (limZ ((x : Int) - y))), .int .u64 ((borrow 18446744073709551616 x y 6 : Nat) : Int)], none⟩ := by
  rw [S60_eq _ _ (U6_lim x) (U6_lim y), subD_lim, subC_lim x y 6 (by decide)]
end Eng


namespace Eng
open Go
set_option linter.unusedSimpArgs false
/-! Values of lists of digits, one digit laid anew. -/
theorem v64_set : ∀ (l : List Int) (i : Nat), i < l.length → ∀ x : Int, v64 (l.set i x) + 18446744073709551616 ^ i * (l.getD i 0).toNat = v64 l + 18446744073709551616 ^ i * x.toNat
  | [], i, h, _ => by simp at h
  | y :: l, 0, _, x => by simp [v64]; omega
  | y :: l, i + 1, h, x => by
    have := v64_set l i (by simpa using h) x
    simp only [List.set_cons_succ, v64, List.getD_cons_succ, Nat.pow_succ]
    rw [Nat.mul_comm (18446744073709551616 ^ i) 18446744073709551616, Nat.mul_assoc, Nat.mul_assoc]
    generalize 18446744073709551616 ^ i * (l.getD i 0).toNat = p at *
    generalize 18446744073709551616 ^ i * x.toNat = q at *
    omega
theorem val_set : ∀ (l : List Int) (i : Nat), i < l.length → ∀ x : Int, val (l.set i x) + 4294967296 ^ i * (l.getD i 0).toNat = val l + 4294967296 ^ i * x.toNat
  | [], i, h, _ => by simp at h
  | y :: l, 0, _, x => by simp [val]; omega
  | y :: l, i + 1, h, x => by
    have := val_set l i (by simpa using h) x
    simp only [List.set_cons_succ, val, List.getD_cons_succ, Nat.pow_succ]
    rw [Nat.mul_comm (4294967296 ^ i) 4294967296, Nat.mul_assoc, Nat.mul_assoc]
    generalize 4294967296 ^ i * (l.getD i 0).toNat = p at *
    generalize 4294967296 ^ i * x.toNat = q at *
    omega
theorem D64.set {l : List Int} (h : D64 l) (i : Nat) {x : Int} (h0 : 0 ≤ x) (h1 : x < 18446744073709551616) : D64 (l.set i x) := by
  intro y hy
  rcases List.mem_or_eq_of_mem_set hy with hy | rfl
  · exact h y hy
  · exact ⟨h0, h1⟩
theorem D32.set {l : List Int} (h : D32 l) (i : Nat) {x : Int} (h0 : 0 ≤ x) (h1 : x < 4294967296) : D32 (l.set i x) := by
  intro y hy
  rcases List.mem_or_eq_of_mem_set hy with hy | rfl
  · exact h y hy
  · exact ⟨h0, h1⟩
theorem D64.at {l : List Int} (h : D64 l) (i : Nat) : 0 ≤ l.getD i 0 ∧ l.getD i 0 < 18446744073709551616 := by
  rcases Nat.lt_or_ge i l.length with hi | hi
  · rw [List.getD_eq_getElem?_getD, List.getElem?_eq_getElem hi, Option.getD_some]
    exact h _ (List.getElem_mem hi)
  · rw [List.getD_eq_getElem?_getD, List.getElem?_eq_none hi]
    exact ⟨by decide, by decide⟩
def limN (n x : Nat) : List Int := tab n (fun j => ((x / 18446744073709551616 ^ j % 18446744073709551616 : Nat) : Int))
theorem limN_len (n x : Nat) : (limN n x).length = n := tab_len _ _
theorem limN_at (n x : Nat) {j : Nat} (h : j < n) : (limN n x).getD j 0 = ((x / 18446744073709551616 ^ j % 18446744073709551616 : Nat) : Int) := tab_getD _ _ h
theorem limN_D64 (n x : Nat) : D64 (limN n x) := by
  intro y hy
  simp only [limN, tab, List.mem_map] at hy
  obtain ⟨j, _, rfl⟩ := hy
  omega
theorem limN_of {n x : Nat} {l : List Int} (hl : l.length = n) (h : D64 l) (hx : v64 l = x) : l = limN n x := by
  subst hx; exact eq_tab hl fun i _ => v64_getD h i
theorem limN_v64 {n x : Nat} (h : x < 18446744073709551616 ^ n) : v64 (limN n x) = x := by
  have hd := limN_D64 n x
  have hl := limN_len n x
  have key : ∀ k, k ≤ n → v64 (limN n x) % 18446744073709551616 ^ k = x % 18446744073709551616 ^ k := by
    intro k
    induction k with
    | zero => intro _; simp [Nat.mod_one]
    | succ k ih =>
      intro hk
      rw [Nat.mod_pow_succ, Nat.mod_pow_succ, ih (by omega)]
      have h1 := v64_getD hd k
      rw [limN_at n x (by omega)] at h1
      rw [Int.ofNat_inj.1 h1]
  have h2 := key n (Nat.le_refl _)
  have h3 := v64_lt hd
  rw [hl] at h3
  rwa [Nat.mod_eq_of_lt h3, Nat.mod_eq_of_lt h] at h2
theorem limN_zero (n : Nat) : limN n 0 = List.replicate n 0 := by rw [rep_tab]; exact tab_ext fun k _ => by simp
/-- A step of a product: the digits keep the value. -/
theorem mul_step {B V P x y o c s W Z : Nat} (hs : s = x * y + o + c) (hW : W + P * o = V + P * (s % B)) (hV : V + c * P = Z) : W + s / B * (P * B) = Z + P * (x * y) := by
  have h1 : P * s = P * (x * y) + P * o + P * c := by rw [hs, Nat.mul_add, Nat.mul_add]
  have h2 : P * (s % B) + s / B * (P * B) = P * s := by
    have := Nat.mod_add_div s B
    calc P * (s % B) + s / B * (P * B) = P * (s % B + B * (s / B)) := by rw [Nat.mul_add, Nat.mul_comm (s / B), Nat.mul_assoc]
      _ = P * s := by rw [this]
  have h3 : c * P = P * c := Nat.mul_comm _ _
  omega
theorem mul_fits {B x y o c : Nat} (hx : x < B) (hy : y < B) (ho : o < B) (hc : c < B) : x * y + o + c < B * B := by
  have h1 : x * y ≤ (B - 1) * (B - 1) := Nat.mul_le_mul (by omega) (by omega)
  obtain ⟨b, rfl⟩ : ∃ b, B = b + 1 := ⟨B - 1, by omega⟩
  simp only [Nat.add_sub_cancel] at h1
  have : (b + 1) * (b + 1) = b * b + b + b + 1 := by rw [Nat.add_mul, Nat.mul_add]; omega
  omega
theorem mul_div_lt {B s : Nat} (h : s < B * B) : s / B < B := Nat.div_lt_of_lt_mul h
end Eng
namespace Eng
open Go
theorem val_getD : ∀ {l : List Int}, D32 l → ∀ i, l.getD i 0 = ((val l / 4294967296 ^ i % 4294967296 : Nat) : Int)
  | [], _, i => by simp [val]
  | x :: l, h, 0 => by
    have hx := h x (by simp)
    simp [val]; omega
  | x :: l, h, i + 1 => by
    have hx := h x (by simp)
    rw [List.getD_cons_succ, val_getD (fun y hy => h y (by simp [hy])) i, val, Nat.pow_succ, Nat.mul_comm (4294967296 ^ i), ← Nat.div_div_eq_div_mul]
    rw [show (x.toNat + 4294967296 * val l) / 4294967296 = val l by omega]
theorem low_of {m x : Nat} {l : List Int} (hl : l.length = m) (h : D32 l) (hx : val l = x) : l = low m x := by
  subst hx; exact eq_tab hl fun i _ => val_getD h i
end Eng


namespace Eng
open Go Go.Proofs
set_option linter.unusedSimpArgs false
set_option linter.unusedVariables false
theorem addX_nat (p q : Nat) (hp : p < 18446744073709551616) (hq : q < 18446744073709551616) : addX [.int .u64 (p : Nat), .int .u64 (q : Nat), .int .u64 0] = some (.tup [.int .u64 ((p + q) % 18446744073709551616 : Nat), .int .u64 ((p + q) / 18446744073709551616 : Nat)]) := by
  have h := addX_eq (p : Int) (q : Int) 0 ⟨by omega, by omega⟩ ⟨by omega, by omega⟩ (by decide) (by decide)
  rw [h]
  have e1 : ((p : Int) + q + 0) % 18446744073709551616 = (((p + q) % 18446744073709551616 : Nat) : Int) := by omega
  have e2 : ((p : Int) + q + 0) / 18446744073709551616 = (((p + q) / 18446744073709551616 : Nat) : Int) := by omega
  rw [e1, e2]
theorem mask32 (x : Nat) (hx : x < 18446744073709551616) : andZ .u64 (x : Int) 4294967295 = ((x % 4294967296 : Nat) : Int) := by
  rw [andZ_u64, BitVec.toNat_and, ofInt_toNat (by omega) (by omega), ofInt_toNat (by decide) (by decide)]
  have : (4294967295 : Int).toNat = 2 ^ 32 - 1 := rfl
  rw [this, Nat.and_two_pow_sub_one_eq_mod, Int.toNat_natCast]
theorem shr32 (x : Nat) : shrZ .u64 (x : Int) 32 = ((x / 4294967296 : Nat) : Int) := by
  have h : shrZ .u64 (x : Int) 32 = (x : Int).fdiv (2 ^ (min (32 : Int).toNat 64)) := rfl
  rw [h, show (2 : Int) ^ (min (32 : Int).toNat 64) = 4294967296 from rfl, Int.fdiv_eq_ediv_of_nonneg _ (by decide)]
  omega

noncomputable def S80 : List AV → Option Ret := nz (sumOf (fun p : Nat × Nat => match p with | (x, y) => (x < 18446744073709551616) ∧ (y < 18446744073709551616)) (fun p : Nat × Nat => match p with | (x, y) => [.int .u64 x, .int .u64 y]) (fun p : Nat × Nat => match p with | (x, y) => ⟨.tup [.int .u64 (x * y / 18446744073709551616 : Nat), .int .u64 (x * y % 18446744073709551616 : Nat)], none⟩))
theorem S80_eq (x : Nat) (y : Nat) (h0 : x < 18446744073709551616) (h1 : y < 18446744073709551616) : S80 [.int .u64 x, .int .u64 y] = some ⟨.tup [.int .u64 (x * y / 18446744073709551616 : Nat), .int .u64 (x * y % 18446744073709551616 : Nat)], none⟩ :=
  sumOf_eq (dom := (fun p : Nat × Nat => match p with | (x, y) => (x < 18446744073709551616) ∧ (y < 18446744073709551616))) (enc := (fun p : Nat × Nat => match p with | (x, y) => [.int .u64 x, .int .u64 y])) (out := (fun p : Nat × Nat => match p with | (x, y) => ⟨.tup [.int .u64 (x * y / 18446744073709551616 : Nat), .int .u64 (x * y % 18446744073709551616 : Nat)], none⟩)) (x, y) ⟨h0, h1⟩ (fun y _ e => by
    obtain ⟨y0, y1⟩ := y
    simp only [List.cons.injEq, AV.agg.injEq, AV.int.injEq, AV.slc.injEq, AV.iptr.injEq, AV.bool.injEq, AV.str.injEq, ints_injEq, dig_injEq,  Int.ofNat_inj, BitVec.toNat_inj, true_and, and_true] at e
    first | with_reducible rfl | simp only [e] | rfl)
theorem S80_inv {args : List AV} {r : Ret} (h : sumOf (fun p : Nat × Nat => match p with | (x, y) => (x < 18446744073709551616) ∧ (y < 18446744073709551616)) (fun p : Nat × Nat => match p with | (x, y) => [.int .u64 x, .int .u64 y]) (fun p : Nat × Nat => match p with | (x, y) => ⟨.tup [.int .u64 (x * y / 18446744073709551616 : Nat), .int .u64 (x * y % 18446744073709551616 : Nat)], none⟩) args = some r) : ∃ (x : Nat) (y : Nat), ((x < 18446744073709551616) ∧ (y < 18446744073709551616)) ∧ args = [.int .u64 x, .int .u64 y] ∧ r = ⟨.tup [.int .u64 (x * y / 18446744073709551616 : Nat), .int .u64 (x * y % 18446744073709551616 : Nat)], none⟩ := by
  obtain ⟨x, h1, h2, h3⟩ := sumOf_inv h
  obtain ⟨x, y⟩ := x
  exact ⟨x, y, h1, h2.symm, h3⟩


set_option maxRecDepth 100000 in
theorem snd80 : SndE Tryd.prog NoG 80 S80 := by
  refine snd_nz (snd_by [] [] Tryd.func80 (by kernel_rfl) lite80 nt80 rs80 trivial trivial (fun hT args r h => ?_))
  obtain ⟨x, y, ⟨hd0, hd1⟩, rfl, rfl⟩ := S80_inv h
  clear h
  have hM := hM0
  refine ⟨Nat.le_of_ble_eq_true rfl, fun F => ?_⟩
  unfold L80
  have hx0 : x % 4294967296 < 4294967296 := Nat.mod_lt _ (by decide)
  have hy0 : y % 4294967296 < 4294967296 := Nat.mod_lt _ (by decide)
  have hx1 : x / 4294967296 < 4294967296 := by omega
  have hy1 : y / 4294967296 < 4294967296 := by omega
  have m1 := mask32 x hd0
  have m2 := mask32 y hd1
  have s1 := shr32 x
  have s2 := shr32 y
  have hP : x * y = 18446744073709551616 * (x / 4294967296 * (y / 4294967296)) + 4294967296 * (x / 4294967296 * (y % 4294967296) + x % 4294967296 * (y / 4294967296)) + x % 4294967296 * (y % 4294967296) := by
    have e1 : x = 4294967296 * (x / 4294967296) + x % 4294967296 := by omega
    have e2 : y = 4294967296 * (y / 4294967296) + y % 4294967296 := by omega
    generalize x / 4294967296 = a at *
    generalize x % 4294967296 = b at *
    generalize y / 4294967296 = c at *
    generalize y % 4294967296 = d at *
    subst e1 e2
    rw [Nat.add_mul, Nat.mul_add, Nat.mul_add]
    have f1 : 4294967296 * a * (4294967296 * c) = 18446744073709551616 * (a * c) := by
      rw [Nat.mul_mul_mul_comm]
    have f2 : 4294967296 * a * d = 4294967296 * (a * d) := Nat.mul_assoc _ _ _
    have f3 : b * (4294967296 * c) = 4294967296 * (b * c) := Nat.mul_left_comm _ _ _
    rw [f1, f2, f3]; omega
  have b1 : x / 4294967296 * (y / 4294967296) ≤ 4294967295 * 4294967295 := Nat.mul_le_mul (by omega) (by omega)
  have b2 : x / 4294967296 * (y % 4294967296) ≤ 4294967295 * 4294967295 := Nat.mul_le_mul (by omega) (by omega)
  have b3 : x % 4294967296 * (y / 4294967296) ≤ 4294967295 * 4294967295 := Nat.mul_le_mul (by omega) (by omega)
  have b4 : x % 4294967296 * (y % 4294967296) ≤ 4294967295 * 4294967295 := Nat.mul_le_mul (by omega) (by omega)
  have c1 : ((x % 4294967296 : Nat) : Int) * ((y % 4294967296 : Nat) : Int) = ((x % 4294967296 * (y % 4294967296) : Nat) : Int) := (Int.natCast_mul _ _).symm
  have c2 : ((x / 4294967296 : Nat) : Int) * ((y % 4294967296 : Nat) : Int) = ((x / 4294967296 * (y % 4294967296) : Nat) : Int) := (Int.natCast_mul _ _).symm
  have c3 : ((x % 4294967296 : Nat) : Int) * ((y / 4294967296 : Nat) : Int) = ((x % 4294967296 * (y / 4294967296) : Nat) : Int) := (Int.natCast_mul _ _).symm
  have c4 : ((x / 4294967296 : Nat) : Int) * ((y / 4294967296 : Nat) : Int) = ((x / 4294967296 * (y / 4294967296) : Nat) : Int) := (Int.natCast_mul _ _).symm
  have c5 : (x : Int) * (y : Int) = ((x * y : Nat) : Int) := (Int.natCast_mul _ _).symm
  generalize x / 4294967296 * (y / 4294967296) = A at *
  generalize x / 4294967296 * (y % 4294967296) = B at *
  generalize x % 4294967296 * (y / 4294967296) = C at *
  generalize x % 4294967296 * (y % 4294967296) = D at *
  generalize x * y = P at *
  generalize x / 4294967296 = x1 at *
  generalize x % 4294967296 = x0 at *
  generalize y / 4294967296 = y1 at *
  generalize y % 4294967296 = y0 at *
  have w1 : IntKind.u64.wrap (D : Int) = D := wrap_u64 (by omega) (by omega)
  have w2 : IntKind.u64.wrap (B : Int) = B := wrap_u64 (by omega) (by omega)
  have w3 : IntKind.u64.wrap (C : Int) = C := wrap_u64 (by omega) (by omega)
  have w4 : IntKind.u64.wrap (A : Int) = A := wrap_u64 (by omega) (by omega)
  have s3 := shr32 D
  have w5 : IntKind.u64.wrap ((B : Int) + ((D / 4294967296 : Nat) : Int)) = ((B + D / 4294967296 : Nat) : Int) := by rw [wrap_u64 (by omega) (by omega)]; omega
  have m3 := mask32 (B + D / 4294967296) (by omega)
  have s4 := shr32 (B + D / 4294967296)
  have w6 : IntKind.u64.wrap ((((B + D / 4294967296) % 4294967296 : Nat) : Int) + (C : Int)) = (((B + D / 4294967296) % 4294967296 + C : Nat) : Int) := by rw [wrap_u64 (by omega) (by omega)]; omega
  have w7 : IntKind.u64.wrap ((A : Int) + (((B + D / 4294967296) / 4294967296 : Nat) : Int)) = ((A + (B + D / 4294967296) / 4294967296 : Nat) : Int) := by rw [wrap_u64 (by omega) (by omega)]; omega
  have s5 := shr32 ((B + D / 4294967296) % 4294967296 + C)
  have w8 : IntKind.u64.wrap (((A + (B + D / 4294967296) / 4294967296 : Nat) : Int) + ((((B + D / 4294967296) % 4294967296 + C) / 4294967296 : Nat) : Int)) = ((P / 18446744073709551616 : Nat) : Int) := by
    rw [wrap_u64 (by omega) (by omega)]; omega
  have w9 : IntKind.u64.wrap (P : Int) = ((P % 18446744073709551616 : Nat) : Int) := by rw [wrap_u64_mod]; omega
  refine Lwp.seq (Lwp.regI hT ?_)
  simp only [L80r0, go_sem, List.isEmpty_nil, isC, eq_self, reduceIte, Nat.reduceAdd, Nat.reduceMul, Nat.reduceSub, Nat.reduceLT, Nat.reduceLeDiff, Nat.reduceEqDiff, Nat.reduceDiv, Nat.reduceMod, Nat.reducePow, Nat.reduceBEq, Nat.reduceBNe, Int.reduceLT, Int.reduceLE, Int.reduceGT, Int.reduceGE, Int.reduceBEq, Int.reduceBNe, Int.reduceToNat, Int.reduceAdd, Int.reduceSub, Int.reduceMul, Int.reduceEq, Int.reduceNeg, reduceCtorEq, decide_true, decide_false, Bool.false_eq_true, ty3, ty4, ty5, ty9, ty22, ty24, ty38, ty39, ty40, ty43, ty27, ty28, ty74, ty75, ty59, eq24]
  refine Lwp.seq (Lwp.regI hT ?_)
  simp only [L80r1, go_sem, List.isEmpty_nil, isC, eq_self, reduceIte, Nat.reduceAdd, Nat.reduceMul, Nat.reduceSub, Nat.reduceLT, Nat.reduceLeDiff, Nat.reduceEqDiff, Nat.reduceDiv, Nat.reduceMod, Nat.reducePow, Nat.reduceBEq, Nat.reduceBNe, Int.reduceLT, Int.reduceLE, Int.reduceGT, Int.reduceGE, Int.reduceBEq, Int.reduceBNe, Int.reduceToNat, Int.reduceAdd, Int.reduceSub, Int.reduceMul, Int.reduceEq, Int.reduceNeg, reduceCtorEq, decide_true, decide_false, Bool.false_eq_true, ty3, ty4, ty5, ty9, ty22, ty24, ty38, ty39, ty40, ty43, ty27, ty28, ty74, ty75, ty59, eq24, m1]
  refine Lwp.seq (Lwp.regI hT ?_)
  simp only [L80r2, go_sem, List.isEmpty_nil, isC, eq_self, reduceIte, Nat.reduceAdd, Nat.reduceMul, Nat.reduceSub, Nat.reduceLT, Nat.reduceLeDiff, Nat.reduceEqDiff, Nat.reduceDiv, Nat.reduceMod, Nat.reducePow, Nat.reduceBEq, Nat.reduceBNe, Int.reduceLT, Int.reduceLE, Int.reduceGT, Int.reduceGE, Int.reduceBEq, Int.reduceBNe, Int.reduceToNat, Int.reduceAdd, Int.reduceSub, Int.reduceMul, Int.reduceEq, Int.reduceNeg, reduceCtorEq, decide_true, decide_false, Bool.false_eq_true, ty3, ty4, ty5, ty9, ty22, ty24, ty38, ty39, ty40, ty43, ty27, ty28, ty74, ty75, ty59, eq24, s1]
  refine Lwp.seq (Lwp.regI hT ?_)
  simp only [L80r3, go_sem, List.isEmpty_nil, isC, eq_self, reduceIte, Nat.reduceAdd, Nat.reduceMul, Nat.reduceSub, Nat.reduceLT, Nat.reduceLeDiff, Nat.reduceEqDiff, Nat.reduceDiv, Nat.reduceMod, Nat.reducePow, Nat.reduceBEq, Nat.reduceBNe, Int.reduceLT, Int.reduceLE, Int.reduceGT, Int.reduceGE, Int.reduceBEq, Int.reduceBNe, Int.reduceToNat, Int.reduceAdd, Int.reduceSub, Int.reduceMul, Int.reduceEq, Int.reduceNeg, reduceCtorEq, decide_true, decide_false, Bool.false_eq_true, ty3, ty4, ty5, ty9, ty22, ty24, ty38, ty39, ty40, ty43, ty27, ty28, ty74, ty75, ty59, eq24, m2]
  refine Lwp.seq (Lwp.regI hT ?_)
  simp only [L80r4, go_sem, List.isEmpty_nil, isC, eq_self, reduceIte, Nat.reduceAdd, Nat.reduceMul, Nat.reduceSub, Nat.reduceLT, Nat.reduceLeDiff, Nat.reduceEqDiff, Nat.reduceDiv, Nat.reduceMod, Nat.reducePow, Nat.reduceBEq, Nat.reduceBNe, Int.reduceLT, Int.reduceLE, Int.reduceGT, Int.reduceGE, Int.reduceBEq, Int.reduceBNe, Int.reduceToNat, Int.reduceAdd, Int.reduceSub, Int.reduceMul, Int.reduceEq, Int.reduceNeg, reduceCtorEq, decide_true, decide_false, Bool.false_eq_true, ty3, ty4, ty5, ty9, ty22, ty24, ty38, ty39, ty40, ty43, ty27, ty28, ty74, ty75, ty59, eq24, s2]
  refine Lwp.seq (Lwp.regI hT ?_)
  simp only [L80r5, go_sem, List.isEmpty_nil, isC, eq_self, reduceIte, Nat.reduceAdd, Nat.reduceMul, Nat.reduceSub, Nat.reduceLT, Nat.reduceLeDiff, Nat.reduceEqDiff, Nat.reduceDiv, Nat.reduceMod, Nat.reducePow, Nat.reduceBEq, Nat.reduceBNe, Int.reduceLT, Int.reduceLE, Int.reduceGT, Int.reduceGE, Int.reduceBEq, Int.reduceBNe, Int.reduceToNat, Int.reduceAdd, Int.reduceSub, Int.reduceMul, Int.reduceEq, Int.reduceNeg, reduceCtorEq, decide_true, decide_false, Bool.false_eq_true, ty3, ty4, ty5, ty9, ty22, ty24, ty38, ty39, ty40, ty43, ty27, ty28, ty74, ty75, ty59, eq24, c1, w1]
  refine Lwp.seq (Lwp.regI hT ?_)
  simp only [L80r6, go_sem, List.isEmpty_nil, isC, eq_self, reduceIte, Nat.reduceAdd, Nat.reduceMul, Nat.reduceSub, Nat.reduceLT, Nat.reduceLeDiff, Nat.reduceEqDiff, Nat.reduceDiv, Nat.reduceMod, Nat.reducePow, Nat.reduceBEq, Nat.reduceBNe, Int.reduceLT, Int.reduceLE, Int.reduceGT, Int.reduceGE, Int.reduceBEq, Int.reduceBNe, Int.reduceToNat, Int.reduceAdd, Int.reduceSub, Int.reduceMul, Int.reduceEq, Int.reduceNeg, reduceCtorEq, decide_true, decide_false, Bool.false_eq_true, ty3, ty4, ty5, ty9, ty22, ty24, ty38, ty39, ty40, ty43, ty27, ty28, ty74, ty75, ty59, eq24, c2, w2, s3, w5]
  refine Lwp.seq (Lwp.regI hT ?_)
  simp only [L80r7, go_sem, List.isEmpty_nil, isC, eq_self, reduceIte, Nat.reduceAdd, Nat.reduceMul, Nat.reduceSub, Nat.reduceLT, Nat.reduceLeDiff, Nat.reduceEqDiff, Nat.reduceDiv, Nat.reduceMod, Nat.reducePow, Nat.reduceBEq, Nat.reduceBNe, Int.reduceLT, Int.reduceLE, Int.reduceGT, Int.reduceGE, Int.reduceBEq, Int.reduceBNe, Int.reduceToNat, Int.reduceAdd, Int.reduceSub, Int.reduceMul, Int.reduceEq, Int.reduceNeg, reduceCtorEq, decide_true, decide_false, Bool.false_eq_true, ty3, ty4, ty5, ty9, ty22, ty24, ty38, ty39, ty40, ty43, ty27, ty28, ty74, ty75, ty59, eq24, m3]
  refine Lwp.seq (Lwp.regI hT ?_)
  simp only [L80r8, go_sem, List.isEmpty_nil, isC, eq_self, reduceIte, Nat.reduceAdd, Nat.reduceMul, Nat.reduceSub, Nat.reduceLT, Nat.reduceLeDiff, Nat.reduceEqDiff, Nat.reduceDiv, Nat.reduceMod, Nat.reducePow, Nat.reduceBEq, Nat.reduceBNe, Int.reduceLT, Int.reduceLE, Int.reduceGT, Int.reduceGE, Int.reduceBEq, Int.reduceBNe, Int.reduceToNat, Int.reduceAdd, Int.reduceSub, Int.reduceMul, Int.reduceEq, Int.reduceNeg, reduceCtorEq, decide_true, decide_false, Bool.false_eq_true, ty3, ty4, ty5, ty9, ty22, ty24, ty38, ty39, ty40, ty43, ty27, ty28, ty74, ty75, ty59, eq24, s4]
  refine Lwp.seq (Lwp.regI hT ?_)
  simp only [L80r9, go_sem, List.isEmpty_nil, isC, eq_self, reduceIte, Nat.reduceAdd, Nat.reduceMul, Nat.reduceSub, Nat.reduceLT, Nat.reduceLeDiff, Nat.reduceEqDiff, Nat.reduceDiv, Nat.reduceMod, Nat.reducePow, Nat.reduceBEq, Nat.reduceBNe, Int.reduceLT, Int.reduceLE, Int.reduceGT, Int.reduceGE, Int.reduceBEq, Int.reduceBNe, Int.reduceToNat, Int.reduceAdd, Int.reduceSub, Int.reduceMul, Int.reduceEq, Int.reduceNeg, reduceCtorEq, decide_true, decide_false, Bool.false_eq_true, ty3, ty4, ty5, ty9, ty22, ty24, ty38, ty39, ty40, ty43, ty27, ty28, ty74, ty75, ty59, eq24, c3, w3, w6]
  refine Lwp.seq (Lwp.regI hT ?_)
  simp only [L80r10, go_sem, List.isEmpty_nil, isC, eq_self, reduceIte, Nat.reduceAdd, Nat.reduceMul, Nat.reduceSub, Nat.reduceLT, Nat.reduceLeDiff, Nat.reduceEqDiff, Nat.reduceDiv, Nat.reduceMod, Nat.reducePow, Nat.reduceBEq, Nat.reduceBNe, Int.reduceLT, Int.reduceLE, Int.reduceGT, Int.reduceGE, Int.reduceBEq, Int.reduceBNe, Int.reduceToNat, Int.reduceAdd, Int.reduceSub, Int.reduceMul, Int.reduceEq, Int.reduceNeg, reduceCtorEq, decide_true, decide_false, Bool.false_eq_true, ty3, ty4, ty5, ty9, ty22, ty24, ty38, ty39, ty40, ty43, ty27, ty28, ty74, ty75, ty59, eq24, c4, w4, w7, s5, w8]
  refine Lwp.seq (Lwp.regI hT ?_)
  simp only [L80r11, go_sem, List.isEmpty_nil, isC, eq_self, reduceIte, Nat.reduceAdd, Nat.reduceMul, Nat.reduceSub, Nat.reduceLT, Nat.reduceLeDiff, Nat.reduceEqDiff, Nat.reduceDiv, Nat.reduceMod, Nat.reducePow, Nat.reduceBEq, Nat.reduceBNe, Int.reduceLT, Int.reduceLE, Int.reduceGT, Int.reduceGE, Int.reduceBEq, Int.reduceBNe, Int.reduceToNat, Int.reduceAdd, Int.reduceSub, Int.reduceMul, Int.reduceEq, Int.reduceNeg, reduceCtorEq, decide_true, decide_false, Bool.false_eq_true, ty3, ty4, ty5, ty9, ty22, ty24, ty38, ty39, ty40, ty43, ty27, ty28, ty74, ty75, ty59, eq24, c5, w9]
  refine Lwp.ret (post_val (v := .tup [.int .u64 (P / 18446744073709551616 : Nat), .int .u64 (P % 18446744073709551616 : Nat)]) ?_ ?_)
  · simp only [go_sem, List.isEmpty_nil, isC, eq_self, reduceIte, Nat.reduceAdd, Nat.reduceMul, Nat.reduceSub, Nat.reduceLT, Nat.reduceLeDiff, Nat.reduceEqDiff, Nat.reduceDiv, Nat.reduceMod, Nat.reducePow, Nat.reduceBEq, Nat.reduceBNe, Int.reduceLT, Int.reduceLE, Int.reduceGT, Int.reduceGE, Int.reduceBEq, Int.reduceBNe, Int.reduceToNat, Int.reduceAdd, Int.reduceSub, Int.reduceMul, Int.reduceEq, Int.reduceNeg, reduceCtorEq, decide_true, decide_false, Bool.false_eq_true]
  · simp only [go_sem, List.isEmpty_nil, isC, eq_self, reduceIte, Nat.reduceAdd, Nat.reduceMul, Nat.reduceSub, Nat.reduceLT, Nat.reduceLeDiff, Nat.reduceEqDiff, Nat.reduceDiv, Nat.reduceMod, Nat.reducePow, Nat.reduceBEq, Nat.reduceBNe, Int.reduceLT, Int.reduceLE, Int.reduceGT, Int.reduceGE, Int.reduceBEq, Int.reduceBNe, Int.reduceToNat, Int.reduceAdd, Int.reduceSub, Int.reduceMul, Int.reduceEq, Int.reduceNeg, reduceCtorEq, decide_true, decide_false, Bool.false_eq_true]
end Eng


namespace Eng
open Go Go.Proofs
set_option linter.unusedSimpArgs false
set_option linter.unusedVariables false
noncomputable def S79 : List AV → Option Ret := nz (sumOf (fun p : List Int × List Int => match p with | (a, b) => (U6 a) ∧ (U6 b)) (fun p : List Int × List Int => match p with | (a, b) => [.agg (ints .u64 a), .agg (ints .u64 b)]) (fun p : List Int × List Int => match p with | (a, b) => ⟨.agg (ints .u64 (limN 12 (v64 a * v64 b))), none⟩))
theorem S79_eq (a : List Int) (b : List Int) (h0 : U6 a) (h1 : U6 b) : S79 [.agg (ints .u64 a), .agg (ints .u64 b)] = some ⟨.agg (ints .u64 (limN 12 (v64 a * v64 b))), none⟩ :=
  sumOf_eq (dom := (fun p : List Int × List Int => match p with | (a, b) => (U6 a) ∧ (U6 b))) (enc := (fun p : List Int × List Int => match p with | (a, b) => [.agg (ints .u64 a), .agg (ints .u64 b)])) (out := (fun p : List Int × List Int => match p with | (a, b) => ⟨.agg (ints .u64 (limN 12 (v64 a * v64 b))), none⟩)) (a, b) ⟨h0, h1⟩ (fun y _ e => by
    obtain ⟨y0, y1⟩ := y
    simp only [List.cons.injEq, AV.agg.injEq, AV.int.injEq, AV.slc.injEq, AV.iptr.injEq, AV.bool.injEq, AV.str.injEq, ints_injEq, dig_injEq,  Int.ofNat_inj, BitVec.toNat_inj, true_and, and_true] at e
    first | with_reducible rfl | simp only [e] | rfl)
theorem S79_inv {args : List AV} {r : Ret} (h : sumOf (fun p : List Int × List Int => match p with | (a, b) => (U6 a) ∧ (U6 b)) (fun p : List Int × List Int => match p with | (a, b) => [.agg (ints .u64 a), .agg (ints .u64 b)]) (fun p : List Int × List Int => match p with | (a, b) => ⟨.agg (ints .u64 (limN 12 (v64 a * v64 b))), none⟩) args = some r) : ∃ (a : List Int) (b : List Int), ((U6 a) ∧ (U6 b)) ∧ args = [.agg (ints .u64 a), .agg (ints .u64 b)] ∧ r = ⟨.agg (ints .u64 (limN 12 (v64 a * v64 b))), none⟩ := by
  obtain ⟨x, h1, h2, h3⟩ := sumOf_inv h
  obtain ⟨a, b⟩ := x
  exact ⟨a, b, h1, h2.symm, h3⟩


/-- What a row's digits are worth. -/
structure RowI (x y xi i j : Nat) (o : List Int) (c : Nat) : Prop where
  len : o.length = 12
  d : D64 o
  cb : c < 18446744073709551616
  v : v64 o + c * 18446744073709551616 ^ (i + j) = x % 18446744073709551616 ^ i * y + xi * (y % 18446744073709551616 ^ j) * 18446744073709551616 ^ i
  z : ∀ k, i + 6 ≤ k → o.getD k 0 = 0
theorem row_first {x y i : Nat} (hy : y < 18446744073709551616 ^ 6) (hi : i < 6) (xi : Nat) : RowI x y xi i 0 (limN 12 (x % 18446744073709551616 ^ i * y)) 0 := by
  have hlt : x % 18446744073709551616 ^ i * y < 18446744073709551616 ^ (i + 6) := by
    have h1 : x % 18446744073709551616 ^ i < 18446744073709551616 ^ i := Nat.mod_lt _ (Nat.pow_pos (by decide))
    rw [Nat.pow_add]
    exact Nat.mul_lt_mul_of_lt_of_le h1 (Nat.le_of_lt hy) (Nat.pow_pos (by decide))
  have h12 : (18446744073709551616 : Nat) ^ (i + 6) ≤ 18446744073709551616 ^ 12 := Nat.pow_le_pow_right (by decide) (by omega)
  have hv := limN_v64 (n := 12) (Nat.lt_of_lt_of_le hlt h12)
  refine ⟨limN_len _ _, limN_D64 _ _, by decide, ?_, fun k hk => ?_⟩
  · rw [hv, Nat.pow_zero, Nat.mod_one]; simp
  · rw [v64_getD (limN_D64 _ _) k, hv]
    have : (18446744073709551616 : Nat) ^ (i + 6) ≤ 18446744073709551616 ^ k := Nat.pow_le_pow_right (by decide) hk
    rw [part_gt (Nat.lt_of_lt_of_le hlt this)]; rfl
theorem getD_set' (l : List Int) {n : Nat} (h : n < l.length) (x : Int) (m : Nat) : (l.set n x).getD m 0 = if m = n then x else l.getD m 0 := by
  rw [List.getD_eq_getElem?_getD, List.getD_eq_getElem?_getD, List.getElem?_set]
  by_cases e : m = n
  · subst e; simp [h]
  · rw [if_neg e, if_neg (fun h => e h.symm)]
theorem row_next {x y xi i j : Nat} {o : List Int} {c s : Nat} (hi : i < 6) (hj : j < 6) (h : RowI x y xi i j o c) (hxi : xi < 18446744073709551616) (hs : s = xi * (y / 18446744073709551616 ^ j % 18446744073709551616) + (o.getD (i + j) 0).toNat + c) :
    RowI x y xi i (j + 1) (o.set (i + j) ((s % 18446744073709551616 : Nat) : Int)) (s / 18446744073709551616) := by
  have ho := h.d.at (i + j)
  have hy : y / 18446744073709551616 ^ j % 18446744073709551616 < 18446744073709551616 := Nat.mod_lt _ (by decide)
  have hf := mul_fits hxi hy (show (o.getD (i + j) 0).toNat < 18446744073709551616 by omega) h.cb
  rw [← hs] at hf
  refine ⟨by rw [List.length_set, h.len], h.d.set _ (by omega) (by omega), mul_div_lt hf, ?_, fun k hk => ?_⟩
  · have hset := v64_set o (i + j) (by rw [h.len]; omega) ((s % 18446744073709551616 : Nat) : Int)
    rw [Int.toNat_natCast] at hset
    have hst := mul_step (B := 18446744073709551616) hs hset h.v
    rw [show i + (j + 1) = i + j + 1 by omega, Nat.pow_succ, hst, Nat.mod_pow_succ, Nat.mul_add, Nat.add_mul, Nat.add_assoc]
    congr 2
    rw [Nat.pow_add]
    generalize (18446744073709551616 : Nat) ^ i = p
    generalize (18446744073709551616 : Nat) ^ j = q
    generalize y / q % 18446744073709551616 = r
    rw [Nat.mul_comm p q, Nat.mul_assoc q p, Nat.mul_comm p, Nat.mul_left_comm q, Nat.mul_assoc, Nat.mul_assoc, Nat.mul_assoc, Nat.mul_left_comm q]
  · rw [getD_set' o (by rw [h.len]; omega), if_neg (by omega), h.z k hk]
theorem row_last {x y xi i : Nat} {o : List Int} {c : Nat} (hi : i < 6) (hy : y < 18446744073709551616 ^ 6) (hxi : xi = x / 18446744073709551616 ^ i % 18446744073709551616) (h : RowI x y xi i 6 o c) :
    o.set (i + 6) (c : Int) = limN 12 (x % 18446744073709551616 ^ (i + 1) * y) := by
  have hc := h.cb
  refine limN_of (by rw [List.length_set, h.len]) (h.d.set _ (by omega) (by omega)) ?_
  have hset := v64_set o (i + 6) (by rw [h.len]; omega) (c : Int)
  rw [h.z (i + 6) (Nat.le_refl _), Int.toNat_natCast] at hset
  have hv := h.v
  rw [Nat.mod_eq_of_lt hy] at hv
  rw [Nat.mod_pow_succ, Nat.add_mul, ← hxi, Nat.mul_assoc, Nat.mul_comm (18446744073709551616 ^ i), ← hv, Nat.mul_comm c]
  rw [Int.toNat_zero, Nat.mul_zero, Nat.add_zero] at hset
  exact hset

def St40 (a b : List Int) (i : Nat) : AState := { nt := 62, env := [(2, .own 0 0), (3, .own 1 0), (4, .own 2 0), (5, .own 3 0), (12, .int .i64 i)], mem := [(0, ints .u64 a), (1, ints .u64 b), (2, ints .u64 (List.replicate 12 0)), (3, ints .u64 (limN 12 (v64 a % 18446744073709551616 ^ i * v64 b)))], next := 20 }
def St40j (a b : List Int) (i j : Nat) (o : List Int) (c : Nat) : AState := { nt := 62, env := [(2, .own 0 0), (3, .own 1 0), (4, .own 2 0), (5, .own 3 0), (6, .int .i64 i), (7, .int .u64 c), (12, .int .i64 i), (15, .int .i64 j)], mem := [(0, ints .u64 a), (1, ints .u64 b), (2, ints .u64 (List.replicate 12 0)), (3, ints .u64 o)], next := 20 }

set_option maxRecDepth 100000 in
theorem snd79 : SndE Tryd.prog NoG 79 S79 := by
  refine snd_nz (snd_by [(80, S80)] [(75, addX)] Tryd.func79 (by kernel_rfl) lite79 nt79 rs79 ⟨snd80, trivial⟩ ⟨ext75, trivial⟩ (fun hT args r h => ?_))
  obtain ⟨a, b, ⟨hd0, hd1⟩, rfl, rfl⟩ := S79_inv h
  clear h
  have hM := hM0
  refine ⟨Nat.le_of_ble_eq_true rfl, fun F => ?_⟩
  unfold L79
  have hl := hd0.1
  have hl' := hd1.1
  have hy := v64_lt hd1.2
  rw [hl'] at hy
  have hx := v64_lt hd0.2
  rw [hl] at hx
  have z0 : List.replicate 12 (0 : Int) = limN 12 (v64 a % 18446744073709551616 ^ 0 * v64 b) := by rw [Nat.pow_zero, Nat.mod_one, Nat.zero_mul, limN_zero]
  refine Lwp.seq (Lwp.regI hT ?_)
  simp only [L79r0, go_sem, List.isEmpty_nil, isC, eq_self, reduceIte, Nat.reduceAdd, Nat.reduceMul, Nat.reduceSub, Nat.reduceLT, Nat.reduceLeDiff, Nat.reduceEqDiff, Nat.reduceDiv, Nat.reduceMod, Nat.reducePow, Nat.reduceBEq, Nat.reduceBNe, Int.reduceLT, Int.reduceLE, Int.reduceGT, Int.reduceGE, Int.reduceBEq, Int.reduceBNe, Int.reduceToNat, Int.reduceAdd, Int.reduceSub, Int.reduceMul, Int.reduceEq, Int.reduceNeg, reduceCtorEq, decide_true, decide_false, Bool.false_eq_true, ty3, ty4, ty5, ty9, ty22, ty24, ty38, ty39, ty40, ty43, ty27, ty28, ty74, ty75, ty59, eq24]
  refine Lwp.seq (Lwp.regI hT ?_)
  simp only [L79r1, go_sem, List.isEmpty_nil, isC, eq_self, reduceIte, Nat.reduceAdd, Nat.reduceMul, Nat.reduceSub, Nat.reduceLT, Nat.reduceLeDiff, Nat.reduceEqDiff, Nat.reduceDiv, Nat.reduceMod, Nat.reducePow, Nat.reduceBEq, Nat.reduceBNe, Int.reduceLT, Int.reduceLE, Int.reduceGT, Int.reduceGE, Int.reduceBEq, Int.reduceBNe, Int.reduceToNat, Int.reduceAdd, Int.reduceSub, Int.reduceMul, Int.reduceEq, Int.reduceNeg, reduceCtorEq, decide_true, decide_false, Bool.false_eq_true, ty3, ty4, ty5, ty9, ty22, ty24, ty38, ty39, ty40, ty43, ty27, ty28, ty74, ty75, ty59, eq24]
  refine Lwp.seq ?_
  refine Lwp.seq (Lwp.regI hT ?_)
  simp only [L79r2, go_sem, List.isEmpty_nil, isC, eq_self, reduceIte, Nat.reduceAdd, Nat.reduceMul, Nat.reduceSub, Nat.reduceLT, Nat.reduceLeDiff, Nat.reduceEqDiff, Nat.reduceDiv, Nat.reduceMod, Nat.reducePow, Nat.reduceBEq, Nat.reduceBNe, Int.reduceLT, Int.reduceLE, Int.reduceGT, Int.reduceGE, Int.reduceBEq, Int.reduceBNe, Int.reduceToNat, Int.reduceAdd, Int.reduceSub, Int.reduceMul, Int.reduceEq, Int.reduceNeg, reduceCtorEq, decide_true, decide_false, Bool.false_eq_true, ty3, ty4, ty5, ty9, ty22, ty24, ty38, ty39, ty40, ty43, ty27, ty28, ty74, ty75, ty59, eq24]
  refine Lwp.block (Lwp.range (St40 a b) 6 ?_ (fun i hi => ?_) ?_)
  · refine weak_of rfl ?_ ?_ ?_
    · (simp only [go_sem, List.isEmpty_nil, isC, eq_self, reduceIte, Nat.reduceAdd, Nat.reduceMul, Nat.reduceSub, Nat.reduceLT, Nat.reduceLeDiff, Nat.reduceEqDiff, Nat.reduceDiv, Nat.reduceMod, Nat.reducePow, Nat.reduceBEq, Nat.reduceBNe, Int.reduceLT, Int.reduceLE, Int.reduceGT, Int.reduceGE, Int.reduceBEq, Int.reduceBNe, Int.reduceToNat, Int.reduceAdd, Int.reduceSub, Int.reduceMul, Int.reduceEq, Int.reduceNeg, reduceCtorEq, decide_true, decide_false, Bool.false_eq_true, St40, ← z0]; try rfl)
    · (simp only [go_sem, List.isEmpty_nil, isC, eq_self, reduceIte, Nat.reduceAdd, Nat.reduceMul, Nat.reduceSub, Nat.reduceLT, Nat.reduceLeDiff, Nat.reduceEqDiff, Nat.reduceDiv, Nat.reduceMod, Nat.reducePow, Nat.reduceBEq, Nat.reduceBNe, Int.reduceLT, Int.reduceLE, Int.reduceGT, Int.reduceGE, Int.reduceBEq, Int.reduceBNe, Int.reduceToNat, Int.reduceAdd, Int.reduceSub, Int.reduceMul, Int.reduceEq, Int.reduceNeg, reduceCtorEq, decide_true, decide_false, Bool.false_eq_true, St40, ← z0]; try rfl)
    · (simp only [go_sem, List.isEmpty_nil, isC, eq_self, reduceIte, Nat.reduceAdd, Nat.reduceMul, Nat.reduceSub, Nat.reduceLT, Nat.reduceLeDiff, Nat.reduceEqDiff, Nat.reduceDiv, Nat.reduceMod, Nat.reducePow, Nat.reduceBEq, Nat.reduceBNe, Int.reduceLT, Int.reduceLE, Int.reduceGT, Int.reduceGE, Int.reduceBEq, Int.reduceBNe, Int.reduceToNat, Int.reduceAdd, Int.reduceSub, Int.reduceMul, Int.reduceEq, Int.reduceNeg, reduceCtorEq, decide_true, decide_false, Bool.false_eq_true, St40, ← z0]; try rfl)
  · have h1 : (i : Int) < 6 := by omega
    have h4 := wrap_succ hi (by decide)
    have d1 : (0 : Int) ≤ i := by omega
    have d2 : i ≤ 5 := by omega
    have ga := v64_getD hd0.2 i
    have hxi : v64 a / 18446744073709551616 ^ i % 18446744073709551616 < 18446744073709551616 := Nat.mod_lt _ (by decide)
    have hfin := fun (o : List Int) (c : Nat) (h : RowI (v64 a) (v64 b) (v64 a / 18446744073709551616 ^ i % 18446744073709551616) i 6 o c) => row_last hi hy rfl h
    have r0 := row_first (x := v64 a) hy hi (v64 a / 18446744073709551616 ^ i % 18446744073709551616)
    have d3 : IntKind.i64.wrap ((i : Int) + 6) = ((i + 6 : Nat) : Int) := by rw [wrap_i64 (by omega) (by omega)]; omega
    have d4 : (0 : Int) ≤ ((i + 6 : Nat) : Int) := by omega
    have d5 : ((i + 6 : Nat) : Int) < 12 := by omega
    have d6 : i + 6 < 12 := by omega
    have d7 : i + 6 ≤ 11 := by omega
    unfold St40
    refine Lwp.seq (Lwp.regI hT ?_)
    simp only [L79r3, go_sem, List.isEmpty_nil, isC, eq_self, reduceIte, Nat.reduceAdd, Nat.reduceMul, Nat.reduceSub, Nat.reduceLT, Nat.reduceLeDiff, Nat.reduceEqDiff, Nat.reduceDiv, Nat.reduceMod, Nat.reducePow, Nat.reduceBEq, Nat.reduceBNe, Int.reduceLT, Int.reduceLE, Int.reduceGT, Int.reduceGE, Int.reduceBEq, Int.reduceBNe, Int.reduceToNat, Int.reduceAdd, Int.reduceSub, Int.reduceMul, Int.reduceEq, Int.reduceNeg, reduceCtorEq, decide_true, decide_false, Bool.false_eq_true, ty3, ty4, ty5, ty9, ty22, ty24, ty38, ty39, ty40, ty43, ty27, ty28, ty74, ty75, ty59, eq24, h1]
    refine Lwp.seq (Lwp.cond rfl (fun _ => Lwp.skip ?_) (fun h => by cases h))
    simp only [go_sem, List.isEmpty_nil, isC, eq_self, reduceIte, Nat.reduceAdd, Nat.reduceMul, Nat.reduceSub, Nat.reduceLT, Nat.reduceLeDiff, Nat.reduceEqDiff, Nat.reduceDiv, Nat.reduceMod, Nat.reducePow, Nat.reduceBEq, Nat.reduceBNe, Int.reduceLT, Int.reduceLE, Int.reduceGT, Int.reduceGE, Int.reduceBEq, Int.reduceBNe, Int.reduceToNat, Int.reduceAdd, Int.reduceSub, Int.reduceMul, Int.reduceEq, Int.reduceNeg, reduceCtorEq, decide_true, decide_false, Bool.false_eq_true]
    refine Lwp.seq (Lwp.block ?_)
    refine Lwp.seq (Lwp.regI hT ?_)
    simp only [L79r4, go_sem, List.isEmpty_nil, isC, eq_self, reduceIte, Nat.reduceAdd, Nat.reduceMul, Nat.reduceSub, Nat.reduceLT, Nat.reduceLeDiff, Nat.reduceEqDiff, Nat.reduceDiv, Nat.reduceMod, Nat.reducePow, Nat.reduceBEq, Nat.reduceBNe, Int.reduceLT, Int.reduceLE, Int.reduceGT, Int.reduceGE, Int.reduceBEq, Int.reduceBNe, Int.reduceToNat, Int.reduceAdd, Int.reduceSub, Int.reduceMul, Int.reduceEq, Int.reduceNeg, reduceCtorEq, decide_true, decide_false, Bool.false_eq_true, ty3, ty4, ty5, ty9, ty22, ty24, ty38, ty39, ty40, ty43, ty27, ty28, ty74, ty75, ty59, eq24]
    refine Lwp.seq (Lwp.regI hT ?_)
    simp only [L79r5, go_sem, List.isEmpty_nil, isC, eq_self, reduceIte, Nat.reduceAdd, Nat.reduceMul, Nat.reduceSub, Nat.reduceLT, Nat.reduceLeDiff, Nat.reduceEqDiff, Nat.reduceDiv, Nat.reduceMod, Nat.reducePow, Nat.reduceBEq, Nat.reduceBNe, Int.reduceLT, Int.reduceLE, Int.reduceGT, Int.reduceGE, Int.reduceBEq, Int.reduceBNe, Int.reduceToNat, Int.reduceAdd, Int.reduceSub, Int.reduceMul, Int.reduceEq, Int.reduceNeg, reduceCtorEq, decide_true, decide_false, Bool.false_eq_true, ty3, ty4, ty5, ty9, ty22, ty24, ty38, ty39, ty40, ty43, ty27, ty28, ty74, ty75, ty59, eq24]
    refine Lwp.seq ?_
    refine Lwp.seq (Lwp.regI hT ?_)
    simp only [L79r6, go_sem, List.isEmpty_nil, isC, eq_self, reduceIte, Nat.reduceAdd, Nat.reduceMul, Nat.reduceSub, Nat.reduceLT, Nat.reduceLeDiff, Nat.reduceEqDiff, Nat.reduceDiv, Nat.reduceMod, Nat.reducePow, Nat.reduceBEq, Nat.reduceBNe, Int.reduceLT, Int.reduceLE, Int.reduceGT, Int.reduceGE, Int.reduceBEq, Int.reduceBNe, Int.reduceToNat, Int.reduceAdd, Int.reduceSub, Int.reduceMul, Int.reduceEq, Int.reduceNeg, reduceCtorEq, decide_true, decide_false, Bool.false_eq_true, ty3, ty4, ty5, ty9, ty22, ty24, ty38, ty39, ty40, ty43, ty27, ty28, ty74, ty75, ty59, eq24]
    generalize v64 a / 18446744073709551616 ^ i % 18446744073709551616 = xi at *
    refine Lwp.block (Lwp.whl (fun p : Nat × List Int × Nat => St40j a b i p.1 p.2.1 p.2.2) (fun p => p.1 ≤ 6 ∧ RowI (v64 a) (v64 b) xi i p.1 p.2.1 p.2.2) (fun p => 6 - p.1) (0, limN 12 (v64 a % 18446744073709551616 ^ i * v64 b), 0) ⟨by simp, r0⟩ ?_ ?_)
    · refine weak_of rfl ?_ ?_ ?_
      · (simp only [go_sem, List.isEmpty_nil, isC, eq_self, reduceIte, Nat.reduceAdd, Nat.reduceMul, Nat.reduceSub, Nat.reduceLT, Nat.reduceLeDiff, Nat.reduceEqDiff, Nat.reduceDiv, Nat.reduceMod, Nat.reducePow, Nat.reduceBEq, Nat.reduceBNe, Int.reduceLT, Int.reduceLE, Int.reduceGT, Int.reduceGE, Int.reduceBEq, Int.reduceBNe, Int.reduceToNat, Int.reduceAdd, Int.reduceSub, Int.reduceMul, Int.reduceEq, Int.reduceNeg, reduceCtorEq, decide_true, decide_false, Bool.false_eq_true, St40j]; try rfl)
      · (simp only [go_sem, List.isEmpty_nil, isC, eq_self, reduceIte, Nat.reduceAdd, Nat.reduceMul, Nat.reduceSub, Nat.reduceLT, Nat.reduceLeDiff, Nat.reduceEqDiff, Nat.reduceDiv, Nat.reduceMod, Nat.reducePow, Nat.reduceBEq, Nat.reduceBNe, Int.reduceLT, Int.reduceLE, Int.reduceGT, Int.reduceGE, Int.reduceBEq, Int.reduceBNe, Int.reduceToNat, Int.reduceAdd, Int.reduceSub, Int.reduceMul, Int.reduceEq, Int.reduceNeg, reduceCtorEq, decide_true, decide_false, Bool.false_eq_true, St40j]; try rfl)
      · (simp only [go_sem, List.isEmpty_nil, isC, eq_self, reduceIte, Nat.reduceAdd, Nat.reduceMul, Nat.reduceSub, Nat.reduceLT, Nat.reduceLeDiff, Nat.reduceEqDiff, Nat.reduceDiv, Nat.reduceMod, Nat.reducePow, Nat.reduceBEq, Nat.reduceBNe, Int.reduceLT, Int.reduceLE, Int.reduceGT, Int.reduceGE, Int.reduceBEq, Int.reduceBNe, Int.reduceToNat, Int.reduceAdd, Int.reduceSub, Int.reduceMul, Int.reduceEq, Int.reduceNeg, reduceCtorEq, decide_true, decide_false, Bool.false_eq_true, St40j]; try rfl)
    · rintro ⟨j, o, c⟩ ⟨hj6, hI⟩
      simp only at hj6 hI
      have lo := hI.len
      have ho := hI.d.at (i + j)
      have hc := hI.cb
      unfold St40j
      by_cases hj : j < 6
      · have j1 : (j : Int) < 6 := by omega
        have j2 : (0 : Int) ≤ j := by omega
        have j3 : j ≤ 5 := by omega
        have j4 := wrap_succ hj (by decide)
        have gb := v64_getD hd1.2 j
        have hyj : v64 b / 18446744073709551616 ^ j % 18446744073709551616 < 18446744073709551616 := Nat.mod_lt _ (by decide)
        have hN := row_next hi hj hI hxi rfl
        generalize v64 b / 18446744073709551616 ^ j % 18446744073709551616 = yj at *
        obtain ⟨ov, hov⟩ : ∃ n : Nat, o.getD (i + j) 0 = (n : Int) := ⟨(o.getD (i + j) 0).toNat, by omega⟩
        have hovl : ov < 18446744073709551616 := by omega
        have hovt : (o.getD (i + j) 0).toNat = ov := by omega
        rw [hovt] at hN
        have hP : xi * yj ≤ 18446744073709551615 * 18446744073709551615 := Nat.mul_le_mul (by omega) (by omega)
        have f59 := S80_eq xi yj hxi hyj
        have k1 : IntKind.i64.wrap ((i : Int) + (j : Int)) = ((i + j : Nat) : Int) := by rw [wrap_i64 (by omega) (by omega)]; omega
        have k2 : (0 : Int) ≤ ((i + j : Nat) : Int) := by omega
        have k3 : ((i + j : Nat) : Int) < 12 := by omega
        have k4 : i + j < 12 := by omega
        have k5 : i + j ≤ 11 := by omega
        generalize xi * yj = P at *
        have g1 := addX_nat (P % 18446744073709551616) ov (by omega) hovl
        have g2 : IntKind.u64.wrap (((P / 18446744073709551616 : Nat) : Int) + (((P % 18446744073709551616 + ov) / 18446744073709551616 : Nat) : Int)) = ((P / 18446744073709551616 + (P % 18446744073709551616 + ov) / 18446744073709551616 : Nat) : Int) := by rw [wrap_u64 (by omega) (by omega)]; omega
        have g3 := addX_nat ((P % 18446744073709551616 + ov) % 18446744073709551616) c (by omega) hc
        have g4 : IntKind.u64.wrap (((P / 18446744073709551616 + (P % 18446744073709551616 + ov) / 18446744073709551616 : Nat) : Int) + ((((P % 18446744073709551616 + ov) % 18446744073709551616 + c) / 18446744073709551616 : Nat) : Int)) = (((P + ov + c) / 18446744073709551616 : Nat) : Int) := by rw [wrap_u64 (by omega) (by omega)]; omega
        have g5 : (((P % 18446744073709551616 + ov) % 18446744073709551616 + c) % 18446744073709551616 : Nat) = (P + ov + c) % 18446744073709551616 := by omega
        generalize i + j = q at *
        refine Lwp.seq (Lwp.regI hT ?_)
        simp only [L79r7, go_sem, List.isEmpty_nil, isC, eq_self, reduceIte, Nat.reduceAdd, Nat.reduceMul, Nat.reduceSub, Nat.reduceLT, Nat.reduceLeDiff, Nat.reduceEqDiff, Nat.reduceDiv, Nat.reduceMod, Nat.reducePow, Nat.reduceBEq, Nat.reduceBNe, Int.reduceLT, Int.reduceLE, Int.reduceGT, Int.reduceGE, Int.reduceBEq, Int.reduceBNe, Int.reduceToNat, Int.reduceAdd, Int.reduceSub, Int.reduceMul, Int.reduceEq, Int.reduceNeg, reduceCtorEq, decide_true, decide_false, Bool.false_eq_true, ty3, ty4, ty5, ty9, ty22, ty24, ty38, ty39, ty40, ty43, ty27, ty28, ty74, ty75, ty59, eq24, j1]
        refine Lwp.seq (Lwp.cond rfl (fun _ => Lwp.skip ?_) (fun h => by cases h))
        simp only [go_sem, List.isEmpty_nil, isC, eq_self, reduceIte, Nat.reduceAdd, Nat.reduceMul, Nat.reduceSub, Nat.reduceLT, Nat.reduceLeDiff, Nat.reduceEqDiff, Nat.reduceDiv, Nat.reduceMod, Nat.reducePow, Nat.reduceBEq, Nat.reduceBNe, Int.reduceLT, Int.reduceLE, Int.reduceGT, Int.reduceGE, Int.reduceBEq, Int.reduceBNe, Int.reduceToNat, Int.reduceAdd, Int.reduceSub, Int.reduceMul, Int.reduceEq, Int.reduceNeg, reduceCtorEq, decide_true, decide_false, Bool.false_eq_true]
        refine Lwp.seq (Lwp.block ?_)
        refine Lwp.seq (Lwp.regI hT ?_)
        simp only [L79r8, go_sem, List.isEmpty_nil, isC, eq_self, reduceIte, Nat.reduceAdd, Nat.reduceMul, Nat.reduceSub, Nat.reduceLT, Nat.reduceLeDiff, Nat.reduceEqDiff, Nat.reduceDiv, Nat.reduceMod, Nat.reducePow, Nat.reduceBEq, Nat.reduceBNe, Int.reduceLT, Int.reduceLE, Int.reduceGT, Int.reduceGE, Int.reduceBEq, Int.reduceBNe, Int.reduceToNat, Int.reduceAdd, Int.reduceSub, Int.reduceMul, Int.reduceEq, Int.reduceNeg, reduceCtorEq, decide_true, decide_false, Bool.false_eq_true, ty3, ty4, ty5, ty9, ty22, ty24, ty38, ty39, ty40, ty43, ty27, ty28, ty74, ty75, ty59, eq24]
        refine Lwp.seq (Lwp.regD hT hM ?_)
        simp only [L79r9, go_sem, List.isEmpty_nil, isC, eq_self, reduceIte, Nat.reduceAdd, Nat.reduceMul, Nat.reduceSub, Nat.reduceLT, Nat.reduceLeDiff, Nat.reduceEqDiff, Nat.reduceDiv, Nat.reduceMod, Nat.reducePow, Nat.reduceBEq, Nat.reduceBNe, Int.reduceLT, Int.reduceLE, Int.reduceGT, Int.reduceGE, Int.reduceBEq, Int.reduceBNe, Int.reduceToNat, Int.reduceAdd, Int.reduceSub, Int.reduceMul, Int.reduceEq, Int.reduceNeg, reduceCtorEq, decide_true, decide_false, Bool.false_eq_true, ty3, ty4, ty5, ty9, ty22, ty24, ty38, ty39, ty40, ty43, ty27, ty28, ty74, ty75, ty59, eq24, h1, d1, d2, hi, j1, j2, j3, hj, ga, gb, f59, hl, hl']
        refine Lwp.seq (Lwp.regI hT ?_)
        simp only [L79r10, go_sem, List.isEmpty_nil, isC, eq_self, reduceIte, Nat.reduceAdd, Nat.reduceMul, Nat.reduceSub, Nat.reduceLT, Nat.reduceLeDiff, Nat.reduceEqDiff, Nat.reduceDiv, Nat.reduceMod, Nat.reducePow, Nat.reduceBEq, Nat.reduceBNe, Int.reduceLT, Int.reduceLE, Int.reduceGT, Int.reduceGE, Int.reduceBEq, Int.reduceBNe, Int.reduceToNat, Int.reduceAdd, Int.reduceSub, Int.reduceMul, Int.reduceEq, Int.reduceNeg, reduceCtorEq, decide_true, decide_false, Bool.false_eq_true, ty3, ty4, ty5, ty9, ty22, ty24, ty38, ty39, ty40, ty43, ty27, ty28, ty74, ty75, ty59, eq24]
        refine Lwp.seq (Lwp.regI hT ?_)
        simp only [L79r11, go_sem, List.isEmpty_nil, isC, eq_self, reduceIte, Nat.reduceAdd, Nat.reduceMul, Nat.reduceSub, Nat.reduceLT, Nat.reduceLeDiff, Nat.reduceEqDiff, Nat.reduceDiv, Nat.reduceMod, Nat.reducePow, Nat.reduceBEq, Nat.reduceBNe, Int.reduceLT, Int.reduceLE, Int.reduceGT, Int.reduceGE, Int.reduceBEq, Int.reduceBNe, Int.reduceToNat, Int.reduceAdd, Int.reduceSub, Int.reduceMul, Int.reduceEq, Int.reduceNeg, reduceCtorEq, decide_true, decide_false, Bool.false_eq_true, ty3, ty4, ty5, ty9, ty22, ty24, ty38, ty39, ty40, ty43, ty27, ty28, ty74, ty75, ty59, eq24, k1, k2, k3, k4, k5, hov, lo, g1]
        refine Lwp.seq (Lwp.regI hT ?_)
        simp only [L79r12, go_sem, List.isEmpty_nil, isC, eq_self, reduceIte, Nat.reduceAdd, Nat.reduceMul, Nat.reduceSub, Nat.reduceLT, Nat.reduceLeDiff, Nat.reduceEqDiff, Nat.reduceDiv, Nat.reduceMod, Nat.reducePow, Nat.reduceBEq, Nat.reduceBNe, Int.reduceLT, Int.reduceLE, Int.reduceGT, Int.reduceGE, Int.reduceBEq, Int.reduceBNe, Int.reduceToNat, Int.reduceAdd, Int.reduceSub, Int.reduceMul, Int.reduceEq, Int.reduceNeg, reduceCtorEq, decide_true, decide_false, Bool.false_eq_true, ty3, ty4, ty5, ty9, ty22, ty24, ty38, ty39, ty40, ty43, ty27, ty28, ty74, ty75, ty59, eq24, g2]
        refine Lwp.seq (Lwp.regI hT ?_)
        simp only [L79r13, go_sem, List.isEmpty_nil, isC, eq_self, reduceIte, Nat.reduceAdd, Nat.reduceMul, Nat.reduceSub, Nat.reduceLT, Nat.reduceLeDiff, Nat.reduceEqDiff, Nat.reduceDiv, Nat.reduceMod, Nat.reducePow, Nat.reduceBEq, Nat.reduceBNe, Int.reduceLT, Int.reduceLE, Int.reduceGT, Int.reduceGE, Int.reduceBEq, Int.reduceBNe, Int.reduceToNat, Int.reduceAdd, Int.reduceSub, Int.reduceMul, Int.reduceEq, Int.reduceNeg, reduceCtorEq, decide_true, decide_false, Bool.false_eq_true, ty3, ty4, ty5, ty9, ty22, ty24, ty38, ty39, ty40, ty43, ty27, ty28, ty74, ty75, ty59, eq24, g3, g5]
        refine Lwp.regI hT ?_
        simp only [L79r14, go_sem, List.isEmpty_nil, isC, eq_self, reduceIte, Nat.reduceAdd, Nat.reduceMul, Nat.reduceSub, Nat.reduceLT, Nat.reduceLeDiff, Nat.reduceEqDiff, Nat.reduceDiv, Nat.reduceMod, Nat.reducePow, Nat.reduceBEq, Nat.reduceBNe, Int.reduceLT, Int.reduceLE, Int.reduceGT, Int.reduceGE, Int.reduceBEq, Int.reduceBNe, Int.reduceToNat, Int.reduceAdd, Int.reduceSub, Int.reduceMul, Int.reduceEq, Int.reduceNeg, reduceCtorEq, decide_true, decide_false, Bool.false_eq_true, ty3, ty4, ty5, ty9, ty22, ty24, ty38, ty39, ty40, ty43, ty27, ty28, ty74, ty75, ty59, eq24, k1, k2, k3, k4, k5, lo, g4]
        refine Lwp.regI hT ?_
        simp only [L79r15, go_sem, List.isEmpty_nil, isC, eq_self, reduceIte, Nat.reduceAdd, Nat.reduceMul, Nat.reduceSub, Nat.reduceLT, Nat.reduceLeDiff, Nat.reduceEqDiff, Nat.reduceDiv, Nat.reduceMod, Nat.reducePow, Nat.reduceBEq, Nat.reduceBNe, Int.reduceLT, Int.reduceLE, Int.reduceGT, Int.reduceGE, Int.reduceBEq, Int.reduceBNe, Int.reduceToNat, Int.reduceAdd, Int.reduceSub, Int.reduceMul, Int.reduceEq, Int.reduceNeg, reduceCtorEq, decide_true, decide_false, Bool.false_eq_true, ty3, ty4, ty5, ty9, ty22, ty24, ty38, ty39, ty40, ty43, ty27, ty28, ty74, ty75, ty59, eq24, j4]
        refine ⟨(j + 1, o.set q (((P + ov + c) % 18446744073709551616 : Nat) : Int), (P + ov + c) / 18446744073709551616), ⟨by simp only; omega, hN⟩, by simp only; omega, ?_⟩
        refine weak_of rfl ?_ ?_ ?_
        · (simp only [go_sem, List.isEmpty_nil, isC, eq_self, reduceIte, Nat.reduceAdd, Nat.reduceMul, Nat.reduceSub, Nat.reduceLT, Nat.reduceLeDiff, Nat.reduceEqDiff, Nat.reduceDiv, Nat.reduceMod, Nat.reducePow, Nat.reduceBEq, Nat.reduceBNe, Int.reduceLT, Int.reduceLE, Int.reduceGT, Int.reduceGE, Int.reduceBEq, Int.reduceBNe, Int.reduceToNat, Int.reduceAdd, Int.reduceSub, Int.reduceMul, Int.reduceEq, Int.reduceNeg, reduceCtorEq, decide_true, decide_false, Bool.false_eq_true]; try rfl)
        · (simp only [go_sem, List.isEmpty_nil, isC, eq_self, reduceIte, Nat.reduceAdd, Nat.reduceMul, Nat.reduceSub, Nat.reduceLT, Nat.reduceLeDiff, Nat.reduceEqDiff, Nat.reduceDiv, Nat.reduceMod, Nat.reducePow, Nat.reduceBEq, Nat.reduceBNe, Int.reduceLT, Int.reduceLE, Int.reduceGT, Int.reduceGE, Int.reduceBEq, Int.reduceBNe, Int.reduceToNat, Int.reduceAdd, Int.reduceSub, Int.reduceMul, Int.reduceEq, Int.reduceNeg, reduceCtorEq, decide_true, decide_false, Bool.false_eq_true]; try rfl)
        · (simp only [go_sem, List.isEmpty_nil, isC, eq_self, reduceIte, Nat.reduceAdd, Nat.reduceMul, Nat.reduceSub, Nat.reduceLT, Nat.reduceLeDiff, Nat.reduceEqDiff, Nat.reduceDiv, Nat.reduceMod, Nat.reducePow, Nat.reduceBEq, Nat.reduceBNe, Int.reduceLT, Int.reduceLE, Int.reduceGT, Int.reduceGE, Int.reduceBEq, Int.reduceBNe, Int.reduceToNat, Int.reduceAdd, Int.reduceSub, Int.reduceMul, Int.reduceEq, Int.reduceNeg, reduceCtorEq, decide_true, decide_false, Bool.false_eq_true]; try rfl)
      · have hj7 : j = 6 := by omega
        subst hj7
        have hF := hfin o c hI
        refine Lwp.seq (Lwp.regI hT ?_)
        simp only [L79r7, go_sem, List.isEmpty_nil, isC, eq_self, reduceIte, Nat.reduceAdd, Nat.reduceMul, Nat.reduceSub, Nat.reduceLT, Nat.reduceLeDiff, Nat.reduceEqDiff, Nat.reduceDiv, Nat.reduceMod, Nat.reducePow, Nat.reduceBEq, Nat.reduceBNe, Int.reduceLT, Int.reduceLE, Int.reduceGT, Int.reduceGE, Int.reduceBEq, Int.reduceBNe, Int.reduceToNat, Int.reduceAdd, Int.reduceSub, Int.reduceMul, Int.reduceEq, Int.reduceNeg, reduceCtorEq, decide_true, decide_false, Bool.false_eq_true, ty3, ty4, ty5, ty9, ty22, ty24, ty38, ty39, ty40, ty43, ty27, ty28, ty74, ty75, ty59, eq24]
        refine Lwp.seq (Lwp.cond rfl (fun h => by cases h) (fun _ => Lwp.exit ?_))
        simp only [go_sem, List.isEmpty_nil, isC, eq_self, reduceIte, Nat.reduceAdd, Nat.reduceMul, Nat.reduceSub, Nat.reduceLT, Nat.reduceLeDiff, Nat.reduceEqDiff, Nat.reduceDiv, Nat.reduceMod, Nat.reducePow, Nat.reduceBEq, Nat.reduceBNe, Int.reduceLT, Int.reduceLE, Int.reduceGT, Int.reduceGE, Int.reduceBEq, Int.reduceBNe, Int.reduceToNat, Int.reduceAdd, Int.reduceSub, Int.reduceMul, Int.reduceEq, Int.reduceNeg, reduceCtorEq, decide_true, decide_false, Bool.false_eq_true]
        refine Lwp.regI hT ?_
        simp only [L79r16, go_sem, List.isEmpty_nil, isC, eq_self, reduceIte, Nat.reduceAdd, Nat.reduceMul, Nat.reduceSub, Nat.reduceLT, Nat.reduceLeDiff, Nat.reduceEqDiff, Nat.reduceDiv, Nat.reduceMod, Nat.reducePow, Nat.reduceBEq, Nat.reduceBNe, Int.reduceLT, Int.reduceLE, Int.reduceGT, Int.reduceGE, Int.reduceBEq, Int.reduceBNe, Int.reduceToNat, Int.reduceAdd, Int.reduceSub, Int.reduceMul, Int.reduceEq, Int.reduceNeg, reduceCtorEq, decide_true, decide_false, Bool.false_eq_true, ty3, ty4, ty5, ty9, ty22, ty24, ty38, ty39, ty40, ty43, ty27, ty28, ty74, ty75, ty59, eq24, d2, d3, d4, d5, d6, d7, lo]
        refine Lwp.regI hT ?_
        simp only [L79r17, go_sem, List.isEmpty_nil, isC, eq_self, reduceIte, Nat.reduceAdd, Nat.reduceMul, Nat.reduceSub, Nat.reduceLT, Nat.reduceLeDiff, Nat.reduceEqDiff, Nat.reduceDiv, Nat.reduceMod, Nat.reducePow, Nat.reduceBEq, Nat.reduceBNe, Int.reduceLT, Int.reduceLE, Int.reduceGT, Int.reduceGE, Int.reduceBEq, Int.reduceBNe, Int.reduceToNat, Int.reduceAdd, Int.reduceSub, Int.reduceMul, Int.reduceEq, Int.reduceNeg, reduceCtorEq, decide_true, decide_false, Bool.false_eq_true, ty3, ty4, ty5, ty9, ty22, ty24, ty38, ty39, ty40, ty43, ty27, ty28, ty74, ty75, ty59, eq24, h4]
        refine weak_of rfl ?_ ?_ ?_
        · (simp only [go_sem, List.isEmpty_nil, isC, eq_self, reduceIte, Nat.reduceAdd, Nat.reduceMul, Nat.reduceSub, Nat.reduceLT, Nat.reduceLeDiff, Nat.reduceEqDiff, Nat.reduceDiv, Nat.reduceMod, Nat.reducePow, Nat.reduceBEq, Nat.reduceBNe, Int.reduceLT, Int.reduceLE, Int.reduceGT, Int.reduceGE, Int.reduceBEq, Int.reduceBNe, Int.reduceToNat, Int.reduceAdd, Int.reduceSub, Int.reduceMul, Int.reduceEq, Int.reduceNeg, reduceCtorEq, decide_true, decide_false, Bool.false_eq_true, St40, hF]; try rfl)
        · (simp only [go_sem, List.isEmpty_nil, isC, eq_self, reduceIte, Nat.reduceAdd, Nat.reduceMul, Nat.reduceSub, Nat.reduceLT, Nat.reduceLeDiff, Nat.reduceEqDiff, Nat.reduceDiv, Nat.reduceMod, Nat.reducePow, Nat.reduceBEq, Nat.reduceBNe, Int.reduceLT, Int.reduceLE, Int.reduceGT, Int.reduceGE, Int.reduceBEq, Int.reduceBNe, Int.reduceToNat, Int.reduceAdd, Int.reduceSub, Int.reduceMul, Int.reduceEq, Int.reduceNeg, reduceCtorEq, decide_true, decide_false, Bool.false_eq_true, St40, hF]; try rfl)
        · (simp only [go_sem, List.isEmpty_nil, isC, eq_self, reduceIte, Nat.reduceAdd, Nat.reduceMul, Nat.reduceSub, Nat.reduceLT, Nat.reduceLeDiff, Nat.reduceEqDiff, Nat.reduceDiv, Nat.reduceMod, Nat.reducePow, Nat.reduceBEq, Nat.reduceBNe, Int.reduceLT, Int.reduceLE, Int.reduceGT, Int.reduceGE, Int.reduceBEq, Int.reduceBNe, Int.reduceToNat, Int.reduceAdd, Int.reduceSub, Int.reduceMul, Int.reduceEq, Int.reduceNeg, reduceCtorEq, decide_true, decide_false, Bool.false_eq_true, St40, hF]; try rfl)
  · unfold St40
    refine Lwp.seq (Lwp.regI hT ?_)
    simp only [L79r3, go_sem, List.isEmpty_nil, isC, eq_self, reduceIte, Nat.reduceAdd, Nat.reduceMul, Nat.reduceSub, Nat.reduceLT, Nat.reduceLeDiff, Nat.reduceEqDiff, Nat.reduceDiv, Nat.reduceMod, Nat.reducePow, Nat.reduceBEq, Nat.reduceBNe, Int.reduceLT, Int.reduceLE, Int.reduceGT, Int.reduceGE, Int.reduceBEq, Int.reduceBNe, Int.reduceToNat, Int.reduceAdd, Int.reduceSub, Int.reduceMul, Int.reduceEq, Int.reduceNeg, reduceCtorEq, decide_true, decide_false, Bool.false_eq_true, ty3, ty4, ty5, ty9, ty22, ty24, ty38, ty39, ty40, ty43, ty27, ty28, ty74, ty75, ty59, eq24]
    refine Lwp.seq (Lwp.cond rfl (fun h => by cases h) (fun _ => Lwp.exit ?_))
    simp only [go_sem, List.isEmpty_nil, isC, eq_self, reduceIte, Nat.reduceAdd, Nat.reduceMul, Nat.reduceSub, Nat.reduceLT, Nat.reduceLeDiff, Nat.reduceEqDiff, Nat.reduceDiv, Nat.reduceMod, Nat.reducePow, Nat.reduceBEq, Nat.reduceBNe, Int.reduceLT, Int.reduceLE, Int.reduceGT, Int.reduceGE, Int.reduceBEq, Int.reduceBNe, Int.reduceToNat, Int.reduceAdd, Int.reduceSub, Int.reduceMul, Int.reduceEq, Int.reduceNeg, reduceCtorEq, decide_true, decide_false, Bool.false_eq_true]
    rw [Nat.mod_eq_of_lt hx]
    have g := limN_len 12 (v64 a * v64 b)
    refine Lwp.seq (Lwp.regI hT ?_)
    simp only [L79r18, go_sem, List.isEmpty_nil, isC, eq_self, reduceIte, Nat.reduceAdd, Nat.reduceMul, Nat.reduceSub, Nat.reduceLT, Nat.reduceLeDiff, Nat.reduceEqDiff, Nat.reduceDiv, Nat.reduceMod, Nat.reducePow, Nat.reduceBEq, Nat.reduceBNe, Int.reduceLT, Int.reduceLE, Int.reduceGT, Int.reduceGE, Int.reduceBEq, Int.reduceBNe, Int.reduceToNat, Int.reduceAdd, Int.reduceSub, Int.reduceMul, Int.reduceEq, Int.reduceNeg, reduceCtorEq, decide_true, decide_false, Bool.false_eq_true, ty3, ty4, ty5, ty9, ty22, ty24, ty38, ty39, ty40, ty43, ty27, ty28, ty74, ty75, ty59, eq24, g]
    refine Lwp.ret (post_val (v := .agg (ints .u64 (limN 12 (v64 a * v64 b)))) ?_ ?_)
    · simp only [go_sem, List.isEmpty_nil, isC, eq_self, reduceIte, Nat.reduceAdd, Nat.reduceMul, Nat.reduceSub, Nat.reduceLT, Nat.reduceLeDiff, Nat.reduceEqDiff, Nat.reduceDiv, Nat.reduceMod, Nat.reducePow, Nat.reduceBEq, Nat.reduceBNe, Int.reduceLT, Int.reduceLE, Int.reduceGT, Int.reduceGE, Int.reduceBEq, Int.reduceBNe, Int.reduceToNat, Int.reduceAdd, Int.reduceSub, Int.reduceMul, Int.reduceEq, Int.reduceNeg, reduceCtorEq, decide_true, decide_false, Bool.false_eq_true, ty75, g]
    · simp only [go_sem, List.isEmpty_nil, isC, eq_self, reduceIte, Nat.reduceAdd, Nat.reduceMul, Nat.reduceSub, Nat.reduceLT, Nat.reduceLeDiff, Nat.reduceEqDiff, Nat.reduceDiv, Nat.reduceMod, Nat.reducePow, Nat.reduceBEq, Nat.reduceBNe, Int.reduceLT, Int.reduceLE, Int.reduceGT, Int.reduceGE, Int.reduceBEq, Int.reduceBNe, Int.reduceToNat, Int.reduceAdd, Int.reduceSub, Int.reduceMul, Int.reduceEq, Int.reduceNeg, reduceCtorEq, decide_true, decide_false, Bool.false_eq_true]
end Eng

