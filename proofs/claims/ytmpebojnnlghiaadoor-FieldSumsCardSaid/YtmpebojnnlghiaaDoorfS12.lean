/- Contracts of the program's functions, and laws over them. There is no further condition. -/
import Derived.Test.YtmpebojnnlghiaaDoorfS11
set_option linter.unusedVariables false
set_option linter.unusedSimpArgs false
set_option exponentiation.threshold 2000
-- ALIAS: Tryd
namespace Eng
open Go Go.Proofs
set_option linter.unusedSimpArgs false
set_option linter.unusedVariables false
-- TY: List.isEmpty_nil, ty3, ty4, ty22, ty23, ty24, ty27, ty28, eq24
-- XN: 74=subX 75=addX

noncomputable def S76 : List AV → Option Ret := nz (sumOf (fun p : Nat => match p with | x => ((dig x).length ≤ 1000000)) (fun p : Nat => match p with | x => [.slc (dig (x)).length (ints .u64 (dig (x)))]) (fun p : Nat => match p with | x => ⟨.int .i64 (nb x : Nat), none⟩))
theorem S76_eq (x : Nat) (h0 : (dig x).length ≤ 1000000) : S76 [.slc (dig (x)).length (ints .u64 (dig (x)))] = some ⟨.int .i64 (nb x : Nat), none⟩ :=
  sumOf_eq (dom := (fun p : Nat => match p with | x => ((dig x).length ≤ 1000000))) (enc := (fun p : Nat => match p with | x => [.slc (dig (x)).length (ints .u64 (dig (x)))])) (out := (fun p : Nat => match p with | x => ⟨.int .i64 (nb x : Nat), none⟩)) x h0 (fun y _ e => by
    simp only [List.cons.injEq, AV.agg.injEq, AV.int.injEq, AV.slc.injEq, AV.iptr.injEq, AV.bool.injEq, AV.str.injEq, ints_injEq, dig_injEq,  Int.ofNat_inj, BitVec.toNat_inj, true_and, and_true] at e
    first | with_reducible rfl | simp only [e] | rfl)
theorem S76_inv {args : List AV} {r : Ret} (h : sumOf (fun p : Nat => match p with | x => ((dig x).length ≤ 1000000)) (fun p : Nat => match p with | x => [.slc (dig (x)).length (ints .u64 (dig (x)))]) (fun p : Nat => match p with | x => ⟨.int .i64 (nb x : Nat), none⟩) args = some r) : ∃ (x : Nat), (((dig x).length ≤ 1000000)) ∧ args = [.slc (dig (x)).length (ints .u64 (dig (x)))] ∧ r = ⟨.int .i64 (nb x : Nat), none⟩ := by
  obtain ⟨x, h1, h2, h3⟩ := sumOf_inv h
  exact ⟨x, h1, h2.symm, h3⟩


theorem half64 {q : Nat} (h : q < 18446744073709551616) : IntKind.u64.wrap ((q : Int).tdiv 2) = ((q / 2 : Nat) : Int) := by
  rw [Int.tdiv_eq_ediv_of_nonneg (by omega), wrap_u64 (by omega) (by omega)]; omega
def St36 (m d i : Nat) : AState := { nt := 25, env := [(3, .int .i64 (32 * m + i : Nat)), (4, .int .u64 (d / 2 ^ i : Nat))], mem := [], next := 20 }

set_option maxRecDepth 100000 in
theorem snd76 : SndE Tryd.prog NoG 76 S76 := by
  refine snd_nz (snd_by [] [] Tryd.func76 (by kernel_rfl) lite76 nt76 rs76 trivial trivial (fun hT args r h => ?_))
  obtain ⟨x, hd0, rfl, rfl⟩ := S76_inv h
  clear h
  have hM := hM0
  refine ⟨Nat.le_of_ble_eq_true rfl, fun F => ?_⟩
  unfold L76
  refine Lwp.seq (Lwp.regI hT ?_)
  simp only [L76r0, go_sem, List.isEmpty_nil, isC, eq_self, reduceIte, Nat.reduceAdd, Nat.reduceMul, Nat.reduceSub, Nat.reduceLT, Nat.reduceLeDiff, Nat.reduceEqDiff, Nat.reduceDiv, Nat.reduceMod, Nat.reducePow, Nat.reduceBEq, Nat.reduceBNe, Int.reduceLT, Int.reduceLE, Int.reduceGT, Int.reduceGE, Int.reduceBEq, Int.reduceBNe, Int.reduceToNat, Int.reduceAdd, Int.reduceSub, Int.reduceMul, Int.reduceEq, Int.reduceNeg, reduceCtorEq, decide_true, decide_false, Bool.false_eq_true, List.isEmpty_nil, ty3, ty4, ty22, ty23, ty24, ty27, ty28, eq24]
  refine Lwp.seq (Lwp.seq (Lwp.region hT ?_))
  by_cases hx : x = 0
  · subst hx
    have e : (dig 0).length = 0 := by rw [dig_zero]; rfl
    simp only [L76r1, go_sem, List.isEmpty_nil, isC, eq_self, reduceIte, Nat.reduceAdd, Nat.reduceMul, Nat.reduceSub, Nat.reduceLT, Nat.reduceLeDiff, Nat.reduceEqDiff, Nat.reduceDiv, Nat.reduceMod, Nat.reducePow, Nat.reduceBEq, Nat.reduceBNe, Int.reduceLT, Int.reduceLE, Int.reduceGT, Int.reduceGE, Int.reduceBEq, Int.reduceBNe, Int.reduceToNat, Int.reduceAdd, Int.reduceSub, Int.reduceMul, Int.reduceEq, Int.reduceNeg, reduceCtorEq, decide_true, decide_false, Bool.false_eq_true, ty3, ty22, ty28, e, Int.natCast_zero]
    refine Lwp.cond rfl (fun _ => ?_) (fun h => by cases h)
    refine Lwp.seq (Lwp.regI hT ?_)
    simp only [L76r2, go_sem, List.isEmpty_nil, isC, eq_self, reduceIte, Nat.reduceAdd, Nat.reduceMul, Nat.reduceSub, Nat.reduceLT, Nat.reduceLeDiff, Nat.reduceEqDiff, Nat.reduceDiv, Nat.reduceMod, Nat.reducePow, Nat.reduceBEq, Nat.reduceBNe, Int.reduceLT, Int.reduceLE, Int.reduceGT, Int.reduceGE, Int.reduceBEq, Int.reduceBNe, Int.reduceToNat, Int.reduceAdd, Int.reduceSub, Int.reduceMul, Int.reduceEq, Int.reduceNeg, reduceCtorEq, decide_true, decide_false, Bool.false_eq_true, List.isEmpty_nil, ty3, ty4, ty22, ty23, ty24, ty27, ty28, eq24]
    refine Lwp.ret (post_val (v := .int .i64 0) ?_ ?_)
    · simp only [go_sem, List.isEmpty_nil, isC, eq_self, reduceIte, Nat.reduceAdd, Nat.reduceMul, Nat.reduceSub, Nat.reduceLT, Nat.reduceLeDiff, Nat.reduceEqDiff, Nat.reduceDiv, Nat.reduceMod, Nat.reducePow, Nat.reduceBEq, Nat.reduceBNe, Int.reduceLT, Int.reduceLE, Int.reduceGT, Int.reduceGE, Int.reduceBEq, Int.reduceBNe, Int.reduceToNat, Int.reduceAdd, Int.reduceSub, Int.reduceMul, Int.reduceEq, Int.reduceNeg, reduceCtorEq, decide_true, decide_false, Bool.false_eq_true]
    · simp only [go_sem, List.isEmpty_nil, isC, eq_self, reduceIte, Nat.reduceAdd, Nat.reduceMul, Nat.reduceSub, Nat.reduceLT, Nat.reduceLeDiff, Nat.reduceEqDiff, Nat.reduceDiv, Nat.reduceMod, Nat.reducePow, Nat.reduceBEq, Nat.reduceBNe, Int.reduceLT, Int.reduceLE, Int.reduceGT, Int.reduceGE, Int.reduceBEq, Int.reduceBNe, Int.reduceToNat, Int.reduceAdd, Int.reduceSub, Int.reduceMul, Int.reduceEq, Int.reduceNeg, reduceCtorEq, decide_true, decide_false, Bool.false_eq_true]; rfl
  · obtain ⟨m, hm⟩ : ∃ m, (dig x).length = m + 1 := ⟨(dig x).length - 1, by
      have : ¬ (dig x).length ≤ 0 := by rw [dig_len_le]; simp; omega
      omega⟩
    have x1 := (dig_len_le x (m + 1)).1 (by omega)
    have x2 : ¬ x < 4294967296 ^ m := by rw [← dig_len_le]; omega
    have g := dig_getD x m
    have hd : x / 4294967296 ^ m < 4294967296 := Nat.div_lt_of_lt_mul (by rw [← Nat.pow_succ]; exact x1)
    have hd1 : 0 < x / 4294967296 ^ m := Nat.div_pos (by omega) (Nat.pow_pos (by decide))
    rw [Nat.mod_eq_of_lt hd] at g
    have key : ∀ i, nb x ≤ 32 * m + i ↔ x / 4294967296 ^ m < 2 ^ i := by
      intro i
      rw [nb_le, Nat.pow_add, Nat.pow_mul, Nat.div_lt_iff_lt_mul (Nat.pow_pos (by decide)), Nat.mul_comm]
    generalize x / 4294967296 ^ m = d at *
    have a1 : (((m + 1 : Nat) : Int) == 0) = false := by simp; omega
    simp only [L76r1, go_sem, List.isEmpty_nil, isC, eq_self, reduceIte, Nat.reduceAdd, Nat.reduceMul, Nat.reduceSub, Nat.reduceLT, Nat.reduceLeDiff, Nat.reduceEqDiff, Nat.reduceDiv, Nat.reduceMod, Nat.reducePow, Nat.reduceBEq, Nat.reduceBNe, Int.reduceLT, Int.reduceLE, Int.reduceGT, Int.reduceGE, Int.reduceBEq, Int.reduceBNe, Int.reduceToNat, Int.reduceAdd, Int.reduceSub, Int.reduceMul, Int.reduceEq, Int.reduceNeg, reduceCtorEq, decide_true, decide_false, Bool.false_eq_true, ty3, ty22, ty28, hm, a1]
    refine Lwp.cond rfl (fun h => by cases h) (fun _ => Lwp.skip ?_)
    simp only [go_sem, List.isEmpty_nil, isC, eq_self, reduceIte, Nat.reduceAdd, Nat.reduceMul, Nat.reduceSub, Nat.reduceLT, Nat.reduceLeDiff, Nat.reduceEqDiff, Nat.reduceDiv, Nat.reduceMod, Nat.reducePow, Nat.reduceBEq, Nat.reduceBNe, Int.reduceLT, Int.reduceLE, Int.reduceGT, Int.reduceGE, Int.reduceBEq, Int.reduceBNe, Int.reduceToNat, Int.reduceAdd, Int.reduceSub, Int.reduceMul, Int.reduceEq, Int.reduceNeg, reduceCtorEq, decide_true, decide_false, Bool.false_eq_true]
    have a2 : IntKind.i64.wrap (((m + 1 : Nat) : Int) - 1) = (m : Int) := by rw [wrap_i64 (by omega) (by omega)]; omega
    have a3 : IntKind.i64.wrap (32 * (m : Int)) = ((32 * m + 0 : Nat) : Int) := by rw [wrap_i64 (by omega) (by omega)]; omega
    have a4 : (0 : Int) ≤ m := by omega
    have a5 : (m : Int) < ((m + 1 : Nat) : Int) := by omega
    have a6 : m < (dig x).length := by omega
    refine Lwp.seq (Lwp.regI hT ?_)
    simp only [L76r3, go_sem, List.isEmpty_nil, isC, eq_self, reduceIte, Nat.reduceAdd, Nat.reduceMul, Nat.reduceSub, Nat.reduceLT, Nat.reduceLeDiff, Nat.reduceEqDiff, Nat.reduceDiv, Nat.reduceMod, Nat.reducePow, Nat.reduceBEq, Nat.reduceBNe, Int.reduceLT, Int.reduceLE, Int.reduceGT, Int.reduceGE, Int.reduceBEq, Int.reduceBNe, Int.reduceToNat, Int.reduceAdd, Int.reduceSub, Int.reduceMul, Int.reduceEq, Int.reduceNeg, reduceCtorEq, decide_true, decide_false, Bool.false_eq_true, List.isEmpty_nil, ty3, ty4, ty22, ty23, ty24, ty27, ty28, eq24, a2, a3]
    have gd : (dig x).getD m 0 = (((d / 2 ^ 0 : Nat)) : Int) := by rw [g]; simp
    have a7 : m ≤ m := Nat.le_refl _
    have a8 : m < m + 1 := by omega
    refine Lwp.seq (Lwp.regI hT ?_)
    simp only [L76r4, go_sem, List.isEmpty_nil, isC, eq_self, reduceIte, Nat.reduceAdd, Nat.reduceMul, Nat.reduceSub, Nat.reduceLT, Nat.reduceLeDiff, Nat.reduceEqDiff, Nat.reduceDiv, Nat.reduceMod, Nat.reducePow, Nat.reduceBEq, Nat.reduceBNe, Int.reduceLT, Int.reduceLE, Int.reduceGT, Int.reduceGE, Int.reduceBEq, Int.reduceBNe, Int.reduceToNat, Int.reduceAdd, Int.reduceSub, Int.reduceMul, Int.reduceEq, Int.reduceNeg, reduceCtorEq, decide_true, decide_false, Bool.false_eq_true, List.isEmpty_nil, ty3, ty4, ty22, ty23, ty24, ty27, ty28, eq24, a2, a4, a5, a6, gd, hm, a7, a8]
    refine Lwp.seq ?_
    refine Lwp.block (Lwp.whl (St36 m d) (fun i => i ≤ 40 ∧ (i = 0 ∨ ¬ nb x ≤ 32 * m + (i - 1))) (fun i => 40 - i) 0 ⟨by omega, .inl rfl⟩ ?_ ?_)
    · refine weak_of rfl ?_ ?_ ?_
      · (simp only [go_sem, List.isEmpty_nil, isC, eq_self, reduceIte, Nat.reduceAdd, Nat.reduceMul, Nat.reduceSub, Nat.reduceLT, Nat.reduceLeDiff, Nat.reduceEqDiff, Nat.reduceDiv, Nat.reduceMod, Nat.reducePow, Nat.reduceBEq, Nat.reduceBNe, Int.reduceLT, Int.reduceLE, Int.reduceGT, Int.reduceGE, Int.reduceBEq, Int.reduceBNe, Int.reduceToNat, Int.reduceAdd, Int.reduceSub, Int.reduceMul, Int.reduceEq, Int.reduceNeg, reduceCtorEq, decide_true, decide_false, Bool.false_eq_true, St36]; try rfl)
      · (simp only [go_sem, List.isEmpty_nil, isC, eq_self, reduceIte, Nat.reduceAdd, Nat.reduceMul, Nat.reduceSub, Nat.reduceLT, Nat.reduceLeDiff, Nat.reduceEqDiff, Nat.reduceDiv, Nat.reduceMod, Nat.reducePow, Nat.reduceBEq, Nat.reduceBNe, Int.reduceLT, Int.reduceLE, Int.reduceGT, Int.reduceGE, Int.reduceBEq, Int.reduceBNe, Int.reduceToNat, Int.reduceAdd, Int.reduceSub, Int.reduceMul, Int.reduceEq, Int.reduceNeg, reduceCtorEq, decide_true, decide_false, Bool.false_eq_true, St36]; try rfl)
      · (simp only [go_sem, List.isEmpty_nil, isC, eq_self, reduceIte, Nat.reduceAdd, Nat.reduceMul, Nat.reduceSub, Nat.reduceLT, Nat.reduceLeDiff, Nat.reduceEqDiff, Nat.reduceDiv, Nat.reduceMod, Nat.reducePow, Nat.reduceBEq, Nat.reduceBNe, Int.reduceLT, Int.reduceLE, Int.reduceGT, Int.reduceGE, Int.reduceBEq, Int.reduceBNe, Int.reduceToNat, Int.reduceAdd, Int.reduceSub, Int.reduceMul, Int.reduceEq, Int.reduceNeg, reduceCtorEq, decide_true, decide_false, Bool.false_eq_true, St36]; try rfl)
    · rintro i ⟨hi, hn⟩
      refine Lwp.seq (Lwp.seq (Lwp.region hT ?_))
      by_cases hz : d / 2 ^ i = 0
      · have b1 : ¬ ((d / 2 ^ i : Nat) : Int) > 0 := by omega
        simp only [L76r5, St36, go_sem, List.isEmpty_nil, isC, eq_self, reduceIte, Nat.reduceAdd, Nat.reduceMul, Nat.reduceSub, Nat.reduceLT, Nat.reduceLeDiff, Nat.reduceEqDiff, Nat.reduceDiv, Nat.reduceMod, Nat.reducePow, Nat.reduceBEq, Nat.reduceBNe, Int.reduceLT, Int.reduceLE, Int.reduceGT, Int.reduceGE, Int.reduceBEq, Int.reduceBNe, Int.reduceToNat, Int.reduceAdd, Int.reduceSub, Int.reduceMul, Int.reduceEq, Int.reduceNeg, reduceCtorEq, decide_true, decide_false, Bool.false_eq_true, ty3, ty22, b1]
        refine Lwp.cond rfl (fun h => by cases h) (fun _ => Lwp.exit ?_)
        simp only [go_sem, List.isEmpty_nil, isC, eq_self, reduceIte, Nat.reduceAdd, Nat.reduceMul, Nat.reduceSub, Nat.reduceLT, Nat.reduceLeDiff, Nat.reduceEqDiff, Nat.reduceDiv, Nat.reduceMod, Nat.reducePow, Nat.reduceBEq, Nat.reduceBNe, Int.reduceLT, Int.reduceLE, Int.reduceGT, Int.reduceGE, Int.reduceBEq, Int.reduceBNe, Int.reduceToNat, Int.reduceAdd, Int.reduceSub, Int.reduceMul, Int.reduceEq, Int.reduceNeg, reduceCtorEq, decide_true, decide_false, Bool.false_eq_true]
        refine Lwp.seq (Lwp.regI hT ?_)
        simp only [L76r8, go_sem, List.isEmpty_nil, isC, eq_self, reduceIte, Nat.reduceAdd, Nat.reduceMul, Nat.reduceSub, Nat.reduceLT, Nat.reduceLeDiff, Nat.reduceEqDiff, Nat.reduceDiv, Nat.reduceMod, Nat.reducePow, Nat.reduceBEq, Nat.reduceBNe, Int.reduceLT, Int.reduceLE, Int.reduceGT, Int.reduceGE, Int.reduceBEq, Int.reduceBNe, Int.reduceToNat, Int.reduceAdd, Int.reduceSub, Int.reduceMul, Int.reduceEq, Int.reduceNeg, reduceCtorEq, decide_true, decide_false, Bool.false_eq_true, List.isEmpty_nil, ty3, ty4, ty22, ty23, ty24, ty27, ty28, eq24]
        have b2 : nb x = 32 * m + i := by
          have h1 : nb x ≤ 32 * m + i := by
            rw [key]
            rcases Nat.div_eq_zero_iff.1 hz with h | h
            · exact absurd h (by have : 0 < 2 ^ i := Nat.pow_pos (by decide); omega)
            · exact h
          rcases hn with h | h
          · subst h
            rw [Nat.pow_zero, Nat.div_one] at hz; omega
          · omega
        refine Lwp.ret (post_val (v := .int .i64 (nb x : Nat)) ?_ ?_)
        · simp only [go_sem, List.isEmpty_nil, isC, eq_self, reduceIte, Nat.reduceAdd, Nat.reduceMul, Nat.reduceSub, Nat.reduceLT, Nat.reduceLeDiff, Nat.reduceEqDiff, Nat.reduceDiv, Nat.reduceMod, Nat.reducePow, Nat.reduceBEq, Nat.reduceBNe, Int.reduceLT, Int.reduceLE, Int.reduceGT, Int.reduceGE, Int.reduceBEq, Int.reduceBNe, Int.reduceToNat, Int.reduceAdd, Int.reduceSub, Int.reduceMul, Int.reduceEq, Int.reduceNeg, reduceCtorEq, decide_true, decide_false, Bool.false_eq_true, b2]
        · simp only [go_sem, List.isEmpty_nil, isC, eq_self, reduceIte, Nat.reduceAdd, Nat.reduceMul, Nat.reduceSub, Nat.reduceLT, Nat.reduceLeDiff, Nat.reduceEqDiff, Nat.reduceDiv, Nat.reduceMod, Nat.reducePow, Nat.reduceBEq, Nat.reduceBNe, Int.reduceLT, Int.reduceLE, Int.reduceGT, Int.reduceGE, Int.reduceBEq, Int.reduceBNe, Int.reduceToNat, Int.reduceAdd, Int.reduceSub, Int.reduceMul, Int.reduceEq, Int.reduceNeg, reduceCtorEq, decide_true, decide_false, Bool.false_eq_true]
      · have b1 : ((d / 2 ^ i : Nat) : Int) > 0 := Int.ofNat_lt.2 (Nat.pos_of_ne_zero hz)
        have i40 : i < 32 := by
          refine Nat.lt_of_not_le fun h => hz ?_
          exact Nat.div_eq_of_lt (Nat.lt_of_lt_of_le hd (show 2 ^ 32 ≤ 2 ^ i from Nat.pow_le_pow_right (by decide) h))
        have b2 : IntKind.u64.wrap (((d / 2 ^ i : Nat) : Int).tdiv 2) = ((d / 2 ^ (i + 1) : Nat) : Int) := by
          have hle : d / 2 ^ i ≤ d := Nat.div_le_self _ _
          rw [half64 (by omega), Nat.pow_succ, ← Nat.div_div_eq_div_mul]
        have b3 : IntKind.i64.wrap (((32 * m + i : Nat) : Int) + 1) = ((32 * m + (i + 1) : Nat) : Int) := by rw [wrap_i64 (by omega) (by omega)]; omega
        simp only [L76r5, St36, go_sem, List.isEmpty_nil, isC, eq_self, reduceIte, Nat.reduceAdd, Nat.reduceMul, Nat.reduceSub, Nat.reduceLT, Nat.reduceLeDiff, Nat.reduceEqDiff, Nat.reduceDiv, Nat.reduceMod, Nat.reducePow, Nat.reduceBEq, Nat.reduceBNe, Int.reduceLT, Int.reduceLE, Int.reduceGT, Int.reduceGE, Int.reduceBEq, Int.reduceBNe, Int.reduceToNat, Int.reduceAdd, Int.reduceSub, Int.reduceMul, Int.reduceEq, Int.reduceNeg, reduceCtorEq, decide_true, decide_false, Bool.false_eq_true, ty3, ty22, b1]
        refine Lwp.cond rfl (fun _ => Lwp.skip ?_) (fun h => by cases h)
        simp only [go_sem, List.isEmpty_nil, isC, eq_self, reduceIte, Nat.reduceAdd, Nat.reduceMul, Nat.reduceSub, Nat.reduceLT, Nat.reduceLeDiff, Nat.reduceEqDiff, Nat.reduceDiv, Nat.reduceMod, Nat.reducePow, Nat.reduceBEq, Nat.reduceBNe, Int.reduceLT, Int.reduceLE, Int.reduceGT, Int.reduceGE, Int.reduceBEq, Int.reduceBNe, Int.reduceToNat, Int.reduceAdd, Int.reduceSub, Int.reduceMul, Int.reduceEq, Int.reduceNeg, reduceCtorEq, decide_true, decide_false, Bool.false_eq_true]
        refine Lwp.block ?_
        refine Lwp.seq (Lwp.regI hT ?_)
        simp only [L76r6, go_sem, List.isEmpty_nil, isC, eq_self, reduceIte, Nat.reduceAdd, Nat.reduceMul, Nat.reduceSub, Nat.reduceLT, Nat.reduceLeDiff, Nat.reduceEqDiff, Nat.reduceDiv, Nat.reduceMod, Nat.reducePow, Nat.reduceBEq, Nat.reduceBNe, Int.reduceLT, Int.reduceLE, Int.reduceGT, Int.reduceGE, Int.reduceBEq, Int.reduceBNe, Int.reduceToNat, Int.reduceAdd, Int.reduceSub, Int.reduceMul, Int.reduceEq, Int.reduceNeg, reduceCtorEq, decide_true, decide_false, Bool.false_eq_true, List.isEmpty_nil, ty3, ty4, ty22, ty23, ty24, ty27, ty28, eq24, b2]
        refine Lwp.regI hT ?_
        simp only [L76r7, go_sem, List.isEmpty_nil, isC, eq_self, reduceIte, Nat.reduceAdd, Nat.reduceMul, Nat.reduceSub, Nat.reduceLT, Nat.reduceLeDiff, Nat.reduceEqDiff, Nat.reduceDiv, Nat.reduceMod, Nat.reducePow, Nat.reduceBEq, Nat.reduceBNe, Int.reduceLT, Int.reduceLE, Int.reduceGT, Int.reduceGE, Int.reduceBEq, Int.reduceBNe, Int.reduceToNat, Int.reduceAdd, Int.reduceSub, Int.reduceMul, Int.reduceEq, Int.reduceNeg, reduceCtorEq, decide_true, decide_false, Bool.false_eq_true, List.isEmpty_nil, ty3, ty4, ty22, ty23, ty24, ty27, ty28, eq24, b3]
        refine ⟨i + 1, ⟨by omega, .inr ?_⟩, by omega, ?_⟩
        · rw [Nat.add_sub_cancel, key]
          intro h
          exact hz (Nat.div_eq_of_lt h)
        · refine weak_of rfl ?_ ?_ ?_
          · (simp only [go_sem, List.isEmpty_nil, isC, eq_self, reduceIte, Nat.reduceAdd, Nat.reduceMul, Nat.reduceSub, Nat.reduceLT, Nat.reduceLeDiff, Nat.reduceEqDiff, Nat.reduceDiv, Nat.reduceMod, Nat.reducePow, Nat.reduceBEq, Nat.reduceBNe, Int.reduceLT, Int.reduceLE, Int.reduceGT, Int.reduceGE, Int.reduceBEq, Int.reduceBNe, Int.reduceToNat, Int.reduceAdd, Int.reduceSub, Int.reduceMul, Int.reduceEq, Int.reduceNeg, reduceCtorEq, decide_true, decide_false, Bool.false_eq_true, St36]; try rfl)
          · (simp only [go_sem, List.isEmpty_nil, isC, eq_self, reduceIte, Nat.reduceAdd, Nat.reduceMul, Nat.reduceSub, Nat.reduceLT, Nat.reduceLeDiff, Nat.reduceEqDiff, Nat.reduceDiv, Nat.reduceMod, Nat.reducePow, Nat.reduceBEq, Nat.reduceBNe, Int.reduceLT, Int.reduceLE, Int.reduceGT, Int.reduceGE, Int.reduceBEq, Int.reduceBNe, Int.reduceToNat, Int.reduceAdd, Int.reduceSub, Int.reduceMul, Int.reduceEq, Int.reduceNeg, reduceCtorEq, decide_true, decide_false, Bool.false_eq_true, St36]; try rfl)
          · (simp only [go_sem, List.isEmpty_nil, isC, eq_self, reduceIte, Nat.reduceAdd, Nat.reduceMul, Nat.reduceSub, Nat.reduceLT, Nat.reduceLeDiff, Nat.reduceEqDiff, Nat.reduceDiv, Nat.reduceMod, Nat.reducePow, Nat.reduceBEq, Nat.reduceBNe, Int.reduceLT, Int.reduceLE, Int.reduceGT, Int.reduceGE, Int.reduceBEq, Int.reduceBNe, Int.reduceToNat, Int.reduceAdd, Int.reduceSub, Int.reduceMul, Int.reduceEq, Int.reduceNeg, reduceCtorEq, decide_true, decide_false, Bool.false_eq_true, St36]; try rfl)

theorem dig12 {x : Nat} (h : x < 18446744073709551616 ^ 6) : (dig x).length ≤ 12 := by rw [dig_len_le]; exact h
theorem S51_lim {x : Nat} (h : x < 18446744073709551616 ^ 6) : S51 [.agg (ints .u64 (lim6 x))] = some ⟨.slc (dig (x)).length (ints .u64 (dig (x))), none⟩ := by
  have := S51_eq (lim6 x) (U6_lim x); rw [v64_lim6 h] at this; exact this
theorem S62_lim {x y : Nat} (hx : x < 18446744073709551616 ^ 6) (hy : y < 18446744073709551616 ^ 6) : S62 [.agg (ints .u64 (lim6 x)), .agg (ints .u64 (lim6 y))] = some ⟨.tup [.agg (ints .u64 (lim6 (x + y))), .int .u64 (if x + y < 18446744073709551616 ^ 6 then 0 else 1)], none⟩ := by
  rw [S62_eq _ _ (U6_lim x) (U6_lim y), addD_lim, addC_six hx hy]
theorem S60_lim (x y : Nat) : S60 [.agg (ints .u64 (lim6 x)), .agg (ints .u64 (lim6 y))] = some ⟨.tup [.agg (ints .u64 (limZ ((x : Int) - y))), .int .u64 ((borrow 18446744073709551616 x y 6 : Nat) : Int)], none⟩ := by
  rw [S60_eq _ _ (U6_lim x) (U6_lim y), subD_lim, subC_lim x y 6 (by decide)]
theorem S57_lim {x y : Nat} (hx : x < 18446744073709551616 ^ 6) (hy : y < 18446744073709551616 ^ 6) : S57 [.agg (ints .u64 (lim6 x)), .agg (ints .u64 (lim6 y))] = some ⟨.int .u64 (if x < y then 1 else 0), none⟩ := by
  rw [S57_eq _ _ (U6_lim x) (U6_lim y), subC_six hx hy]

theorem top_pow : (top : Int) = 18446744073709551616 ^ 6 := by decide
theorem limZ_back {x y : Nat} (hy : y < 18446744073709551616 ^ 6) : limZ (((x + y : Nat) : Int) - y) = lim6 x := by
  rw [show ((x + y : Nat) : Int) - y = (x : Int) by omega, limZ_nat]

end Eng
