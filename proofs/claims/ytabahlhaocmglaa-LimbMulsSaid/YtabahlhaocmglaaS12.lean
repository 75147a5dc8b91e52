/- Contracts of the program's functions, and laws over them. There is no further condition. -/
import Derived.Test.YtabahlhaocmglaaS11
set_option linter.unusedVariables false
set_option linter.unusedSimpArgs false
set_option exponentiation.threshold 2000
namespace Eng
open Go Go.Proofs
set_option linter.unusedSimpArgs false
set_option linter.unusedVariables false
-- TY: List.isEmpty_nil, ty3, ty4, ty22, ty23, ty24, ty37, ty38, eq24
-- XN: 55=subX 58=addX

noncomputable def S36 : List AV → Option Ret := nz (sumOf (fun p : Nat => match p with | x => ((dig x).length ≤ 1000000)) (fun p : Nat => match p with | x => [.slc (dig (x)).length (ints .u64 (dig (x)))]) (fun p : Nat => match p with | x => ⟨.int .i64 (nb x : Nat), none⟩))
theorem S36_eq (x : Nat) (h0 : (dig x).length ≤ 1000000) : S36 [.slc (dig (x)).length (ints .u64 (dig (x)))] = some ⟨.int .i64 (nb x : Nat), none⟩ :=
  sumOf_eq (dom := (fun p : Nat => match p with | x => ((dig x).length ≤ 1000000))) (enc := (fun p : Nat => match p with | x => [.slc (dig (x)).length (ints .u64 (dig (x)))])) (out := (fun p : Nat => match p with | x => ⟨.int .i64 (nb x : Nat), none⟩)) x h0 (fun y _ e => by
    simp only [List.cons.injEq, AV.agg.injEq, AV.int.injEq, AV.slc.injEq, AV.iptr.injEq, AV.bool.injEq, AV.str.injEq, ints_injEq, dig_injEq,  Int.ofNat_inj, BitVec.toNat_inj, true_and, and_true] at e
    first | with_reducible rfl | simp only [e] | rfl)
theorem S36_inv {args : List AV} {r : Ret} (h : sumOf (fun p : Nat => match p with | x => ((dig x).length ≤ 1000000)) (fun p : Nat => match p with | x => [.slc (dig (x)).length (ints .u64 (dig (x)))]) (fun p : Nat => match p with | x => ⟨.int .i64 (nb x : Nat), none⟩) args = some r) : ∃ (x : Nat), (((dig x).length ≤ 1000000)) ∧ args = [.slc (dig (x)).length (ints .u64 (dig (x)))] ∧ r = ⟨.int .i64 (nb x : Nat), none⟩ := by
  obtain ⟨x, h1, h2, h3⟩ := sumOf_inv h
  exact ⟨x, h1, h2.symm, h3⟩


theorem half64 {q : Nat} (h : q < 18446744073709551616) : IntKind.u64.wrap ((q : Int).tdiv 2) = ((q / 2 : Nat) : Int) := by
  rw [Int.tdiv_eq_ediv_of_nonneg (by omega), wrap_u64 (by omega) (by omega)]; omega
def St36 (m d i : Nat) : AState := { nt := 25, env := [(3, .int .i64 (32 * m + i : Nat)), (4, .int .u64 (d / 2 ^ i : Nat))], mem := [], next := 20 }

set_option maxRecDepth 100000 in
theorem snd36 : SndE Try.prog NoG 36 S36 := by
  refine snd_nz (snd_by [] [] Try.func36 (by kernel_rfl) lite36 nt36 rs36 trivial trivial (fun hT args r h => ?_))
  obtain ⟨x, hd0, rfl, rfl⟩ := S36_inv h
  clear h
  have hM := hM0
  refine ⟨Nat.le_of_ble_eq_true rfl, fun F => ?_⟩
  unfold L36
  refine Lwp.seq (Lwp.regI hT ?_)
  simp only [L36r0, go_sem, eq_self, reduceIte, Nat.reduceAdd, Nat.reduceMul, Nat.reduceSub, Nat.reduceLT, Nat.reduceLeDiff, Nat.reduceEqDiff, Nat.reduceDiv, Nat.reduceMod, Nat.reducePow, Nat.reduceBEq, Nat.reduceBNe, Int.reduceLT, Int.reduceLE, Int.reduceGT, Int.reduceGE, Int.reduceBEq, Int.reduceBNe, Int.reduceToNat, Int.reduceAdd, Int.reduceSub, Int.reduceMul, Int.reduceEq, Int.reduceNeg, reduceCtorEq, decide_true, decide_false, Bool.false_eq_true, List.isEmpty_nil, ty3, ty4, ty22, ty23, ty24, ty37, ty38, eq24]
  refine Lwp.seq (Lwp.seq (Lwp.region hT ?_))
  by_cases hx : x = 0
  · subst hx
    have e : (dig 0).length = 0 := by rw [dig_zero]; rfl
    simp only [L36r1, go_sem, eq_self, reduceIte, Nat.reduceAdd, Nat.reduceMul, Nat.reduceSub, Nat.reduceLT, Nat.reduceLeDiff, Nat.reduceEqDiff, Nat.reduceDiv, Nat.reduceMod, Nat.reducePow, Nat.reduceBEq, Nat.reduceBNe, Int.reduceLT, Int.reduceLE, Int.reduceGT, Int.reduceGE, Int.reduceBEq, Int.reduceBNe, Int.reduceToNat, Int.reduceAdd, Int.reduceSub, Int.reduceMul, Int.reduceEq, Int.reduceNeg, reduceCtorEq, decide_true, decide_false, Bool.false_eq_true, ty3, ty22, ty38, e, Int.natCast_zero]
    refine Lwp.cond rfl (fun _ => ?_) (fun h => by cases h)
    refine Lwp.seq (Lwp.regI hT ?_)
    simp only [L36r2, go_sem, eq_self, reduceIte, Nat.reduceAdd, Nat.reduceMul, Nat.reduceSub, Nat.reduceLT, Nat.reduceLeDiff, Nat.reduceEqDiff, Nat.reduceDiv, Nat.reduceMod, Nat.reducePow, Nat.reduceBEq, Nat.reduceBNe, Int.reduceLT, Int.reduceLE, Int.reduceGT, Int.reduceGE, Int.reduceBEq, Int.reduceBNe, Int.reduceToNat, Int.reduceAdd, Int.reduceSub, Int.reduceMul, Int.reduceEq, Int.reduceNeg, reduceCtorEq, decide_true, decide_false, Bool.false_eq_true, List.isEmpty_nil, ty3, ty4, ty22, ty23, ty24, ty37, ty38, eq24]
    refine Lwp.ret (post_val (v := .int .i64 0) ?_ ?_)
    · simp only [go_sem, eq_self, reduceIte, Nat.reduceAdd, Nat.reduceMul, Nat.reduceSub, Nat.reduceLT, Nat.reduceLeDiff, Nat.reduceEqDiff, Nat.reduceDiv, Nat.reduceMod, Nat.reducePow, Nat.reduceBEq, Nat.reduceBNe, Int.reduceLT, Int.reduceLE, Int.reduceGT, Int.reduceGE, Int.reduceBEq, Int.reduceBNe, Int.reduceToNat, Int.reduceAdd, Int.reduceSub, Int.reduceMul, Int.reduceEq, Int.reduceNeg, reduceCtorEq, decide_true, decide_false, Bool.false_eq_true]
    · simp only [go_sem, eq_self, reduceIte, Nat.reduceAdd, Nat.reduceMul, Nat.reduceSub, Nat.reduceLT, Nat.reduceLeDiff, Nat.reduceEqDiff, Nat.reduceDiv, Nat.reduceMod, Nat.reducePow, Nat.reduceBEq, Nat.reduceBNe, Int.reduceLT, Int.reduceLE, Int.reduceGT, Int.reduceGE, Int.reduceBEq, Int.reduceBNe, Int.reduceToNat, Int.reduceAdd, Int.reduceSub, Int.reduceMul, Int.reduceEq, Int.reduceNeg, reduceCtorEq, decide_true, decide_false, Bool.false_eq_true]; rfl
  · obtain ⟨m, hm⟩ : ∃ m, (dig x).length = m + 1 := ⟨(dig x).length - 1, by
      have : ¬ (dig x).length ≤ 0 := by rw [dig_len_le]; simp; omega
      omega⟩
    have x1 := (dig_len_le x (m + 1)).1 (by omega)
    have x2 : ¬ x < 4294967296 ^ m := by rw [← dig_len_le]; omega
    have g := dig_getD x m
    have hd : x / 4294967296 ^ m < 4294967296 := Nat.div_lt_of_lt_mul (by rw [← Nat.pow_succ]; exact x1)
    have hd1 : 0 < x / 4294967296 ^ m := Nat.div_pos (by omega) (Nat.pow_pos (by decide))
    rw [Nat.mod_eq_of_lt hd] at g
    have key : ∀ i, nb x ≤ 32 * m + i ↔ x / 4294967296 ^ m < 2 ^ i := by
      intro i
      rw [nb_le, Nat.pow_add, Nat.pow_mul, Nat.div_lt_iff_lt_mul (Nat.pow_pos (by decide)), Nat.mul_comm]
    generalize x / 4294967296 ^ m = d at *
    have a1 : (((m + 1 : Nat) : Int) == 0) = false := by simp; omega
    simp only [L36r1, go_sem, eq_self, reduceIte, Nat.reduceAdd, Nat.reduceMul, Nat.reduceSub, Nat.reduceLT, Nat.reduceLeDiff, Nat.reduceEqDiff, Nat.reduceDiv, Nat.reduceMod, Nat.reducePow, Nat.reduceBEq, Nat.reduceBNe, Int.reduceLT, Int.reduceLE, Int.reduceGT, Int.reduceGE, Int.reduceBEq, Int.reduceBNe, Int.reduceToNat, Int.reduceAdd, Int.reduceSub, Int.reduceMul, Int.reduceEq, Int.reduceNeg, reduceCtorEq, decide_true, decide_false, Bool.false_eq_true, ty3, ty22, ty38, hm, a1]
    refine Lwp.cond rfl (fun h => by cases h) (fun _ => Lwp.skip ?_)
    simp only [go_sem, eq_self, reduceIte, Nat.reduceAdd, Nat.reduceMul, Nat.reduceSub, Nat.reduceLT, Nat.reduceLeDiff, Nat.reduceEqDiff, Nat.reduceDiv, Nat.reduceMod, Nat.reducePow, Nat.reduceBEq, Nat.reduceBNe, Int.reduceLT, Int.reduceLE, Int.reduceGT, Int.reduceGE, Int.reduceBEq, Int.reduceBNe, Int.reduceToNat, Int.reduceAdd, Int.reduceSub, Int.reduceMul, Int.reduceEq, Int.reduceNeg, reduceCtorEq, decide_true, decide_false, Bool.false_eq_true]
    have a2 : IntKind.i64.wrap (((m + 1 : Nat) : Int) - 1) = (m : Int) := by rw [wrap_i64 (by omega) (by omega)]; omega
    have a3 : IntKind.i64.wrap (32 * (m : Int)) = ((32 * m + 0 : Nat) : Int) := by rw [wrap_i64 (by omega) (by omega)]; omega
    have a4 : (0 : Int) ≤ m := by omega
    have a5 : (m : Int) < ((m + 1 : Nat) : Int) := by omega
    have a6 : m < (dig x).length := by omega
    refine Lwp.seq (Lwp.regI hT ?_)
    simp only [L36r3, go_sem, eq_self, reduceIte, Nat.reduceAdd, Nat.reduceMul, Nat.reduceSub, Nat.reduceLT, Nat.reduceLeDiff, Nat.reduceEqDiff, Nat.reduceDiv, Nat.reduceMod, Nat.reducePow, Nat.reduceBEq, Nat.reduceBNe, Int.reduceLT, Int.reduceLE, Int.reduceGT, Int.reduceGE, Int.reduceBEq, Int.reduceBNe, Int.reduceToNat, Int.reduceAdd, Int.reduceSub, Int.reduceMul, Int.reduceEq, Int.reduceNeg, reduceCtorEq, decide_true, decide_false, Bool.false_eq_true, List.isEmpty_nil, ty3, ty4, ty22, ty23, ty24, ty37, ty38, eq24, a2, a3]
    have gd : (dig x).getD m 0 = (((d / 2 ^ 0 : Nat)) : Int) := by rw [g]; simp
    have a7 : m ≤ m := Nat.le_refl _
    have a8 : m < m + 1 := by omega
    refine Lwp.seq (Lwp.regI hT ?_)
    simp only [L36r4, go_sem, eq_self, reduceIte, Nat.reduceAdd, Nat.reduceMul, Nat.reduceSub, Nat.reduceLT, Nat.reduceLeDiff, Nat.reduceEqDiff, Nat.reduceDiv, Nat.reduceMod, Nat.reducePow, Nat.reduceBEq, Nat.reduceBNe, Int.reduceLT, Int.reduceLE, Int.reduceGT, Int.reduceGE, Int.reduceBEq, Int.reduceBNe, Int.reduceToNat, Int.reduceAdd, Int.reduceSub, Int.reduceMul, Int.reduceEq, Int.reduceNeg, reduceCtorEq, decide_true, decide_false, Bool.false_eq_true, List.isEmpty_nil, ty3, ty4, ty22, ty23, ty24, ty37, ty38, eq24, a2, a4, a5, a6, gd, hm, a7, a8]
    refine Lwp.seq ?_
    refine Lwp.block (Lwp.whl (St36 m d) (fun i => i ≤ 40 ∧ (i = 0 ∨ ¬ nb x ≤ 32 * m + (i - 1))) (fun i => 40 - i) 0 ⟨by omega, .inl rfl⟩ ?_ ?_)
    · refine weak_of rfl ?_ ?_ ?_
      · (simp only [go_sem, eq_self, reduceIte, Nat.reduceAdd, Nat.reduceMul, Nat.reduceSub, Nat.reduceLT, Nat.reduceLeDiff, Nat.reduceEqDiff, Nat.reduceDiv, Nat.reduceMod, Nat.reducePow, Nat.reduceBEq, Nat.reduceBNe, Int.reduceLT, Int.reduceLE, Int.reduceGT, Int.reduceGE, Int.reduceBEq, Int.reduceBNe, Int.reduceToNat, Int.reduceAdd, Int.reduceSub, Int.reduceMul, Int.reduceEq, Int.reduceNeg, reduceCtorEq, decide_true, decide_false, Bool.false_eq_true, St36]; try rfl)
      · (simp only [go_sem, eq_self, reduceIte, Nat.reduceAdd, Nat.reduceMul, Nat.reduceSub, Nat.reduceLT, Nat.reduceLeDiff, Nat.reduceEqDiff, Nat.reduceDiv, Nat.reduceMod, Nat.reducePow, Nat.reduceBEq, Nat.reduceBNe, Int.reduceLT, Int.reduceLE, Int.reduceGT, Int.reduceGE, Int.reduceBEq, Int.reduceBNe, Int.reduceToNat, Int.reduceAdd, Int.reduceSub, Int.reduceMul, Int.reduceEq, Int.reduceNeg, reduceCtorEq, decide_true, decide_false, Bool.false_eq_true, St36]; try rfl)
      · (simp only [go_sem, eq_self, reduceIte, Nat.reduceAdd, Nat.reduceMul, Nat.reduceSub, Nat.reduceLT, Nat.reduceLeDiff, Nat.reduceEqDiff, Nat.reduceDiv, Nat.reduceMod, Nat.reducePow, Nat.reduceBEq, Nat.reduceBNe, Int.reduceLT, Int.reduceLE, Int.reduceGT, Int.reduceGE, Int.reduceBEq, Int.reduceBNe, Int.reduceToNat, Int.reduceAdd, Int.reduceSub, Int.reduceMul, Int.reduceEq, Int.reduceNeg, reduceCtorEq, decide_true, decide_false, Bool.false_eq_true, St36]; try rfl)
    · rintro i ⟨hi, hn⟩
      refine Lwp.seq (Lwp.seq (Lwp.region hT ?_))
      by_cases hz : d / 2 ^ i = 0
      · have b1 : ¬ ((d / 2 ^ i : Nat) : Int) > 0 := by omega
        simp only [L36r5, St36, go_sem, eq_self, reduceIte, Nat.reduceAdd, Nat.reduceMul, Nat.reduceSub, Nat.reduceLT, Nat.reduceLeDiff, Nat.reduceEqDiff, Nat.reduceDiv, Nat.reduceMod, Nat.reducePow, Nat.reduceBEq, Nat.reduceBNe, Int.reduceLT, Int.reduceLE, Int.reduceGT, Int.reduceGE, Int.reduceBEq, Int.reduceBNe, Int.reduceToNat, Int.reduceAdd, Int.reduceSub, Int.reduceMul, Int.reduceEq, Int.reduceNeg, reduceCtorEq, decide_true, decide_false, Bool.false_eq_true, ty3, ty22, b1]
        refine Lwp.cond rfl (fun h => by cases h) (fun _ => Lwp.exit ?_)
        simp only [go_sem, eq_self, reduceIte, Nat.reduceAdd, Nat.reduceMul, Nat.reduceSub, Nat.reduceLT, Nat.reduceLeDiff, Nat.reduceEqDiff, Nat.reduceDiv, Nat.reduceMod, Nat.reducePow, Nat.reduceBEq, Nat.reduceBNe, Int.reduceLT, Int.reduceLE, Int.reduceGT, Int.reduceGE, Int.reduceBEq, Int.reduceBNe, Int.reduceToNat, Int.reduceAdd, Int.reduceSub, Int.reduceMul, Int.reduceEq, Int.reduceNeg, reduceCtorEq, decide_true, decide_false, Bool.false_eq_true]
        refine Lwp.seq (Lwp.regI hT ?_)
        simp only [L36r8, go_sem, eq_self, reduceIte, Nat.reduceAdd, Nat.reduceMul, Nat.reduceSub, Nat.reduceLT, Nat.reduceLeDiff, Nat.reduceEqDiff, Nat.reduceDiv, Nat.reduceMod, Nat.reducePow, Nat.reduceBEq, Nat.reduceBNe, Int.reduceLT, Int.reduceLE, Int.reduceGT, Int.reduceGE, Int.reduceBEq, Int.reduceBNe, Int.reduceToNat, Int.reduceAdd, Int.reduceSub, Int.reduceMul, Int.reduceEq, Int.reduceNeg, reduceCtorEq, decide_true, decide_false, Bool.false_eq_true, List.isEmpty_nil, ty3, ty4, ty22, ty23, ty24, ty37, ty38, eq24]
        have b2 : nb x = 32 * m + i := by
          have h1 : nb x ≤ 32 * m + i := by
            rw [key]
            rcases Nat.div_eq_zero_iff.1 hz with h | h
            · exact absurd h (by have : 0 < 2 ^ i := Nat.pow_pos (by decide); omega)
            · exact h
          rcases hn with h | h
          · subst h
            rw [Nat.pow_zero, Nat.div_one] at hz; omega
          · omega
        refine Lwp.ret (post_val (v := .int .i64 (nb x : Nat)) ?_ ?_)
        · simp only [go_sem, eq_self, reduceIte, Nat.reduceAdd, Nat.reduceMul, Nat.reduceSub, Nat.reduceLT, Nat.reduceLeDiff, Nat.reduceEqDiff, Nat.reduceDiv, Nat.reduceMod, Nat.reducePow, Nat.reduceBEq, Nat.reduceBNe, Int.reduceLT, Int.reduceLE, Int.reduceGT, Int.reduceGE, Int.reduceBEq, Int.reduceBNe, Int.reduceToNat, Int.reduceAdd, Int.reduceSub, Int.reduceMul, Int.reduceEq, Int.reduceNeg, reduceCtorEq, decide_true, decide_false, Bool.false_eq_true, b2]
        · simp only [go_sem, eq_self, reduceIte, Nat.reduceAdd, Nat.reduceMul, Nat.reduceSub, Nat.reduceLT, Nat.reduceLeDiff, Nat.reduceEqDiff, Nat.reduceDiv, Nat.reduceMod, Nat.reducePow, Nat.reduceBEq, Nat.reduceBNe, Int.reduceLT, Int.reduceLE, Int.reduceGT, Int.reduceGE, Int.reduceBEq, Int.reduceBNe, Int.reduceToNat, Int.reduceAdd, Int.reduceSub, Int.reduceMul, Int.reduceEq, Int.reduceNeg, reduceCtorEq, decide_true, decide_false, Bool.false_eq_true]
      · have b1 : ((d / 2 ^ i : Nat) : Int) > 0 := Int.ofNat_lt.2 (Nat.pos_of_ne_zero hz)
        have i40 : i < 32 := by
          refine Nat.lt_of_not_le fun h => hz ?_
          exact Nat.div_eq_of_lt (Nat.lt_of_lt_of_le hd (show 2 ^ 32 ≤ 2 ^ i from Nat.pow_le_pow_right (by decide) h))
        have b2 : IntKind.u64.wrap (((d / 2 ^ i : Nat) : Int).tdiv 2) = ((d / 2 ^ (i + 1) : Nat) : Int) := by
          have hle : d / 2 ^ i ≤ d := Nat.div_le_self _ _
          rw [half64 (by omega), Nat.pow_succ, ← Nat.div_div_eq_div_mul]
        have b3 : IntKind.i64.wrap (((32 * m + i : Nat) : Int) + 1) = ((32 * m + (i + 1) : Nat) : Int) := by rw [wrap_i64 (by omega) (by omega)]; omega
        simp only [L36r5, St36, go_sem, eq_self, reduceIte, Nat.reduceAdd, Nat.reduceMul, Nat.reduceSub, Nat.reduceLT, Nat.reduceLeDiff, Nat.reduceEqDiff, Nat.reduceDiv, Nat.reduceMod, Nat.reducePow, Nat.reduceBEq, Nat.reduceBNe, Int.reduceLT, Int.reduceLE, Int.reduceGT, Int.reduceGE, Int.reduceBEq, Int.reduceBNe, Int.reduceToNat, Int.reduceAdd, Int.reduceSub, Int.reduceMul, Int.reduceEq, Int.reduceNeg, reduceCtorEq, decide_true, decide_false, Bool.false_eq_true, ty3, ty22, b1]
        refine Lwp.cond rfl (fun _ => Lwp.skip ?_) (fun h => by cases h)
        simp only [go_sem, eq_self, reduceIte, Nat.reduceAdd, Nat.reduceMul, Nat.reduceSub, Nat.reduceLT, Nat.reduceLeDiff, Nat.reduceEqDiff, Nat.reduceDiv, Nat.reduceMod, Nat.reducePow, Nat.reduceBEq, Nat.reduceBNe, Int.reduceLT, Int.reduceLE, Int.reduceGT, Int.reduceGE, Int.reduceBEq, Int.reduceBNe, Int.reduceToNat, Int.reduceAdd, Int.reduceSub, Int.reduceMul, Int.reduceEq, Int.reduceNeg, reduceCtorEq, decide_true, decide_false, Bool.false_eq_true]
        refine Lwp.block ?_
        refine Lwp.seq (Lwp.regI hT ?_)
        simp only [L36r6, go_sem, eq_self, reduceIte, Nat.reduceAdd, Nat.reduceMul, Nat.reduceSub, Nat.reduceLT, Nat.reduceLeDiff, Nat.reduceEqDiff, Nat.reduceDiv, Nat.reduceMod, Nat.reducePow, Nat.reduceBEq, Nat.reduceBNe, Int.reduceLT, Int.reduceLE, Int.reduceGT, Int.reduceGE, Int.reduceBEq, Int.reduceBNe, Int.reduceToNat, Int.reduceAdd, Int.reduceSub, Int.reduceMul, Int.reduceEq, Int.reduceNeg, reduceCtorEq, decide_true, decide_false, Bool.false_eq_true, List.isEmpty_nil, ty3, ty4, ty22, ty23, ty24, ty37, ty38, eq24, b2]
        refine Lwp.regI hT ?_
        simp only [L36r7, go_sem, eq_self, reduceIte, Nat.reduceAdd, Nat.reduceMul, Nat.reduceSub, Nat.reduceLT, Nat.reduceLeDiff, Nat.reduceEqDiff, Nat.reduceDiv, Nat.reduceMod, Nat.reducePow, Nat.reduceBEq, Nat.reduceBNe, Int.reduceLT, Int.reduceLE, Int.reduceGT, Int.reduceGE, Int.reduceBEq, Int.reduceBNe, Int.reduceToNat, Int.reduceAdd, Int.reduceSub, Int.reduceMul, Int.reduceEq, Int.reduceNeg, reduceCtorEq, decide_true, decide_false, Bool.false_eq_true, List.isEmpty_nil, ty3, ty4, ty22, ty23, ty24, ty37, ty38, eq24, b3]
        refine ⟨i + 1, ⟨by omega, .inr ?_⟩, by omega, ?_⟩
        · rw [Nat.add_sub_cancel, key]
          intro h
          exact hz (Nat.div_eq_of_lt h)
        · refine weak_of rfl ?_ ?_ ?_
          · (simp only [go_sem, eq_self, reduceIte, Nat.reduceAdd, Nat.reduceMul, Nat.reduceSub, Nat.reduceLT, Nat.reduceLeDiff, Nat.reduceEqDiff, Nat.reduceDiv, Nat.reduceMod, Nat.reducePow, Nat.reduceBEq, Nat.reduceBNe, Int.reduceLT, Int.reduceLE, Int.reduceGT, Int.reduceGE, Int.reduceBEq, Int.reduceBNe, Int.reduceToNat, Int.reduceAdd, Int.reduceSub, Int.reduceMul, Int.reduceEq, Int.reduceNeg, reduceCtorEq, decide_true, decide_false, Bool.false_eq_true, St36]; try rfl)
          · (simp only [go_sem, eq_self, reduceIte, Nat.reduceAdd, Nat.reduceMul, Nat.reduceSub, Nat.reduceLT, Nat.reduceLeDiff, Nat.reduceEqDiff, Nat.reduceDiv, Nat.reduceMod, Nat.reducePow, Nat.reduceBEq, Nat.reduceBNe, Int.reduceLT, Int.reduceLE, Int.reduceGT, Int.reduceGE, Int.reduceBEq, Int.reduceBNe, Int.reduceToNat, Int.reduceAdd, Int.reduceSub, Int.reduceMul, Int.reduceEq, Int.reduceNeg, reduceCtorEq, decide_true, decide_false, Bool.false_eq_true, St36]; try rfl)
          · (simp only [go_sem, eq_self, reduceIte, Nat.reduceAdd, Nat.reduceMul, Nat.reduceSub, Nat.reduceLT, Nat.reduceLeDiff, Nat.reduceEqDiff, Nat.reduceDiv, Nat.reduceMod, Nat.reducePow, Nat.reduceBEq, Nat.reduceBNe, Int.reduceLT, Int.reduceLE, Int.reduceGT, Int.reduceGE, Int.reduceBEq, Int.reduceBNe, Int.reduceToNat, Int.reduceAdd, Int.reduceSub, Int.reduceMul, Int.reduceEq, Int.reduceNeg, reduceCtorEq, decide_true, decide_false, Bool.false_eq_true, St36]; try rfl)

theorem dig12 {x : Nat} (h : x < 18446744073709551616 ^ 6) : (dig x).length ≤ 12 := by rw [dig_len_le]; exact h
theorem S28_lim {x : Nat} (h : x < 18446744073709551616 ^ 6) : S28 [.agg (ints .u64 (lim6 x))] = some ⟨.slc (dig (x)).length (ints .u64 (dig (x))), none⟩ := by
  have := S28_eq (lim6 x) (U6_lim x); rw [v64_lim6 h] at this; exact this
theorem S35_lim {x y : Nat} (hx : x < 18446744073709551616 ^ 6) (hy : y < 18446744073709551616 ^ 6) : S35 [.agg (ints .u64 (lim6 x)), .agg (ints .u64 (lim6 y))] = some ⟨.tup [.agg (ints .u64 (lim6 (x + y))), .int .u64 (if x + y < 18446744073709551616 ^ 6 then 0 else 1)], none⟩ := by
  rw [S35_eq _ _ (U6_lim x) (U6_lim y), addD_lim, addC_six hx hy]
theorem S27_lim (x y : Nat) : S27 [.agg (ints .u64 (lim6 x)), .agg (ints .u64 (lim6 y))] = some ⟨.tup [.agg (ints .u64 (limZ ((x : Int) - y))), .int .u64 ((borrow 18446744073709551616 x y 6 : Nat) : Int)], none⟩ := by
  rw [S27_eq _ _ (U6_lim x) (U6_lim y), subD_lim, subC_lim x y 6 (by decide)]
theorem S37_lim {x y : Nat} (hx : x < 18446744073709551616 ^ 6) (hy : y < 18446744073709551616 ^ 6) : S37 [.agg (ints .u64 (lim6 x)), .agg (ints .u64 (lim6 y))] = some ⟨.int .u64 (if x < y then 1 else 0), none⟩ := by
  rw [S37_eq _ _ (U6_lim x) (U6_lim y), subC_six hx hy]

noncomputable def S9 : List AV → Option Ret := nz (sumOf (fun p : List Int × List Int => match p with | (a, b) => (U6 a) ∧ (U6 b)) (fun p : List Int × List Int => match p with | (a, b) => [.agg (ints .u64 a), .agg (ints .u64 b)]) (fun p : List Int × List Int => match p with | (a, b) => ⟨.bool true, none⟩))
theorem S9_eq (a : List Int) (b : List Int) (h0 : U6 a) (h1 : U6 b) : S9 [.agg (ints .u64 a), .agg (ints .u64 b)] = some ⟨.bool true, none⟩ :=
  sumOf_eq (dom := (fun p : List Int × List Int => match p with | (a, b) => (U6 a) ∧ (U6 b))) (enc := (fun p : List Int × List Int => match p with | (a, b) => [.agg (ints .u64 a), .agg (ints .u64 b)])) (out := (fun p : List Int × List Int => match p with | (a, b) => ⟨.bool true, none⟩)) (a, b) ⟨h0, h1⟩ (fun y _ e => by
    obtain ⟨y0, y1⟩ := y
    simp only [List.cons.injEq, AV.agg.injEq, AV.int.injEq, AV.slc.injEq, AV.iptr.injEq, AV.bool.injEq, AV.str.injEq, ints_injEq, dig_injEq,  Int.ofNat_inj, BitVec.toNat_inj, true_and, and_true] at e
    first | with_reducible rfl | simp only [e] | rfl)
theorem S9_inv {args : List AV} {r : Ret} (h : sumOf (fun p : List Int × List Int => match p with | (a, b) => (U6 a) ∧ (U6 b)) (fun p : List Int × List Int => match p with | (a, b) => [.agg (ints .u64 a), .agg (ints .u64 b)]) (fun p : List Int × List Int => match p with | (a, b) => ⟨.bool true, none⟩) args = some r) : ∃ (a : List Int) (b : List Int), ((U6 a) ∧ (U6 b)) ∧ args = [.agg (ints .u64 a), .agg (ints .u64 b)] ∧ r = ⟨.bool true, none⟩ := by
  obtain ⟨x, h1, h2, h3⟩ := sumOf_inv h
  obtain ⟨a, b⟩ := x
  exact ⟨a, b, h1, h2.symm, h3⟩


set_option maxRecDepth 100000 in
theorem snd9 : SndE Try.prog NoG 9 S9 := by
  refine snd_nz (snd_by [(22, S22), (28, S28), (29, S29), (33, S33), (37, S37)] [] Try.func9 (by kernel_rfl) lite9 nt9 rs9 ⟨snd22, snd28, snd29, snd33, snd37, trivial⟩ trivial (fun hT args r h => ?_))
  obtain ⟨a, b, ⟨hd0, hd1⟩, rfl, rfl⟩ := S9_inv h
  clear h
  have hM := hM0
  refine ⟨Nat.le_of_ble_eq_true rfl, fun F => ?_⟩
  unfold L9
  obtain ⟨x, hx, rfl⟩ := hd0.lim
  obtain ⟨y, hy, rfl⟩ := hd1.lim
  have l1 := dig12 hx
  have l2 := dig12 hy
  have f1 := S28_lim hx
  have f2 := S28_lim hy
  have f3 := S29_eq x y (by omega) (by omega)
  have f4 := S37_lim hx hy
  have f5 : S37 [.agg (ints .u64 (List.replicate 6 0)), .agg (ints .u64 one6)] = some ⟨.int .u64 1, none⟩ := by rw [S37_eq _ _ U6_zero U6_one]; rfl
  have f6 : S33 [.bool true] = some ⟨.int .u64 1, none⟩ := S33_eq true
  have f7 : S33 [.bool false] = some ⟨.int .u64 0, none⟩ := S33_eq false
  have l3 := lim6_len x
  have l4 := lim6_len y
  clear hd0 hd1
  generalize lim6 x = a at *
  generalize lim6 y = b at *
  refine Lwp.seq (Lwp.regI hT ?_)
  simp only [L9r0, go_sem, eq_self, reduceIte, Nat.reduceAdd, Nat.reduceMul, Nat.reduceSub, Nat.reduceLT, Nat.reduceLeDiff, Nat.reduceEqDiff, Nat.reduceDiv, Nat.reduceMod, Nat.reducePow, Nat.reduceBEq, Nat.reduceBNe, Int.reduceLT, Int.reduceLE, Int.reduceGT, Int.reduceGE, Int.reduceBEq, Int.reduceBNe, Int.reduceToNat, Int.reduceAdd, Int.reduceSub, Int.reduceMul, Int.reduceEq, Int.reduceNeg, reduceCtorEq, decide_true, decide_false, Bool.false_eq_true, List.isEmpty_nil, ty3, ty4, ty22, ty23, ty24, ty37, ty38, eq24]
  by_cases h : x < y
  · rw [if_pos h] at f3 f4
    refine Lwp.seq (Lwp.regD hT hM ?_)
    simp only [L9r1, go_sem, eq_self, reduceIte, Nat.reduceAdd, Nat.reduceMul, Nat.reduceSub, Nat.reduceLT, Nat.reduceLeDiff, Nat.reduceEqDiff, Nat.reduceDiv, Nat.reduceMod, Nat.reducePow, Nat.reduceBEq, Nat.reduceBNe, Int.reduceLT, Int.reduceLE, Int.reduceGT, Int.reduceGE, Int.reduceBEq, Int.reduceBNe, Int.reduceToNat, Int.reduceAdd, Int.reduceSub, Int.reduceMul, Int.reduceEq, Int.reduceNeg, reduceCtorEq, decide_true, decide_false, Bool.false_eq_true, List.isEmpty_nil, ty3, ty4, ty22, ty23, ty24, ty37, ty38, eq24, f1, f2, f3, l3, l4]
    refine Lwp.seq (Lwp.regI hT ?_)
    simp only [L9r2, go_sem, eq_self, reduceIte, Nat.reduceAdd, Nat.reduceMul, Nat.reduceSub, Nat.reduceLT, Nat.reduceLeDiff, Nat.reduceEqDiff, Nat.reduceDiv, Nat.reduceMod, Nat.reducePow, Nat.reduceBEq, Nat.reduceBNe, Int.reduceLT, Int.reduceLE, Int.reduceGT, Int.reduceGE, Int.reduceBEq, Int.reduceBNe, Int.reduceToNat, Int.reduceAdd, Int.reduceSub, Int.reduceMul, Int.reduceEq, Int.reduceNeg, reduceCtorEq, decide_true, decide_false, Bool.false_eq_true, List.isEmpty_nil, ty3, ty4, ty22, ty23, ty24, ty37, ty38, eq24, S22_eq, f4, f5, f6, l3, l4]
    refine Lwp.ret (post_val (v := .bool true) ?_ ?_)
    · simp only [go_sem, eq_self, reduceIte, Nat.reduceAdd, Nat.reduceMul, Nat.reduceSub, Nat.reduceLT, Nat.reduceLeDiff, Nat.reduceEqDiff, Nat.reduceDiv, Nat.reduceMod, Nat.reducePow, Nat.reduceBEq, Nat.reduceBNe, Int.reduceLT, Int.reduceLE, Int.reduceGT, Int.reduceGE, Int.reduceBEq, Int.reduceBNe, Int.reduceToNat, Int.reduceAdd, Int.reduceSub, Int.reduceMul, Int.reduceEq, Int.reduceNeg, reduceCtorEq, decide_true, decide_false, Bool.false_eq_true]
    · simp only [go_sem, eq_self, reduceIte, Nat.reduceAdd, Nat.reduceMul, Nat.reduceSub, Nat.reduceLT, Nat.reduceLeDiff, Nat.reduceEqDiff, Nat.reduceDiv, Nat.reduceMod, Nat.reducePow, Nat.reduceBEq, Nat.reduceBNe, Int.reduceLT, Int.reduceLE, Int.reduceGT, Int.reduceGE, Int.reduceBEq, Int.reduceBNe, Int.reduceToNat, Int.reduceAdd, Int.reduceSub, Int.reduceMul, Int.reduceEq, Int.reduceNeg, reduceCtorEq, decide_true, decide_false, Bool.false_eq_true]
  · rw [if_neg h] at f3 f4
    by_cases h' : y < x
    · rw [if_pos h'] at f3
      refine Lwp.seq (Lwp.regD hT hM ?_)
      simp only [L9r1, go_sem, eq_self, reduceIte, Nat.reduceAdd, Nat.reduceMul, Nat.reduceSub, Nat.reduceLT, Nat.reduceLeDiff, Nat.reduceEqDiff, Nat.reduceDiv, Nat.reduceMod, Nat.reducePow, Nat.reduceBEq, Nat.reduceBNe, Int.reduceLT, Int.reduceLE, Int.reduceGT, Int.reduceGE, Int.reduceBEq, Int.reduceBNe, Int.reduceToNat, Int.reduceAdd, Int.reduceSub, Int.reduceMul, Int.reduceEq, Int.reduceNeg, reduceCtorEq, decide_true, decide_false, Bool.false_eq_true, List.isEmpty_nil, ty3, ty4, ty22, ty23, ty24, ty37, ty38, eq24, f1, f2, f3, l3, l4]
      refine Lwp.seq (Lwp.regI hT ?_)
      simp only [L9r2, go_sem, eq_self, reduceIte, Nat.reduceAdd, Nat.reduceMul, Nat.reduceSub, Nat.reduceLT, Nat.reduceLeDiff, Nat.reduceEqDiff, Nat.reduceDiv, Nat.reduceMod, Nat.reducePow, Nat.reduceBEq, Nat.reduceBNe, Int.reduceLT, Int.reduceLE, Int.reduceGT, Int.reduceGE, Int.reduceBEq, Int.reduceBNe, Int.reduceToNat, Int.reduceAdd, Int.reduceSub, Int.reduceMul, Int.reduceEq, Int.reduceNeg, reduceCtorEq, decide_true, decide_false, Bool.false_eq_true, List.isEmpty_nil, ty3, ty4, ty22, ty23, ty24, ty37, ty38, eq24, S22_eq, f4, f5, f7, l3, l4]
      refine Lwp.ret (post_val (v := .bool true) ?_ ?_)
      · simp only [go_sem, eq_self, reduceIte, Nat.reduceAdd, Nat.reduceMul, Nat.reduceSub, Nat.reduceLT, Nat.reduceLeDiff, Nat.reduceEqDiff, Nat.reduceDiv, Nat.reduceMod, Nat.reducePow, Nat.reduceBEq, Nat.reduceBNe, Int.reduceLT, Int.reduceLE, Int.reduceGT, Int.reduceGE, Int.reduceBEq, Int.reduceBNe, Int.reduceToNat, Int.reduceAdd, Int.reduceSub, Int.reduceMul, Int.reduceEq, Int.reduceNeg, reduceCtorEq, decide_true, decide_false, Bool.false_eq_true]
      · simp only [go_sem, eq_self, reduceIte, Nat.reduceAdd, Nat.reduceMul, Nat.reduceSub, Nat.reduceLT, Nat.reduceLeDiff, Nat.reduceEqDiff, Nat.reduceDiv, Nat.reduceMod, Nat.reducePow, Nat.reduceBEq, Nat.reduceBNe, Int.reduceLT, Int.reduceLE, Int.reduceGT, Int.reduceGE, Int.reduceBEq, Int.reduceBNe, Int.reduceToNat, Int.reduceAdd, Int.reduceSub, Int.reduceMul, Int.reduceEq, Int.reduceNeg, reduceCtorEq, decide_true, decide_false, Bool.false_eq_true]
    · rw [if_neg h'] at f3
      refine Lwp.seq (Lwp.regD hT hM ?_)
      simp only [L9r1, go_sem, eq_self, reduceIte, Nat.reduceAdd, Nat.reduceMul, Nat.reduceSub, Nat.reduceLT, Nat.reduceLeDiff, Nat.reduceEqDiff, Nat.reduceDiv, Nat.reduceMod, Nat.reducePow, Nat.reduceBEq, Nat.reduceBNe, Int.reduceLT, Int.reduceLE, Int.reduceGT, Int.reduceGE, Int.reduceBEq, Int.reduceBNe, Int.reduceToNat, Int.reduceAdd, Int.reduceSub, Int.reduceMul, Int.reduceEq, Int.reduceNeg, reduceCtorEq, decide_true, decide_false, Bool.false_eq_true, List.isEmpty_nil, ty3, ty4, ty22, ty23, ty24, ty37, ty38, eq24, f1, f2, f3, l3, l4]
      refine Lwp.seq (Lwp.regI hT ?_)
      simp only [L9r2, go_sem, eq_self, reduceIte, Nat.reduceAdd, Nat.reduceMul, Nat.reduceSub, Nat.reduceLT, Nat.reduceLeDiff, Nat.reduceEqDiff, Nat.reduceDiv, Nat.reduceMod, Nat.reducePow, Nat.reduceBEq, Nat.reduceBNe, Int.reduceLT, Int.reduceLE, Int.reduceGT, Int.reduceGE, Int.reduceBEq, Int.reduceBNe, Int.reduceToNat, Int.reduceAdd, Int.reduceSub, Int.reduceMul, Int.reduceEq, Int.reduceNeg, reduceCtorEq, decide_true, decide_false, Bool.false_eq_true, List.isEmpty_nil, ty3, ty4, ty22, ty23, ty24, ty37, ty38, eq24, S22_eq, f4, f5, f7, l3, l4]
      refine Lwp.ret (post_val (v := .bool true) ?_ ?_)
      · simp only [go_sem, eq_self, reduceIte, Nat.reduceAdd, Nat.reduceMul, Nat.reduceSub, Nat.reduceLT, Nat.reduceLeDiff, Nat.reduceEqDiff, Nat.reduceDiv, Nat.reduceMod, Nat.reducePow, Nat.reduceBEq, Nat.reduceBNe, Int.reduceLT, Int.reduceLE, Int.reduceGT, Int.reduceGE, Int.reduceBEq, Int.reduceBNe, Int.reduceToNat, Int.reduceAdd, Int.reduceSub, Int.reduceMul, Int.reduceEq, Int.reduceNeg, reduceCtorEq, decide_true, decide_false, Bool.false_eq_true]
      · simp only [go_sem, eq_self, reduceIte, Nat.reduceAdd, Nat.reduceMul, Nat.reduceSub, Nat.reduceLT, Nat.reduceLeDiff, Nat.reduceEqDiff, Nat.reduceDiv, Nat.reduceMod, Nat.reducePow, Nat.reduceBEq, Nat.reduceBNe, Int.reduceLT, Int.reduceLE, Int.reduceGT, Int.reduceGE, Int.reduceBEq, Int.reduceBNe, Int.reduceToNat, Int.reduceAdd, Int.reduceSub, Int.reduceMul, Int.reduceEq, Int.reduceNeg, reduceCtorEq, decide_true, decide_false, Bool.false_eq_true]

theorem top_pow : (top : Int) = 18446744073709551616 ^ 6 := by decide
theorem limZ_back {x y : Nat} (hy : y < 18446744073709551616 ^ 6) : limZ (((x + y : Nat) : Int) - y) = lim6 x := by
  rw [show ((x + y : Nat) : Int) - y = (x : Int) by omega, limZ_nat]

noncomputable def S11 : List AV → Option Ret := nz (sumOf (fun p : List Int × List Int => match p with | (a, b) => (U6 a) ∧ (U6 b)) (fun p : List Int × List Int => match p with | (a, b) => [.agg (ints .u64 a), .agg (ints .u64 b)]) (fun p : List Int × List Int => match p with | (a, b) => ⟨.bool true, none⟩))
theorem S11_eq (a : List Int) (b : List Int) (h0 : U6 a) (h1 : U6 b) : S11 [.agg (ints .u64 a), .agg (ints .u64 b)] = some ⟨.bool true, none⟩ :=
  sumOf_eq (dom := (fun p : List Int × List Int => match p with | (a, b) => (U6 a) ∧ (U6 b))) (enc := (fun p : List Int × List Int => match p with | (a, b) => [.agg (ints .u64 a), .agg (ints .u64 b)])) (out := (fun p : List Int × List Int => match p with | (a, b) => ⟨.bool true, none⟩)) (a, b) ⟨h0, h1⟩ (fun y _ e => by
    obtain ⟨y0, y1⟩ := y
    simp only [List.cons.injEq, AV.agg.injEq, AV.int.injEq, AV.slc.injEq, AV.iptr.injEq, AV.bool.injEq, AV.str.injEq, ints_injEq, dig_injEq,  Int.ofNat_inj, BitVec.toNat_inj, true_and, and_true] at e
    first | with_reducible rfl | simp only [e] | rfl)
theorem S11_inv {args : List AV} {r : Ret} (h : sumOf (fun p : List Int × List Int => match p with | (a, b) => (U6 a) ∧ (U6 b)) (fun p : List Int × List Int => match p with | (a, b) => [.agg (ints .u64 a), .agg (ints .u64 b)]) (fun p : List Int × List Int => match p with | (a, b) => ⟨.bool true, none⟩) args = some r) : ∃ (a : List Int) (b : List Int), ((U6 a) ∧ (U6 b)) ∧ args = [.agg (ints .u64 a), .agg (ints .u64 b)] ∧ r = ⟨.bool true, none⟩ := by
  obtain ⟨x, h1, h2, h3⟩ := sumOf_inv h
  obtain ⟨a, b⟩ := x
  exact ⟨a, b, h1, h2.symm, h3⟩


set_option maxRecDepth 100000 in
theorem snd11 : SndE Try.prog NoG 11 S11 := by
  refine snd_nz (snd_by [(22, S22), (27, S27), (35, S35)] [] Try.func11 (by kernel_rfl) lite11 nt11 rs11 ⟨snd22, snd27, snd35, trivial⟩ trivial (fun hT args r h => ?_))
  obtain ⟨a, b, ⟨hd0, hd1⟩, rfl, rfl⟩ := S11_inv h
  clear h
  have hM := hM0
  refine ⟨Nat.le_of_ble_eq_true rfl, fun F => ?_⟩
  unfold L11
  obtain ⟨x, hx, rfl⟩ := hd0.lim
  obtain ⟨y, hy, rfl⟩ := hd1.lim
  have f0 : S35 [.agg (ints .u64 one6), .agg (ints .u64 one6)] = some ⟨.tup [.agg (ints .u64 [2, 0, 0, 0, 0, 0]), .int .u64 0], none⟩ := by rw [S35_eq _ _ U6_one U6_one]; rfl
  have f1 := S35_lim hx hy
  have f2 := S27_lim (x + y) y
  rw [limZ_back hy] at f2
  have hc : ((borrow 18446744073709551616 (x + y) y 6 : Nat) : Int) = if x + y < 18446744073709551616 ^ 6 then 0 else 1 := by
    unfold borrow
    rw [Nat.mod_eq_of_lt hy]
    by_cases h : x + y < 18446744073709551616 ^ 6
    · rw [Nat.mod_eq_of_lt h, if_neg (by omega), if_pos h]; rfl
    · have e : (x + y) % 18446744073709551616 ^ 6 = x + y - 18446744073709551616 ^ 6 := by
        rw [Nat.mod_eq_sub_mod (by omega), Nat.mod_eq_of_lt (by omega)]
      rw [e, if_pos (by omega), if_neg h]; rfl
  rw [hc] at f2
  clear hc
  have l3 := lim6_len x
  have l4 := lim6_len y
  have l5 := lim6_len (x + y)
  clear hd0 hd1
  generalize (if x + y < 18446744073709551616 ^ 6 then (0 : Int) else 1) = c at *
  generalize lim6 (x + y) = s at *
  generalize lim6 x = a at *
  generalize lim6 y = b at *
  refine Lwp.seq (Lwp.regI hT ?_)
  simp only [L11r0, go_sem, eq_self, reduceIte, Nat.reduceAdd, Nat.reduceMul, Nat.reduceSub, Nat.reduceLT, Nat.reduceLeDiff, Nat.reduceEqDiff, Nat.reduceDiv, Nat.reduceMod, Nat.reducePow, Nat.reduceBEq, Nat.reduceBNe, Int.reduceLT, Int.reduceLE, Int.reduceGT, Int.reduceGE, Int.reduceBEq, Int.reduceBNe, Int.reduceToNat, Int.reduceAdd, Int.reduceSub, Int.reduceMul, Int.reduceEq, Int.reduceNeg, reduceCtorEq, decide_true, decide_false, Bool.false_eq_true, List.isEmpty_nil, ty3, ty4, ty22, ty23, ty24, ty37, ty38, eq24]
  refine Lwp.seq (Lwp.regI hT ?_)
  simp only [L11r1, go_sem, eq_self, reduceIte, Nat.reduceAdd, Nat.reduceMul, Nat.reduceSub, Nat.reduceLT, Nat.reduceLeDiff, Nat.reduceEqDiff, Nat.reduceDiv, Nat.reduceMod, Nat.reducePow, Nat.reduceBEq, Nat.reduceBNe, Int.reduceLT, Int.reduceLE, Int.reduceGT, Int.reduceGE, Int.reduceBEq, Int.reduceBNe, Int.reduceToNat, Int.reduceAdd, Int.reduceSub, Int.reduceMul, Int.reduceEq, Int.reduceNeg, reduceCtorEq, decide_true, decide_false, Bool.false_eq_true, List.isEmpty_nil, ty3, ty4, ty22, ty23, ty24, ty37, ty38, eq24, S22_eq, f0]
  refine Lwp.seq (Lwp.regI hT ?_)
  simp only [L11r2, go_sem, eq_self, reduceIte, Nat.reduceAdd, Nat.reduceMul, Nat.reduceSub, Nat.reduceLT, Nat.reduceLeDiff, Nat.reduceEqDiff, Nat.reduceDiv, Nat.reduceMod, Nat.reducePow, Nat.reduceBEq, Nat.reduceBNe, Int.reduceLT, Int.reduceLE, Int.reduceGT, Int.reduceGE, Int.reduceBEq, Int.reduceBNe, Int.reduceToNat, Int.reduceAdd, Int.reduceSub, Int.reduceMul, Int.reduceEq, Int.reduceNeg, reduceCtorEq, decide_true, decide_false, Bool.false_eq_true, List.isEmpty_nil, ty3, ty4, ty22, ty23, ty24, ty37, ty38, eq24, f1, l3, l4, l5]
  refine Lwp.seq (Lwp.regI hT ?_)
  simp only [L11r3, go_sem, eq_self, reduceIte, Nat.reduceAdd, Nat.reduceMul, Nat.reduceSub, Nat.reduceLT, Nat.reduceLeDiff, Nat.reduceEqDiff, Nat.reduceDiv, Nat.reduceMod, Nat.reducePow, Nat.reduceBEq, Nat.reduceBNe, Int.reduceLT, Int.reduceLE, Int.reduceGT, Int.reduceGE, Int.reduceBEq, Int.reduceBNe, Int.reduceToNat, Int.reduceAdd, Int.reduceSub, Int.reduceMul, Int.reduceEq, Int.reduceNeg, reduceCtorEq, decide_true, decide_false, Bool.false_eq_true, List.isEmpty_nil, ty3, ty4, ty22, ty23, ty24, ty37, ty38, eq24, f2, l3, l4, l5]
  refine Lwp.seq (Lwp.regI hT ?_)
  simp only [L11r4, go_sem, eq_self, reduceIte, Nat.reduceAdd, Nat.reduceMul, Nat.reduceSub, Nat.reduceLT, Nat.reduceLeDiff, Nat.reduceEqDiff, Nat.reduceDiv, Nat.reduceMod, Nat.reducePow, Nat.reduceBEq, Nat.reduceBNe, Int.reduceLT, Int.reduceLE, Int.reduceGT, Int.reduceGE, Int.reduceBEq, Int.reduceBNe, Int.reduceToNat, Int.reduceAdd, Int.reduceSub, Int.reduceMul, Int.reduceEq, Int.reduceNeg, reduceCtorEq, decide_true, decide_false, Bool.false_eq_true, List.isEmpty_nil, ty3, ty4, ty22, ty23, ty24, ty37, ty38, eq24, l3, l4, l5, List.getD_cons_zero]
  refine Lwp.ret (post_val (v := .bool true) ?_ ?_)
  · simp only [go_sem, eq_self, reduceIte, Nat.reduceAdd, Nat.reduceMul, Nat.reduceSub, Nat.reduceLT, Nat.reduceLeDiff, Nat.reduceEqDiff, Nat.reduceDiv, Nat.reduceMod, Nat.reducePow, Nat.reduceBEq, Nat.reduceBNe, Int.reduceLT, Int.reduceLE, Int.reduceGT, Int.reduceGE, Int.reduceBEq, Int.reduceBNe, Int.reduceToNat, Int.reduceAdd, Int.reduceSub, Int.reduceMul, Int.reduceEq, Int.reduceNeg, reduceCtorEq, decide_true, decide_false, Bool.false_eq_true]
  · simp only [go_sem, eq_self, reduceIte, Nat.reduceAdd, Nat.reduceMul, Nat.reduceSub, Nat.reduceLT, Nat.reduceLeDiff, Nat.reduceEqDiff, Nat.reduceDiv, Nat.reduceMod, Nat.reducePow, Nat.reduceBEq, Nat.reduceBNe, Int.reduceLT, Int.reduceLE, Int.reduceGT, Int.reduceGE, Int.reduceBEq, Int.reduceBNe, Int.reduceToNat, Int.reduceAdd, Int.reduceSub, Int.reduceMul, Int.reduceEq, Int.reduceNeg, reduceCtorEq, decide_true, decide_false, Bool.false_eq_true]

noncomputable def S8 : List AV → Option Ret := nz (sumOf (fun p : List Int × List Int => match p with | (a, b) => (U6 a) ∧ (U6 b)) (fun p : List Int × List Int => match p with | (a, b) => [.agg (ints .u64 a), .agg (ints .u64 b)]) (fun p : List Int × List Int => match p with | (a, b) => ⟨.bool true, none⟩))
theorem S8_eq (a : List Int) (b : List Int) (h0 : U6 a) (h1 : U6 b) : S8 [.agg (ints .u64 a), .agg (ints .u64 b)] = some ⟨.bool true, none⟩ :=
  sumOf_eq (dom := (fun p : List Int × List Int => match p with | (a, b) => (U6 a) ∧ (U6 b))) (enc := (fun p : List Int × List Int => match p with | (a, b) => [.agg (ints .u64 a), .agg (ints .u64 b)])) (out := (fun p : List Int × List Int => match p with | (a, b) => ⟨.bool true, none⟩)) (a, b) ⟨h0, h1⟩ (fun y _ e => by
    obtain ⟨y0, y1⟩ := y
    simp only [List.cons.injEq, AV.agg.injEq, AV.int.injEq, AV.slc.injEq, AV.iptr.injEq, AV.bool.injEq, AV.str.injEq, ints_injEq, dig_injEq,  Int.ofNat_inj, BitVec.toNat_inj, true_and, and_true] at e
    first | with_reducible rfl | simp only [e] | rfl)
theorem S8_inv {args : List AV} {r : Ret} (h : sumOf (fun p : List Int × List Int => match p with | (a, b) => (U6 a) ∧ (U6 b)) (fun p : List Int × List Int => match p with | (a, b) => [.agg (ints .u64 a), .agg (ints .u64 b)]) (fun p : List Int × List Int => match p with | (a, b) => ⟨.bool true, none⟩) args = some r) : ∃ (a : List Int) (b : List Int), ((U6 a) ∧ (U6 b)) ∧ args = [.agg (ints .u64 a), .agg (ints .u64 b)] ∧ r = ⟨.bool true, none⟩ := by
  obtain ⟨x, h1, h2, h3⟩ := sumOf_inv h
  obtain ⟨a, b⟩ := x
  exact ⟨a, b, h1, h2.symm, h3⟩


set_option maxRecDepth 100000 in
theorem snd8 : SndE Try.prog NoG 8 S8 := by
  refine snd_nz (snd_by [(22, S22), (25, S25), (28, S28), (30, S30), (33, S33), (35, S35), (36, S36)] [] Try.func8 (by kernel_rfl) lite8 nt8 rs8 ⟨snd22, snd25, snd28, snd30, snd33, snd35, snd36, trivial⟩ trivial (fun hT args r h => ?_))
  obtain ⟨a, b, ⟨hd0, hd1⟩, rfl, rfl⟩ := S8_inv h
  clear h
  have hM := hM0
  refine ⟨Nat.le_of_ble_eq_true rfl, fun F => ?_⟩
  unfold L8
  obtain ⟨x, hx, rfl⟩ := hd0.lim
  obtain ⟨y, hy, rfl⟩ := hd1.lim
  have l1 := dig12 hx
  have l2 := dig12 hy
  have f0 : S35 [.agg (ints .u64 (List.replicate 6 0)), .agg (ints .u64 one6)] = some ⟨.tup [.agg (ints .u64 one6), .int .u64 0], none⟩ := by rw [S35_eq _ _ U6_zero U6_one]; rfl
  have f1 := S35_lim hx hy
  have f2 := S28_lim hx
  have f3 := S28_lim hy
  have f4 := S30_eq x y (by omega) (by omega)
  have l6 : (dig (x + y)).length ≤ 13 := by
    rw [dig_len_le]
    have e : (4294967296 : Nat) ^ 13 = 18446744073709551616 ^ 6 * 4294967296 := rfl
    omega
  have f5 := S25_eq (x + y) (by omega)
  have f6 := S36_eq (x + y) (by omega)
  have hn := nb_le (x + y) 384
  have e6 : (2 : Nat) ^ 384 = 18446744073709551616 ^ 6 := rfl
  rw [e6] at hn
  have g1 : S33 [.bool true] = some ⟨.int .u64 1, none⟩ := S33_eq true
  have g0 : S33 [.bool false] = some ⟨.int .u64 0, none⟩ := S33_eq false
  have l3 := lim6_len x
  have l4 := lim6_len y
  have l5 := lim6_len (x + y)
  clear hd0 hd1
  generalize lim6 (x + y) = s at *
  generalize lim6 x = a at *
  generalize lim6 y = b at *
  by_cases h : x + y < 18446744073709551616 ^ 6
  · rw [if_pos h] at f1
    have h1 : ¬ ((nb (x + y) : Nat) : Int) > 384 := by have := hn.2 h; omega
    clear hn h e6 hx hy l6
    generalize x + y = z at *
    refine Lwp.seq (Lwp.regI hT ?_)
    simp only [L8r0, go_sem, eq_self, reduceIte, Nat.reduceAdd, Nat.reduceMul, Nat.reduceSub, Nat.reduceLT, Nat.reduceLeDiff, Nat.reduceEqDiff, Nat.reduceDiv, Nat.reduceMod, Nat.reducePow, Nat.reduceBEq, Nat.reduceBNe, Int.reduceLT, Int.reduceLE, Int.reduceGT, Int.reduceGE, Int.reduceBEq, Int.reduceBNe, Int.reduceToNat, Int.reduceAdd, Int.reduceSub, Int.reduceMul, Int.reduceEq, Int.reduceNeg, reduceCtorEq, decide_true, decide_false, Bool.false_eq_true, List.isEmpty_nil, ty3, ty4, ty22, ty23, ty24, ty37, ty38, eq24]
    refine Lwp.seq (Lwp.regI hT ?_)
    simp only [L8r1, go_sem, eq_self, reduceIte, Nat.reduceAdd, Nat.reduceMul, Nat.reduceSub, Nat.reduceLT, Nat.reduceLeDiff, Nat.reduceEqDiff, Nat.reduceDiv, Nat.reduceMod, Nat.reducePow, Nat.reduceBEq, Nat.reduceBNe, Int.reduceLT, Int.reduceLE, Int.reduceGT, Int.reduceGE, Int.reduceBEq, Int.reduceBNe, Int.reduceToNat, Int.reduceAdd, Int.reduceSub, Int.reduceMul, Int.reduceEq, Int.reduceNeg, reduceCtorEq, decide_true, decide_false, Bool.false_eq_true, List.isEmpty_nil, ty3, ty4, ty22, ty23, ty24, ty37, ty38, eq24, S22_eq, f0]
    refine Lwp.seq (Lwp.regI hT ?_)
    simp only [L8r2, go_sem, eq_self, reduceIte, Nat.reduceAdd, Nat.reduceMul, Nat.reduceSub, Nat.reduceLT, Nat.reduceLeDiff, Nat.reduceEqDiff, Nat.reduceDiv, Nat.reduceMod, Nat.reducePow, Nat.reduceBEq, Nat.reduceBNe, Int.reduceLT, Int.reduceLE, Int.reduceGT, Int.reduceGE, Int.reduceBEq, Int.reduceBNe, Int.reduceToNat, Int.reduceAdd, Int.reduceSub, Int.reduceMul, Int.reduceEq, Int.reduceNeg, reduceCtorEq, decide_true, decide_false, Bool.false_eq_true, List.isEmpty_nil, ty3, ty4, ty22, ty23, ty24, ty37, ty38, eq24, f1, l3, l4, l5]
    refine Lwp.seq (Lwp.regD hT hM ?_)
    simp only [L8r3, go_sem, eq_self, reduceIte, Nat.reduceAdd, Nat.reduceMul, Nat.reduceSub, Nat.reduceLT, Nat.reduceLeDiff, Nat.reduceEqDiff, Nat.reduceDiv, Nat.reduceMod, Nat.reducePow, Nat.reduceBEq, Nat.reduceBNe, Int.reduceLT, Int.reduceLE, Int.reduceGT, Int.reduceGE, Int.reduceBEq, Int.reduceBNe, Int.reduceToNat, Int.reduceAdd, Int.reduceSub, Int.reduceMul, Int.reduceEq, Int.reduceNeg, reduceCtorEq, decide_true, decide_false, Bool.false_eq_true, List.isEmpty_nil, ty3, ty4, ty22, ty23, ty24, ty37, ty38, eq24, f2, f3, f4, l3, l4]
    refine Lwp.seq (Lwp.regD hT hM ?_)
    simp only [L8r4, go_sem, eq_self, reduceIte, Nat.reduceAdd, Nat.reduceMul, Nat.reduceSub, Nat.reduceLT, Nat.reduceLeDiff, Nat.reduceEqDiff, Nat.reduceDiv, Nat.reduceMod, Nat.reducePow, Nat.reduceBEq, Nat.reduceBNe, Int.reduceLT, Int.reduceLE, Int.reduceGT, Int.reduceGE, Int.reduceBEq, Int.reduceBNe, Int.reduceToNat, Int.reduceAdd, Int.reduceSub, Int.reduceMul, Int.reduceEq, Int.reduceNeg, reduceCtorEq, decide_true, decide_false, Bool.false_eq_true, List.isEmpty_nil, ty3, ty4, ty22, ty23, ty24, ty37, ty38, eq24, S22_eq, f5, f6, g0, l5, h1]
    refine Lwp.ret (post_val (v := .bool true) ?_ ?_)
    · simp only [go_sem, eq_self, reduceIte, Nat.reduceAdd, Nat.reduceMul, Nat.reduceSub, Nat.reduceLT, Nat.reduceLeDiff, Nat.reduceEqDiff, Nat.reduceDiv, Nat.reduceMod, Nat.reducePow, Nat.reduceBEq, Nat.reduceBNe, Int.reduceLT, Int.reduceLE, Int.reduceGT, Int.reduceGE, Int.reduceBEq, Int.reduceBNe, Int.reduceToNat, Int.reduceAdd, Int.reduceSub, Int.reduceMul, Int.reduceEq, Int.reduceNeg, reduceCtorEq, decide_true, decide_false, Bool.false_eq_true]
    · simp only [go_sem, eq_self, reduceIte, Nat.reduceAdd, Nat.reduceMul, Nat.reduceSub, Nat.reduceLT, Nat.reduceLeDiff, Nat.reduceEqDiff, Nat.reduceDiv, Nat.reduceMod, Nat.reducePow, Nat.reduceBEq, Nat.reduceBNe, Int.reduceLT, Int.reduceLE, Int.reduceGT, Int.reduceGE, Int.reduceBEq, Int.reduceBNe, Int.reduceToNat, Int.reduceAdd, Int.reduceSub, Int.reduceMul, Int.reduceEq, Int.reduceNeg, reduceCtorEq, decide_true, decide_false, Bool.false_eq_true]
  · rw [if_neg h] at f1
    have h1 : ((nb (x + y) : Nat) : Int) > 384 := by
      have : ¬ nb (x + y) ≤ 384 := fun h' => h (hn.1 h')
      omega
    clear hn h e6 hx hy l6
    generalize x + y = z at *
    refine Lwp.seq (Lwp.regI hT ?_)
    simp only [L8r0, go_sem, eq_self, reduceIte, Nat.reduceAdd, Nat.reduceMul, Nat.reduceSub, Nat.reduceLT, Nat.reduceLeDiff, Nat.reduceEqDiff, Nat.reduceDiv, Nat.reduceMod, Nat.reducePow, Nat.reduceBEq, Nat.reduceBNe, Int.reduceLT, Int.reduceLE, Int.reduceGT, Int.reduceGE, Int.reduceBEq, Int.reduceBNe, Int.reduceToNat, Int.reduceAdd, Int.reduceSub, Int.reduceMul, Int.reduceEq, Int.reduceNeg, reduceCtorEq, decide_true, decide_false, Bool.false_eq_true, List.isEmpty_nil, ty3, ty4, ty22, ty23, ty24, ty37, ty38, eq24]
    refine Lwp.seq (Lwp.regI hT ?_)
    simp only [L8r1, go_sem, eq_self, reduceIte, Nat.reduceAdd, Nat.reduceMul, Nat.reduceSub, Nat.reduceLT, Nat.reduceLeDiff, Nat.reduceEqDiff, Nat.reduceDiv, Nat.reduceMod, Nat.reducePow, Nat.reduceBEq, Nat.reduceBNe, Int.reduceLT, Int.reduceLE, Int.reduceGT, Int.reduceGE, Int.reduceBEq, Int.reduceBNe, Int.reduceToNat, Int.reduceAdd, Int.reduceSub, Int.reduceMul, Int.reduceEq, Int.reduceNeg, reduceCtorEq, decide_true, decide_false, Bool.false_eq_true, List.isEmpty_nil, ty3, ty4, ty22, ty23, ty24, ty37, ty38, eq24, S22_eq, f0]
    refine Lwp.seq (Lwp.regI hT ?_)
    simp only [L8r2, go_sem, eq_self, reduceIte, Nat.reduceAdd, Nat.reduceMul, Nat.reduceSub, Nat.reduceLT, Nat.reduceLeDiff, Nat.reduceEqDiff, Nat.reduceDiv, Nat.reduceMod, Nat.reducePow, Nat.reduceBEq, Nat.reduceBNe, Int.reduceLT, Int.reduceLE, Int.reduceGT, Int.reduceGE, Int.reduceBEq, Int.reduceBNe, Int.reduceToNat, Int.reduceAdd, Int.reduceSub, Int.reduceMul, Int.reduceEq, Int.reduceNeg, reduceCtorEq, decide_true, decide_false, Bool.false_eq_true, List.isEmpty_nil, ty3, ty4, ty22, ty23, ty24, ty37, ty38, eq24, f1, l3, l4, l5]
    refine Lwp.seq (Lwp.regD hT hM ?_)
    simp only [L8r3, go_sem, eq_self, reduceIte, Nat.reduceAdd, Nat.reduceMul, Nat.reduceSub, Nat.reduceLT, Nat.reduceLeDiff, Nat.reduceEqDiff, Nat.reduceDiv, Nat.reduceMod, Nat.reducePow, Nat.reduceBEq, Nat.reduceBNe, Int.reduceLT, Int.reduceLE, Int.reduceGT, Int.reduceGE, Int.reduceBEq, Int.reduceBNe, Int.reduceToNat, Int.reduceAdd, Int.reduceSub, Int.reduceMul, Int.reduceEq, Int.reduceNeg, reduceCtorEq, decide_true, decide_false, Bool.false_eq_true, List.isEmpty_nil, ty3, ty4, ty22, ty23, ty24, ty37, ty38, eq24, f2, f3, f4, l3, l4]
    refine Lwp.seq (Lwp.regD hT hM ?_)
    simp only [L8r4, go_sem, eq_self, reduceIte, Nat.reduceAdd, Nat.reduceMul, Nat.reduceSub, Nat.reduceLT, Nat.reduceLeDiff, Nat.reduceEqDiff, Nat.reduceDiv, Nat.reduceMod, Nat.reducePow, Nat.reduceBEq, Nat.reduceBNe, Int.reduceLT, Int.reduceLE, Int.reduceGT, Int.reduceGE, Int.reduceBEq, Int.reduceBNe, Int.reduceToNat, Int.reduceAdd, Int.reduceSub, Int.reduceMul, Int.reduceEq, Int.reduceNeg, reduceCtorEq, decide_true, decide_false, Bool.false_eq_true, List.isEmpty_nil, ty3, ty4, ty22, ty23, ty24, ty37, ty38, eq24, S22_eq, f5, f6, g1, l5, h1]
    refine Lwp.ret (post_val (v := .bool true) ?_ ?_)
    · simp only [go_sem, eq_self, reduceIte, Nat.reduceAdd, Nat.reduceMul, Nat.reduceSub, Nat.reduceLT, Nat.reduceLeDiff, Nat.reduceEqDiff, Nat.reduceDiv, Nat.reduceMod, Nat.reducePow, Nat.reduceBEq, Nat.reduceBNe, Int.reduceLT, Int.reduceLE, Int.reduceGT, Int.reduceGE, Int.reduceBEq, Int.reduceBNe, Int.reduceToNat, Int.reduceAdd, Int.reduceSub, Int.reduceMul, Int.reduceEq, Int.reduceNeg, reduceCtorEq, decide_true, decide_false, Bool.false_eq_true]
    · simp only [go_sem, eq_self, reduceIte, Nat.reduceAdd, Nat.reduceMul, Nat.reduceSub, Nat.reduceLT, Nat.reduceLeDiff, Nat.reduceEqDiff, Nat.reduceDiv, Nat.reduceMod, Nat.reducePow, Nat.reduceBEq, Nat.reduceBNe, Int.reduceLT, Int.reduceLE, Int.reduceGT, Int.reduceGE, Int.reduceBEq, Int.reduceBNe, Int.reduceToNat, Int.reduceAdd, Int.reduceSub, Int.reduceMul, Int.reduceEq, Int.reduceNeg, reduceCtorEq, decide_true, decide_false, Bool.false_eq_true]

noncomputable def S6 : List AV → Option Ret := nz (sumOf (fun p : List Int × List Int => match p with | (a, b) => (U6 a) ∧ (U6 b)) (fun p : List Int × List Int => match p with | (a, b) => [.agg (ints .u64 a), .agg (ints .u64 b)]) (fun p : List Int × List Int => match p with | (a, b) => ⟨.bool true, none⟩))
theorem S6_eq (a : List Int) (b : List Int) (h0 : U6 a) (h1 : U6 b) : S6 [.agg (ints .u64 a), .agg (ints .u64 b)] = some ⟨.bool true, none⟩ :=
  sumOf_eq (dom := (fun p : List Int × List Int => match p with | (a, b) => (U6 a) ∧ (U6 b))) (enc := (fun p : List Int × List Int => match p with | (a, b) => [.agg (ints .u64 a), .agg (ints .u64 b)])) (out := (fun p : List Int × List Int => match p with | (a, b) => ⟨.bool true, none⟩)) (a, b) ⟨h0, h1⟩ (fun y _ e => by
    obtain ⟨y0, y1⟩ := y
    simp only [List.cons.injEq, AV.agg.injEq, AV.int.injEq, AV.slc.injEq, AV.iptr.injEq, AV.bool.injEq, AV.str.injEq, ints_injEq, dig_injEq,  Int.ofNat_inj, BitVec.toNat_inj, true_and, and_true] at e
    first | with_reducible rfl | simp only [e] | rfl)
theorem S6_inv {args : List AV} {r : Ret} (h : sumOf (fun p : List Int × List Int => match p with | (a, b) => (U6 a) ∧ (U6 b)) (fun p : List Int × List Int => match p with | (a, b) => [.agg (ints .u64 a), .agg (ints .u64 b)]) (fun p : List Int × List Int => match p with | (a, b) => ⟨.bool true, none⟩) args = some r) : ∃ (a : List Int) (b : List Int), ((U6 a) ∧ (U6 b)) ∧ args = [.agg (ints .u64 a), .agg (ints .u64 b)] ∧ r = ⟨.bool true, none⟩ := by
  obtain ⟨x, h1, h2, h3⟩ := sumOf_inv h
  obtain ⟨a, b⟩ := x
  exact ⟨a, b, h1, h2.symm, h3⟩


set_option maxRecDepth 100000 in
theorem snd6 : SndE Try.prog NoG 6 S6 := by
  refine snd_nz (snd_by [(22, S22), (25, S25), (27, S27), (28, S28), (29, S29), (30, S30), (31, S31), (32, S32), (33, S33)] [] Try.func6 (by kernel_rfl) lite6 nt6 rs6 ⟨snd22, snd25, snd27, snd28, snd29, snd30, snd31, snd32, snd33, trivial⟩ trivial (fun hT args r h => ?_))
  obtain ⟨a, b, ⟨hd0, hd1⟩, rfl, rfl⟩ := S6_inv h
  clear h
  have hM := hM0
  refine ⟨Nat.le_of_ble_eq_true rfl, fun F => ?_⟩
  unfold L6
  obtain ⟨x, hx, rfl⟩ := hd0.lim
  obtain ⟨y, hy, rfl⟩ := hd1.lim
  have l1 := dig12 hx
  have l2 := dig12 hy
  have f0 : S27 [.agg (ints .u64 one6), .agg (ints .u64 (List.replicate 6 0))] = some ⟨.tup [.agg (ints .u64 one6), .int .u64 0], none⟩ := by rw [S27_eq _ _ U6_one U6_zero]; rfl
  have f1 := S27_lim x y
  have hb : ((borrow 18446744073709551616 x y 6 : Nat) : Int) = if x < y then 1 else 0 := by
    rw [borrow, Nat.mod_eq_of_lt hx, Nat.mod_eq_of_lt hy]; split <;> rfl
  rw [hb] at f1
  clear hb
  have f2 := S28_lim hx
  have f3 := S28_lim hy
  have f4 := S29_eq x y (by omega) (by omega)
  have g1 : S33 [.bool true] = some ⟨.int .u64 1, none⟩ := S33_eq true
  have g0 : S33 [.bool false] = some ⟨.int .u64 0, none⟩ := S33_eq false
  have l3 := lim6_len x
  have l4 := lim6_len y
  have l5 : (limZ ((x : Int) - y)).length = 6 := tab_len _ _
  have t13 := top_len
  have ht : (top : Nat) = 18446744073709551616 ^ 6 := by decide
  by_cases h : x < y
  · rw [if_pos h] at f1 f4
    have f5 : S30 [.slc (dig (x)).length (ints .u64 (dig (x))), .slc 13 (ints .u64 (dig top))] = some ⟨.slc (dig (x + top)).length (ints .u64 (dig (x + top))), none⟩ := by
      have := S30_eq x top (by omega) (by omega); rw [t13] at this; exact this
    have l6 : (dig (x + top)).length ≤ 13 := by
      rw [dig_len_le]
      have e : (4294967296 : Nat) ^ 13 = 18446744073709551616 ^ 6 * 4294967296 := rfl
      omega
    have f6 := S32_eq (x + top) y (by omega) (by omega) (by omega)
    have f7 := S25_eq (x + top - y) (by
      have : (dig (x + top - y)).length ≤ 13 := by
        rw [dig_len_le] at l6 ⊢; omega
      omega)
    have f8 : lim6 (x + top - y) = limZ ((x : Int) - y) := by
      rw [← limZ_nat, ← limZ_add ((x : Int) - y)]
      congr 1
      have := top_pow
      omega
    rw [f8] at f7
    clear hd0 hd1 ht h hx hy f8 l6
    generalize limZ ((x : Int) - y) = s at *
    generalize lim6 x = a at *
    generalize lim6 y = b at *
    refine Lwp.seq (Lwp.regI hT ?_)
    simp only [L6r0, go_sem, eq_self, reduceIte, Nat.reduceAdd, Nat.reduceMul, Nat.reduceSub, Nat.reduceLT, Nat.reduceLeDiff, Nat.reduceEqDiff, Nat.reduceDiv, Nat.reduceMod, Nat.reducePow, Nat.reduceBEq, Nat.reduceBNe, Int.reduceLT, Int.reduceLE, Int.reduceGT, Int.reduceGE, Int.reduceBEq, Int.reduceBNe, Int.reduceToNat, Int.reduceAdd, Int.reduceSub, Int.reduceMul, Int.reduceEq, Int.reduceNeg, reduceCtorEq, decide_true, decide_false, Bool.false_eq_true, List.isEmpty_nil, ty3, ty4, ty22, ty23, ty24, ty37, ty38, eq24]
    refine Lwp.seq (Lwp.regI hT ?_)
    simp only [L6r1, go_sem, eq_self, reduceIte, Nat.reduceAdd, Nat.reduceMul, Nat.reduceSub, Nat.reduceLT, Nat.reduceLeDiff, Nat.reduceEqDiff, Nat.reduceDiv, Nat.reduceMod, Nat.reducePow, Nat.reduceBEq, Nat.reduceBNe, Int.reduceLT, Int.reduceLE, Int.reduceGT, Int.reduceGE, Int.reduceBEq, Int.reduceBNe, Int.reduceToNat, Int.reduceAdd, Int.reduceSub, Int.reduceMul, Int.reduceEq, Int.reduceNeg, reduceCtorEq, decide_true, decide_false, Bool.false_eq_true, List.isEmpty_nil, ty3, ty4, ty22, ty23, ty24, ty37, ty38, eq24, S22_eq, f0]
    refine Lwp.seq (Lwp.regI hT ?_)
    simp only [L6r2, go_sem, eq_self, reduceIte, Nat.reduceAdd, Nat.reduceMul, Nat.reduceSub, Nat.reduceLT, Nat.reduceLeDiff, Nat.reduceEqDiff, Nat.reduceDiv, Nat.reduceMod, Nat.reducePow, Nat.reduceBEq, Nat.reduceBNe, Int.reduceLT, Int.reduceLE, Int.reduceGT, Int.reduceGE, Int.reduceBEq, Int.reduceBNe, Int.reduceToNat, Int.reduceAdd, Int.reduceSub, Int.reduceMul, Int.reduceEq, Int.reduceNeg, reduceCtorEq, decide_true, decide_false, Bool.false_eq_true, List.isEmpty_nil, ty3, ty4, ty22, ty23, ty24, ty37, ty38, eq24, f1, l3, l4, l5]
    refine Lwp.seq (Lwp.regI hT ?_)
    simp only [L6r3, go_sem, eq_self, reduceIte, Nat.reduceAdd, Nat.reduceMul, Nat.reduceSub, Nat.reduceLT, Nat.reduceLeDiff, Nat.reduceEqDiff, Nat.reduceDiv, Nat.reduceMod, Nat.reducePow, Nat.reduceBEq, Nat.reduceBNe, Int.reduceLT, Int.reduceLE, Int.reduceGT, Int.reduceGE, Int.reduceBEq, Int.reduceBNe, Int.reduceToNat, Int.reduceAdd, Int.reduceSub, Int.reduceMul, Int.reduceEq, Int.reduceNeg, reduceCtorEq, decide_true, decide_false, Bool.false_eq_true, List.isEmpty_nil, ty3, ty4, ty22, ty23, ty24, ty37, ty38, eq24, f2, l3]
    refine Lwp.seq (Lwp.regI hT ?_)
    simp only [L6r4, go_sem, eq_self, reduceIte, Nat.reduceAdd, Nat.reduceMul, Nat.reduceSub, Nat.reduceLT, Nat.reduceLeDiff, Nat.reduceEqDiff, Nat.reduceDiv, Nat.reduceMod, Nat.reducePow, Nat.reduceBEq, Nat.reduceBNe, Int.reduceLT, Int.reduceLE, Int.reduceGT, Int.reduceGE, Int.reduceBEq, Int.reduceBNe, Int.reduceToNat, Int.reduceAdd, Int.reduceSub, Int.reduceMul, Int.reduceEq, Int.reduceNeg, reduceCtorEq, decide_true, decide_false, Bool.false_eq_true, List.isEmpty_nil, ty3, ty4, ty22, ty23, ty24, ty37, ty38, eq24, f3, l4]
    refine Lwp.seq (Lwp.regI hT ?_)
    simp only [L6r5, go_sem, eq_self, reduceIte, Nat.reduceAdd, Nat.reduceMul, Nat.reduceSub, Nat.reduceLT, Nat.reduceLeDiff, Nat.reduceEqDiff, Nat.reduceDiv, Nat.reduceMod, Nat.reducePow, Nat.reduceBEq, Nat.reduceBNe, Int.reduceLT, Int.reduceLE, Int.reduceGT, Int.reduceGE, Int.reduceBEq, Int.reduceBNe, Int.reduceToNat, Int.reduceAdd, Int.reduceSub, Int.reduceMul, Int.reduceEq, Int.reduceNeg, reduceCtorEq, decide_true, decide_false, Bool.false_eq_true, List.isEmpty_nil, ty3, ty4, ty22, ty23, ty24, ty37, ty38, eq24, f4]
    refine Lwp.seq (Lwp.seq (Lwp.region hT ?_))
    simp only [L6r6, go_sem, eq_self, reduceIte, Nat.reduceAdd, Nat.reduceMul, Nat.reduceSub, Nat.reduceLT, Nat.reduceLeDiff, Nat.reduceEqDiff, Nat.reduceDiv, Nat.reduceMod, Nat.reducePow, Nat.reduceBEq, Nat.reduceBNe, Int.reduceLT, Int.reduceLE, Int.reduceGT, Int.reduceGE, Int.reduceBEq, Int.reduceBNe, Int.reduceToNat, Int.reduceAdd, Int.reduceSub, Int.reduceMul, Int.reduceEq, Int.reduceNeg, reduceCtorEq, decide_true, decide_false, Bool.false_eq_true]
    refine Lwp.cond rfl (fun _ => ?_) (fun h => by cases h)
    refine Lwp.regI hT ?_
    simp only [L6r7, go_sem, eq_self, reduceIte, Nat.reduceAdd, Nat.reduceMul, Nat.reduceSub, Nat.reduceLT, Nat.reduceLeDiff, Nat.reduceEqDiff, Nat.reduceDiv, Nat.reduceMod, Nat.reducePow, Nat.reduceBEq, Nat.reduceBNe, Int.reduceLT, Int.reduceLE, Int.reduceGT, Int.reduceGE, Int.reduceBEq, Int.reduceBNe, Int.reduceToNat, Int.reduceAdd, Int.reduceSub, Int.reduceMul, Int.reduceEq, Int.reduceNeg, reduceCtorEq, decide_true, decide_false, Bool.false_eq_true, List.isEmpty_nil, ty3, ty4, ty22, ty23, ty24, ty37, ty38, eq24, S31_eq, t13, f5]
    refine Lwp.seq (Lwp.regD hT hM ?_)
    simp only [L6r8, go_sem, eq_self, reduceIte, Nat.reduceAdd, Nat.reduceMul, Nat.reduceSub, Nat.reduceLT, Nat.reduceLeDiff, Nat.reduceEqDiff, Nat.reduceDiv, Nat.reduceMod, Nat.reducePow, Nat.reduceBEq, Nat.reduceBNe, Int.reduceLT, Int.reduceLE, Int.reduceGT, Int.reduceGE, Int.reduceBEq, Int.reduceBNe, Int.reduceToNat, Int.reduceAdd, Int.reduceSub, Int.reduceMul, Int.reduceEq, Int.reduceNeg, reduceCtorEq, decide_true, decide_false, Bool.false_eq_true, List.isEmpty_nil, ty3, ty4, ty22, ty23, ty24, ty37, ty38, eq24, S22_eq, f6, f7, g1, l5]
    refine Lwp.ret (post_val (v := .bool true) ?_ ?_)
    · simp only [go_sem, eq_self, reduceIte, Nat.reduceAdd, Nat.reduceMul, Nat.reduceSub, Nat.reduceLT, Nat.reduceLeDiff, Nat.reduceEqDiff, Nat.reduceDiv, Nat.reduceMod, Nat.reducePow, Nat.reduceBEq, Nat.reduceBNe, Int.reduceLT, Int.reduceLE, Int.reduceGT, Int.reduceGE, Int.reduceBEq, Int.reduceBNe, Int.reduceToNat, Int.reduceAdd, Int.reduceSub, Int.reduceMul, Int.reduceEq, Int.reduceNeg, reduceCtorEq, decide_true, decide_false, Bool.false_eq_true]
    · simp only [go_sem, eq_self, reduceIte, Nat.reduceAdd, Nat.reduceMul, Nat.reduceSub, Nat.reduceLT, Nat.reduceLeDiff, Nat.reduceEqDiff, Nat.reduceDiv, Nat.reduceMod, Nat.reducePow, Nat.reduceBEq, Nat.reduceBNe, Int.reduceLT, Int.reduceLE, Int.reduceGT, Int.reduceGE, Int.reduceBEq, Int.reduceBNe, Int.reduceToNat, Int.reduceAdd, Int.reduceSub, Int.reduceMul, Int.reduceEq, Int.reduceNeg, reduceCtorEq, decide_true, decide_false, Bool.false_eq_true]
  · rw [if_neg h] at f1 f4
    have f6 := S32_eq x y (by omega) (by omega) (by omega)
    have f7 := S25_eq (x - y) (by
      have : (dig (x - y)).length ≤ 12 := by
        rw [dig_len_le] at l1 ⊢; omega
      omega)
    have f8 : lim6 (x - y) = limZ ((x : Int) - y) := by
      rw [← limZ_nat]
      congr 1
      omega
    rw [f8] at f7
    have f9 : ¬ ((if y < x then (1 : Int) else 0) < 0) := by split <;> decide
    clear hd0 hd1 ht h hx hy f8
    generalize (if y < x then (1 : Int) else 0) = r at *
    generalize limZ ((x : Int) - y) = s at *
    generalize lim6 x = a at *
    generalize lim6 y = b at *
    refine Lwp.seq (Lwp.regI hT ?_)
    simp only [L6r0, go_sem, eq_self, reduceIte, Nat.reduceAdd, Nat.reduceMul, Nat.reduceSub, Nat.reduceLT, Nat.reduceLeDiff, Nat.reduceEqDiff, Nat.reduceDiv, Nat.reduceMod, Nat.reducePow, Nat.reduceBEq, Nat.reduceBNe, Int.reduceLT, Int.reduceLE, Int.reduceGT, Int.reduceGE, Int.reduceBEq, Int.reduceBNe, Int.reduceToNat, Int.reduceAdd, Int.reduceSub, Int.reduceMul, Int.reduceEq, Int.reduceNeg, reduceCtorEq, decide_true, decide_false, Bool.false_eq_true, List.isEmpty_nil, ty3, ty4, ty22, ty23, ty24, ty37, ty38, eq24]
    refine Lwp.seq (Lwp.regI hT ?_)
    simp only [L6r1, go_sem, eq_self, reduceIte, Nat.reduceAdd, Nat.reduceMul, Nat.reduceSub, Nat.reduceLT, Nat.reduceLeDiff, Nat.reduceEqDiff, Nat.reduceDiv, Nat.reduceMod, Nat.reducePow, Nat.reduceBEq, Nat.reduceBNe, Int.reduceLT, Int.reduceLE, Int.reduceGT, Int.reduceGE, Int.reduceBEq, Int.reduceBNe, Int.reduceToNat, Int.reduceAdd, Int.reduceSub, Int.reduceMul, Int.reduceEq, Int.reduceNeg, reduceCtorEq, decide_true, decide_false, Bool.false_eq_true, List.isEmpty_nil, ty3, ty4, ty22, ty23, ty24, ty37, ty38, eq24, S22_eq, f0]
    refine Lwp.seq (Lwp.regI hT ?_)
    simp only [L6r2, go_sem, eq_self, reduceIte, Nat.reduceAdd, Nat.reduceMul, Nat.reduceSub, Nat.reduceLT, Nat.reduceLeDiff, Nat.reduceEqDiff, Nat.reduceDiv, Nat.reduceMod, Nat.reducePow, Nat.reduceBEq, Nat.reduceBNe, Int.reduceLT, Int.reduceLE, Int.reduceGT, Int.reduceGE, Int.reduceBEq, Int.reduceBNe, Int.reduceToNat, Int.reduceAdd, Int.reduceSub, Int.reduceMul, Int.reduceEq, Int.reduceNeg, reduceCtorEq, decide_true, decide_false, Bool.false_eq_true, List.isEmpty_nil, ty3, ty4, ty22, ty23, ty24, ty37, ty38, eq24, f1, l3, l4, l5]
    refine Lwp.seq (Lwp.regI hT ?_)
    simp only [L6r3, go_sem, eq_self, reduceIte, Nat.reduceAdd, Nat.reduceMul, Nat.reduceSub, Nat.reduceLT, Nat.reduceLeDiff, Nat.reduceEqDiff, Nat.reduceDiv, Nat.reduceMod, Nat.reducePow, Nat.reduceBEq, Nat.reduceBNe, Int.reduceLT, Int.reduceLE, Int.reduceGT, Int.reduceGE, Int.reduceBEq, Int.reduceBNe, Int.reduceToNat, Int.reduceAdd, Int.reduceSub, Int.reduceMul, Int.reduceEq, Int.reduceNeg, reduceCtorEq, decide_true, decide_false, Bool.false_eq_true, List.isEmpty_nil, ty3, ty4, ty22, ty23, ty24, ty37, ty38, eq24, f2, l3]
    refine Lwp.seq (Lwp.regI hT ?_)
    simp only [L6r4, go_sem, eq_self, reduceIte, Nat.reduceAdd, Nat.reduceMul, Nat.reduceSub, Nat.reduceLT, Nat.reduceLeDiff, Nat.reduceEqDiff, Nat.reduceDiv, Nat.reduceMod, Nat.reducePow, Nat.reduceBEq, Nat.reduceBNe, Int.reduceLT, Int.reduceLE, Int.reduceGT, Int.reduceGE, Int.reduceBEq, Int.reduceBNe, Int.reduceToNat, Int.reduceAdd, Int.reduceSub, Int.reduceMul, Int.reduceEq, Int.reduceNeg, reduceCtorEq, decide_true, decide_false, Bool.false_eq_true, List.isEmpty_nil, ty3, ty4, ty22, ty23, ty24, ty37, ty38, eq24, f3, l4]
    refine Lwp.seq (Lwp.regI hT ?_)
    simp only [L6r5, go_sem, eq_self, reduceIte, Nat.reduceAdd, Nat.reduceMul, Nat.reduceSub, Nat.reduceLT, Nat.reduceLeDiff, Nat.reduceEqDiff, Nat.reduceDiv, Nat.reduceMod, Nat.reducePow, Nat.reduceBEq, Nat.reduceBNe, Int.reduceLT, Int.reduceLE, Int.reduceGT, Int.reduceGE, Int.reduceBEq, Int.reduceBNe, Int.reduceToNat, Int.reduceAdd, Int.reduceSub, Int.reduceMul, Int.reduceEq, Int.reduceNeg, reduceCtorEq, decide_true, decide_false, Bool.false_eq_true, List.isEmpty_nil, ty3, ty4, ty22, ty23, ty24, ty37, ty38, eq24, f4, f9]
    refine Lwp.seq (Lwp.seq (Lwp.region hT ?_))
    simp only [L6r6, go_sem, eq_self, reduceIte, Nat.reduceAdd, Nat.reduceMul, Nat.reduceSub, Nat.reduceLT, Nat.reduceLeDiff, Nat.reduceEqDiff, Nat.reduceDiv, Nat.reduceMod, Nat.reducePow, Nat.reduceBEq, Nat.reduceBNe, Int.reduceLT, Int.reduceLE, Int.reduceGT, Int.reduceGE, Int.reduceBEq, Int.reduceBNe, Int.reduceToNat, Int.reduceAdd, Int.reduceSub, Int.reduceMul, Int.reduceEq, Int.reduceNeg, reduceCtorEq, decide_true, decide_false, Bool.false_eq_true]
    refine Lwp.cond rfl (fun h => by cases h) (fun _ => Lwp.skip ?_)
    simp only [go_sem, eq_self, reduceIte, Nat.reduceAdd, Nat.reduceMul, Nat.reduceSub, Nat.reduceLT, Nat.reduceLeDiff, Nat.reduceEqDiff, Nat.reduceDiv, Nat.reduceMod, Nat.reducePow, Nat.reduceBEq, Nat.reduceBNe, Int.reduceLT, Int.reduceLE, Int.reduceGT, Int.reduceGE, Int.reduceBEq, Int.reduceBNe, Int.reduceToNat, Int.reduceAdd, Int.reduceSub, Int.reduceMul, Int.reduceEq, Int.reduceNeg, reduceCtorEq, decide_true, decide_false, Bool.false_eq_true]
    refine Lwp.seq (Lwp.regD hT hM ?_)
    simp only [L6r8, go_sem, eq_self, reduceIte, Nat.reduceAdd, Nat.reduceMul, Nat.reduceSub, Nat.reduceLT, Nat.reduceLeDiff, Nat.reduceEqDiff, Nat.reduceDiv, Nat.reduceMod, Nat.reducePow, Nat.reduceBEq, Nat.reduceBNe, Int.reduceLT, Int.reduceLE, Int.reduceGT, Int.reduceGE, Int.reduceBEq, Int.reduceBNe, Int.reduceToNat, Int.reduceAdd, Int.reduceSub, Int.reduceMul, Int.reduceEq, Int.reduceNeg, reduceCtorEq, decide_true, decide_false, Bool.false_eq_true, List.isEmpty_nil, ty3, ty4, ty22, ty23, ty24, ty37, ty38, eq24, S22_eq, f6, f7, g0, l5]
    refine Lwp.ret (post_val (v := .bool true) ?_ ?_)
    · simp only [go_sem, eq_self, reduceIte, Nat.reduceAdd, Nat.reduceMul, Nat.reduceSub, Nat.reduceLT, Nat.reduceLeDiff, Nat.reduceEqDiff, Nat.reduceDiv, Nat.reduceMod, Nat.reducePow, Nat.reduceBEq, Nat.reduceBNe, Int.reduceLT, Int.reduceLE, Int.reduceGT, Int.reduceGE, Int.reduceBEq, Int.reduceBNe, Int.reduceToNat, Int.reduceAdd, Int.reduceSub, Int.reduceMul, Int.reduceEq, Int.reduceNeg, reduceCtorEq, decide_true, decide_false, Bool.false_eq_true]
    · simp only [go_sem, eq_self, reduceIte, Nat.reduceAdd, Nat.reduceMul, Nat.reduceSub, Nat.reduceLT, Nat.reduceLeDiff, Nat.reduceEqDiff, Nat.reduceDiv, Nat.reduceMod, Nat.reducePow, Nat.reduceBEq, Nat.reduceBNe, Int.reduceLT, Int.reduceLE, Int.reduceGT, Int.reduceGE, Int.reduceBEq, Int.reduceBNe, Int.reduceToNat, Int.reduceAdd, Int.reduceSub, Int.reduceMul, Int.reduceEq, Int.reduceNeg, reduceCtorEq, decide_true, decide_false, Bool.false_eq_true]
end Eng
