/- Contracts of the program's functions, and laws over them. There is no further condition. -/
import Derived.Test.YtabahlhaocmglaaS2
namespace Eng
open Go Go.Proofs
set_option linter.unusedSimpArgs false

theorem bitZ_run' {a : List Int} {i : Int} (h : U6 a) (h0 : i ≥ 0) (h1 : i < 384) : ((a.getD (i / 64).toNat 0).fdiv (2 ^ min (i % 64).toNat 64)).tmod 2 = bitZ a i := by
  obtain ⟨b0, b1⟩ := h.at (i / 64).toNat
  have hm : min (i % 64).toNat 64 = i.toNat % 64 := by omega
  have hd : (i / 64).toNat = i.toNat / 64 := by omega
  obtain ⟨s0, s1, s2⟩ := shr_bound b0 b1 (i.toNat % 64)
  rw [hm, s0, Int.tmod_eq_emod_of_nonneg s1, bitZ, if_pos ⟨h0, h1⟩, hd]

noncomputable def S3 : List AV → Option Ret := sumOf (fun p : List Int × Int => U6 p.1 ∧ I64 p.2) (fun p => [.agg (ints .u64 p.1), .int .i64 p.2]) (fun _ => ⟨.bool true, none⟩)
theorem S3_eq (a : List Int) (i : Int) (h : U6 a) (hi : I64 i) : S3 [.agg (ints .u64 a), .int .i64 i] = some ⟨.bool true, none⟩ :=
  sumOf_eq (enc := fun p : List Int × Int => [.agg (ints .u64 p.1), .int .i64 p.2]) (out := fun _ => ⟨.bool true, none⟩) (a, i) ⟨h, hi⟩ (fun _ _ _ => rfl)
theorem U6_one : U6 one6 := ⟨rfl, by decide⟩

set_option maxRecDepth 100000 in
theorem snd3 : SndE Try.prog NoG 3 S3 := by
  refine snd_by [(21, S21), (22, S22)] [] Try.func3 (by kernel_rfl) lite3 nt3 rs3 ⟨snd21, snd22, trivial⟩ trivial (fun hT args r h => ?_)
  obtain ⟨⟨a, i⟩, ⟨⟨hl, hb⟩, hi⟩, rfl, rfl⟩ := sumOf_inv h
  clear h
  simp only at hl hb hi
  have hU : U6 a := ⟨hl, hb⟩
  have b0 : bitZ one6 0 = 1 := by decide
  have hI0 : I64 0 := ⟨by decide, by decide⟩
  refine ⟨Nat.le_of_ble_eq_true rfl, fun F => ?_⟩
  unfold L3
  refine Lwp.seq (Lwp.region hT ?_)
  simp only [L3r0, go_sem, eq_self, reduceIte, Nat.reduceAdd, Nat.reduceMul, Nat.reduceSub, Nat.reduceLT, Nat.reduceLeDiff, Nat.reduceEqDiff, Nat.reduceDiv, Nat.reduceMod, Nat.reducePow, Nat.reduceBEq, Nat.reduceBNe, Int.reduceLT, Int.reduceLE, Int.reduceToNat, Int.reduceAdd, Int.reduceSub, Int.reduceMul, Int.reduceEq, Int.reduceNeg, reduceCtorEq, decide_true, decide_false, Bool.false_eq_true, ty24]
  refine Lwp.seq (Lwp.region hT ?_)
  simp only [L3r1, go_sem, eq_self, reduceIte, Nat.reduceAdd, Nat.reduceMul, Nat.reduceSub, Nat.reduceLT, Nat.reduceLeDiff, Nat.reduceEqDiff, Nat.reduceDiv, Nat.reduceMod, Nat.reducePow, Nat.reduceBEq, Nat.reduceBNe, Int.reduceLT, Int.reduceLE, Int.reduceToNat, Int.reduceAdd, Int.reduceSub, Int.reduceMul, Int.reduceEq, Int.reduceNeg, reduceCtorEq, decide_true, decide_false, Bool.false_eq_true, ty24]
  -- the rest, from a state where slot 5 holds the bit
  have rest : ∀ (v : Int) (nx : Nat) (env : List (Nat × AV)), v = bitZ a i → find env 5 = some (.int .u64 v) → find env 2 = some (.own 0 0) → find env 1 = some (.int .i64 i) →
      Lwp okDraw (tb Try.prog [(21, S21), (22, S22)] []) F (.seq (.region L3r4) .ret) (Post (tb Try.prog [(21, S21), (22, S22)] []) [.tmp 4] ⟨.bool true, none⟩) { nt := 30, env := env, mem := [(0, ints .u64 a)], next := nx } := by
    intro v nx env hv h5 h2 h1
    refine Lwp.seq (Lwp.region hT ?_)
    simp only [L3r4, go_sem, eq_self, reduceIte, Nat.reduceAdd, Nat.reduceMul, Nat.reduceSub, Nat.reduceLT, Nat.reduceLeDiff, Nat.reduceEqDiff, Nat.reduceDiv, Nat.reduceMod, Nat.reducePow, Nat.reduceBEq, Nat.reduceBNe, Int.reduceLT, Int.reduceLE, Int.reduceToNat, Int.reduceAdd, Int.reduceSub, Int.reduceMul, Int.reduceEq, Int.reduceNeg, reduceCtorEq, decide_true, decide_false, Bool.false_eq_true, ty24, ty22, h5, h2, h1, S22_eq, S21_eq _ _ U6_one hI0, S21_eq _ _ hU hi, b0, hv, hl, Nat.le_refl]
    refine Lwp.ret (post_val (v := .bool true) ?_ ?_)
    · simp only [go_sem, eq_self, reduceIte, Nat.reduceAdd, Nat.reduceMul, Nat.reduceSub, Nat.reduceLT, Nat.reduceLeDiff, Nat.reduceEqDiff, Nat.reduceDiv, Nat.reduceMod, Nat.reducePow, Nat.reduceBEq, Nat.reduceBNe, Int.reduceLT, Int.reduceLE, Int.reduceToNat, Int.reduceAdd, Int.reduceSub, Int.reduceMul, Int.reduceEq, Int.reduceNeg, reduceCtorEq, decide_true, decide_false, Bool.false_eq_true]
    · simp only [go_sem, eq_self, reduceIte, Nat.reduceAdd, Nat.reduceMul, Nat.reduceSub, Nat.reduceLT, Nat.reduceLeDiff, Nat.reduceEqDiff, Nat.reduceDiv, Nat.reduceMod, Nat.reducePow, Nat.reduceBEq, Nat.reduceBNe, Int.reduceLT, Int.reduceLE, Int.reduceToNat, Int.reduceAdd, Int.reduceSub, Int.reduceMul, Int.reduceEq, Int.reduceNeg, reduceCtorEq, decide_true, decide_false, Bool.false_eq_true]
  refine Lwp.seq (Lwp.seq (Lwp.region hT ?_))
  by_cases h0 : i ≥ 0
  · by_cases h1 : i < 384
    · simp only [L3r2, go_sem, eq_self, reduceIte, Nat.reduceAdd, Nat.reduceMul, Nat.reduceSub, Nat.reduceLT, Nat.reduceLeDiff, Nat.reduceEqDiff, Nat.reduceDiv, Nat.reduceMod, Nat.reducePow, Nat.reduceBEq, Nat.reduceBNe, Int.reduceLT, Int.reduceLE, Int.reduceToNat, Int.reduceAdd, Int.reduceSub, Int.reduceMul, Int.reduceEq, Int.reduceNeg, reduceCtorEq, decide_true, decide_false, Bool.false_eq_true, ty24, ty22, ty3, h0, h1]
      refine Lwp.cond rfl (fun _ => Lwp.region hT ?_) (fun h => by cases h)
      have e1 : IntKind.i64.wrap (i.tdiv 64) = i / 64 := by rw [Int.tdiv_eq_ediv_of_nonneg (by omega)]; exact wrap_i64 (by omega) (by omega)
      have c1 : 0 ≤ i / 64 := by omega
      have c2 : i / 64 < 6 := by omega
      have c3 : (i / 64).toNat < 6 := by omega
      have e2 : i.tmod 64 = i % 64 := Int.tmod_eq_emod_of_nonneg (by omega)
      have c4 : ¬ i % 64 < 0 := by omega
      simp only [L3r3, go_sem, eq_self, reduceIte, Nat.reduceAdd, Nat.reduceMul, Nat.reduceSub, Nat.reduceLT, Nat.reduceLeDiff, Nat.reduceEqDiff, Nat.reduceDiv, Nat.reduceMod, Nat.reducePow, Nat.reduceBEq, Nat.reduceBNe, Int.reduceLT, Int.reduceLE, Int.reduceToNat, Int.reduceAdd, Int.reduceSub, Int.reduceMul, Int.reduceEq, Int.reduceNeg, reduceCtorEq, decide_true, decide_false, Bool.false_eq_true, ty24, ty22, ty3, e1, c1, c2, c3, e2, c4, hl]
      refine rest _ _ _ ?_ rfl rfl rfl
      exact bitZ_run' hU h0 h1
    · simp only [L3r2, go_sem, eq_self, reduceIte, Nat.reduceAdd, Nat.reduceMul, Nat.reduceSub, Nat.reduceLT, Nat.reduceLeDiff, Nat.reduceEqDiff, Nat.reduceDiv, Nat.reduceMod, Nat.reducePow, Nat.reduceBEq, Nat.reduceBNe, Int.reduceLT, Int.reduceLE, Int.reduceToNat, Int.reduceAdd, Int.reduceSub, Int.reduceMul, Int.reduceEq, Int.reduceNeg, reduceCtorEq, decide_true, decide_false, Bool.false_eq_true, ty24, ty22, ty3, h0, h1]
      refine Lwp.cond rfl (fun h => by cases h) (fun _ => Lwp.skip ?_)
      simp only [go_sem, eq_self, reduceIte, Nat.reduceAdd, Nat.reduceMul, Nat.reduceSub, Nat.reduceLT, Nat.reduceLeDiff, Nat.reduceEqDiff, Nat.reduceDiv, Nat.reduceMod, Nat.reducePow, Nat.reduceBEq, Nat.reduceBNe, Int.reduceLT, Int.reduceLE, Int.reduceToNat, Int.reduceAdd, Int.reduceSub, Int.reduceMul, Int.reduceEq, Int.reduceNeg, reduceCtorEq, decide_true, decide_false, Bool.false_eq_true]
      refine rest _ _ _ ?_ rfl rfl rfl
      rw [bitZ, if_neg (by omega)]
  · simp only [L3r2, go_sem, eq_self, reduceIte, Nat.reduceAdd, Nat.reduceMul, Nat.reduceSub, Nat.reduceLT, Nat.reduceLeDiff, Nat.reduceEqDiff, Nat.reduceDiv, Nat.reduceMod, Nat.reducePow, Nat.reduceBEq, Nat.reduceBNe, Int.reduceLT, Int.reduceLE, Int.reduceToNat, Int.reduceAdd, Int.reduceSub, Int.reduceMul, Int.reduceEq, Int.reduceNeg, reduceCtorEq, decide_true, decide_false, Bool.false_eq_true, ty24, ty22, ty3, h0]
    refine Lwp.cond rfl (fun h => by cases h) (fun _ => Lwp.skip ?_)
    simp only [go_sem, eq_self, reduceIte, Nat.reduceAdd, Nat.reduceMul, Nat.reduceSub, Nat.reduceLT, Nat.reduceLeDiff, Nat.reduceEqDiff, Nat.reduceDiv, Nat.reduceMod, Nat.reducePow, Nat.reduceBEq, Nat.reduceBNe, Int.reduceLT, Int.reduceLE, Int.reduceToNat, Int.reduceAdd, Int.reduceSub, Int.reduceMul, Int.reduceEq, Int.reduceNeg, reduceCtorEq, decide_true, decide_false, Bool.false_eq_true]
    refine rest _ _ _ ?_ rfl rfl rfl
    rw [bitZ, if_neg (by omega)]
end Eng
