/- Contracts of the program's functions, and laws over them. There is no further condition. -/
import Derived.Test.YtmpebojnnlghiaaDoorfSX
import Derived.Test.YtmpebojnnlghiaaDoorfS1
import Derived.Test.YtmpebojnnlghiaaDoorGA
set_option linter.unusedVariables false
set_option linter.unusedSimpArgs false
set_option exponentiation.threshold 2000
-- ALIAS: Tryd
namespace Eng
open Go Go.Proofs
set_option linter.unusedSimpArgs false
set_option linter.unusedVariables false
-- TY: ty3, ty4, ty22, ty23, ty24, ty27, ty28, eq24
-- XN: 74=subX 75=addX

noncomputable def S53 : List AV → Option Ret := nz (sumOf (fun p : List Int => match p with | l => (D32 l) ∧ (l.length ≤ 1099511627776)) (fun p : List Int => match p with | l => [.slc l.length (ints .u64 l)]) (fun p : List Int => match p with | l => ⟨.slc (dig (val l)).length (ints .u64 (dig (val l))), none⟩))
theorem S53_eq (l : List Int) (h0 : D32 l) (h1 : l.length ≤ 1099511627776) : S53 [.slc l.length (ints .u64 l)] = some ⟨.slc (dig (val l)).length (ints .u64 (dig (val l))), none⟩ :=
  sumOf_eq (dom := (fun p : List Int => match p with | l => (D32 l) ∧ (l.length ≤ 1099511627776))) (enc := (fun p : List Int => match p with | l => [.slc l.length (ints .u64 l)])) (out := (fun p : List Int => match p with | l => ⟨.slc (dig (val l)).length (ints .u64 (dig (val l))), none⟩)) l ⟨h0, h1⟩ (fun y _ e => by
    simp only [List.cons.injEq, AV.agg.injEq, AV.int.injEq, AV.slc.injEq, AV.iptr.injEq, AV.bool.injEq, AV.str.injEq, ints_injEq, dig_injEq,  Int.ofNat_inj, BitVec.toNat_inj, true_and, and_true] at e
    first | with_reducible rfl | simp only [e] | rfl)
theorem S53_inv {args : List AV} {r : Ret} (h : sumOf (fun p : List Int => match p with | l => (D32 l) ∧ (l.length ≤ 1099511627776)) (fun p : List Int => match p with | l => [.slc l.length (ints .u64 l)]) (fun p : List Int => match p with | l => ⟨.slc (dig (val l)).length (ints .u64 (dig (val l))), none⟩) args = some r) : ∃ (l : List Int), ((D32 l) ∧ (l.length ≤ 1099511627776)) ∧ args = [.slc l.length (ints .u64 l)] ∧ r = ⟨.slc (dig (val l)).length (ints .u64 (dig (val l))), none⟩ := by
  obtain ⟨x, h1, h2, h3⟩ := sumOf_inv h
  exact ⟨x, h1, h2.symm, h3⟩


set_option maxRecDepth 100000 in
theorem snd53 : SndE Tryd.prog NoG 53 S53 := by
  refine snd_nz (snd_by [] [] Tryd.func53 (by kernel_rfl) lite53 nt53 rs53 trivial trivial (fun hT args r h => ?_))
  obtain ⟨l, ⟨hd0, hd1⟩, rfl, rfl⟩ := S53_inv h
  clear h
  have hM := hM0
  refine ⟨Nat.le_of_ble_eq_true rfl, fun F => ?_⟩
  unfold L53
  refine Lwp.seq (Lwp.regI hT ?_)
  simp only [L53r0, go_sem, List.isEmpty_nil, isC, eq_self, reduceIte, Nat.reduceAdd, Nat.reduceMul, Nat.reduceSub, Nat.reduceLT, Nat.reduceLeDiff, Nat.reduceEqDiff, Nat.reduceDiv, Nat.reduceMod, Nat.reducePow, Nat.reduceBEq, Nat.reduceBNe, Int.reduceLT, Int.reduceLE, Int.reduceGT, Int.reduceGE, Int.reduceBEq, Int.reduceBNe, Int.reduceToNat, Int.reduceAdd, Int.reduceSub, Int.reduceMul, Int.reduceEq, Int.reduceNeg, reduceCtorEq, decide_true, decide_false, Bool.false_eq_true, ty3, ty4, ty22, ty23, ty24, ty27, ty28, eq24]
  refine Lwp.seq (Lwp.regI hT ?_)
  simp only [L53r1, go_sem, List.isEmpty_nil, isC, eq_self, reduceIte, Nat.reduceAdd, Nat.reduceMul, Nat.reduceSub, Nat.reduceLT, Nat.reduceLeDiff, Nat.reduceEqDiff, Nat.reduceDiv, Nat.reduceMod, Nat.reducePow, Nat.reduceBEq, Nat.reduceBNe, Int.reduceLT, Int.reduceLE, Int.reduceGT, Int.reduceGE, Int.reduceBEq, Int.reduceBNe, Int.reduceToNat, Int.reduceAdd, Int.reduceSub, Int.reduceMul, Int.reduceEq, Int.reduceNeg, reduceCtorEq, decide_true, decide_false, Bool.false_eq_true, ty3, ty4, ty22, ty23, ty24, ty27, ty28, eq24]
  refine Lwp.seq (Lwp.block (Lwp.whl (fun n : Nat => { nt := 21, env := [(0, .slc l.length (ints .u64 l)), (3, .int .i64 n)], mem := [], next := 0 }) (fun n => n ≤ l.length ∧ ∀ i, n ≤ i → i < l.length → l.getD i 0 = 0) (fun n => n) l.length ⟨Nat.le_refl _, fun i h1 h2 => by omega⟩ ?_ ?_))
  · refine weak_of rfl ?_ ?_ ?_
    · (simp only [go_sem, List.isEmpty_nil, isC, eq_self, reduceIte, Nat.reduceAdd, Nat.reduceMul, Nat.reduceSub, Nat.reduceLT, Nat.reduceLeDiff, Nat.reduceEqDiff, Nat.reduceDiv, Nat.reduceMod, Nat.reducePow, Nat.reduceBEq, Nat.reduceBNe, Int.reduceLT, Int.reduceLE, Int.reduceGT, Int.reduceGE, Int.reduceBEq, Int.reduceBNe, Int.reduceToNat, Int.reduceAdd, Int.reduceSub, Int.reduceMul, Int.reduceEq, Int.reduceNeg, reduceCtorEq, decide_true, decide_false, Bool.false_eq_true]; try rfl)
    · (simp only [go_sem, List.isEmpty_nil, isC, eq_self, reduceIte, Nat.reduceAdd, Nat.reduceMul, Nat.reduceSub, Nat.reduceLT, Nat.reduceLeDiff, Nat.reduceEqDiff, Nat.reduceDiv, Nat.reduceMod, Nat.reducePow, Nat.reduceBEq, Nat.reduceBNe, Int.reduceLT, Int.reduceLE, Int.reduceGT, Int.reduceGE, Int.reduceBEq, Int.reduceBNe, Int.reduceToNat, Int.reduceAdd, Int.reduceSub, Int.reduceMul, Int.reduceEq, Int.reduceNeg, reduceCtorEq, decide_true, decide_false, Bool.false_eq_true]; try rfl)
    · (simp only [go_sem, List.isEmpty_nil, isC, eq_self, reduceIte, Nat.reduceAdd, Nat.reduceMul, Nat.reduceSub, Nat.reduceLT, Nat.reduceLeDiff, Nat.reduceEqDiff, Nat.reduceDiv, Nat.reduceMod, Nat.reducePow, Nat.reduceBEq, Nat.reduceBNe, Int.reduceLT, Int.reduceLE, Int.reduceGT, Int.reduceGE, Int.reduceBEq, Int.reduceBNe, Int.reduceToNat, Int.reduceAdd, Int.reduceSub, Int.reduceMul, Int.reduceEq, Int.reduceNeg, reduceCtorEq, decide_true, decide_false, Bool.false_eq_true]; try rfl)
  · rintro n ⟨hn, h0⟩
    have fin : (n = 0 ∨ l.getD (n - 1) 0 ≠ 0) → ∀ (env : List (Nat × AV)) (nx : Nat), find env 0 = some (.slc l.length (ints .u64 l)) → find env 3 = some (.int .i64 n) → Lwp okDraw (tb Tryd.prog [] []) F ((LC.region L53r4).seq LC.ret) (Post (tb Tryd.prog [] []) [.tmp 2] ⟨.slc (dig (val l)).length (ints .u64 (dig (val l))), none⟩) { nt := 21, env := env, mem := [], next := nx } := by
      intro h1 env nx e1 e2
      have e3 : (0 : Int) ≤ n := by omega
      have e4 : (n : Int) ≤ l.length := by omega
      have e5 := trim_eq hd0 hn h0 h1
      refine Lwp.seq (Lwp.regI hT ?_)
      simp only [L53r4, go_sem, List.isEmpty_nil, isC, eq_self, reduceIte, Nat.reduceAdd, Nat.reduceMul, Nat.reduceSub, Nat.reduceLT, Nat.reduceLeDiff, Nat.reduceEqDiff, Nat.reduceDiv, Nat.reduceMod, Nat.reducePow, Nat.reduceBEq, Nat.reduceBNe, Int.reduceLT, Int.reduceLE, Int.reduceGT, Int.reduceGE, Int.reduceBEq, Int.reduceBNe, Int.reduceToNat, Int.reduceAdd, Int.reduceSub, Int.reduceMul, Int.reduceEq, Int.reduceNeg, reduceCtorEq, decide_true, decide_false, Bool.false_eq_true, ty3, ty4, ty22, ty23, ty24, ty27, ty28, eq24, e1, e2, e3, e4, sliceA, boundA, Nat.sub_zero, ints_sub, List.drop_zero]
      refine Lwp.ret (post_val (v := .slc n (ints .u64 (l.take n))) ?_ ?_)
      · simp only [go_sem, List.isEmpty_nil, isC, eq_self, reduceIte, Nat.reduceAdd, Nat.reduceMul, Nat.reduceSub, Nat.reduceLT, Nat.reduceLeDiff, Nat.reduceEqDiff, Nat.reduceDiv, Nat.reduceMod, Nat.reducePow, Nat.reduceBEq, Nat.reduceBNe, Int.reduceLT, Int.reduceLE, Int.reduceGT, Int.reduceGE, Int.reduceBEq, Int.reduceBNe, Int.reduceToNat, Int.reduceAdd, Int.reduceSub, Int.reduceMul, Int.reduceEq, Int.reduceNeg, reduceCtorEq, decide_true, decide_false, Bool.false_eq_true]
      · simp only [go_sem, List.isEmpty_nil, isC, eq_self, reduceIte, Nat.reduceAdd, Nat.reduceMul, Nat.reduceSub, Nat.reduceLT, Nat.reduceLeDiff, Nat.reduceEqDiff, Nat.reduceDiv, Nat.reduceMod, Nat.reducePow, Nat.reduceBEq, Nat.reduceBNe, Int.reduceLT, Int.reduceLE, Int.reduceGT, Int.reduceGE, Int.reduceBEq, Int.reduceBNe, Int.reduceToNat, Int.reduceAdd, Int.reduceSub, Int.reduceMul, Int.reduceEq, Int.reduceNeg, reduceCtorEq, decide_true, decide_false, Bool.false_eq_true, ← e5, List.length_take, Nat.min_eq_left hn]
    by_cases hz : n = 0
    · subst hz
      refine Lwp.seq (Lwp.seq (Lwp.region hT ?_))
      have a1 : ¬ ((0 : Nat) : Int) > 0 := by omega
      simp only [L53r2, go_sem, List.isEmpty_nil, isC, eq_self, reduceIte, Nat.reduceAdd, Nat.reduceMul, Nat.reduceSub, Nat.reduceLT, Nat.reduceLeDiff, Nat.reduceEqDiff, Nat.reduceDiv, Nat.reduceMod, Nat.reducePow, Nat.reduceBEq, Nat.reduceBNe, Int.reduceLT, Int.reduceLE, Int.reduceGT, Int.reduceGE, Int.reduceBEq, Int.reduceBNe, Int.reduceToNat, Int.reduceAdd, Int.reduceSub, Int.reduceMul, Int.reduceEq, Int.reduceNeg, reduceCtorEq, decide_true, decide_false, Bool.false_eq_true, ty3, ty22, ty28, a1]
      refine Lwp.cond rfl (fun h => by cases h) (fun _ => Lwp.exit ?_)
      simp only [go_sem, List.isEmpty_nil, isC, eq_self, reduceIte, Nat.reduceAdd, Nat.reduceMul, Nat.reduceSub, Nat.reduceLT, Nat.reduceLeDiff, Nat.reduceEqDiff, Nat.reduceDiv, Nat.reduceMod, Nat.reducePow, Nat.reduceBEq, Nat.reduceBNe, Int.reduceLT, Int.reduceLE, Int.reduceGT, Int.reduceGE, Int.reduceBEq, Int.reduceBNe, Int.reduceToNat, Int.reduceAdd, Int.reduceSub, Int.reduceMul, Int.reduceEq, Int.reduceNeg, reduceCtorEq, decide_true, decide_false, Bool.false_eq_true]
      exact fin (.inl rfl) _ _ rfl rfl
    · have a1 : (n : Int) > 0 := by omega
      have a2 := wrap_pred (show 0 < n by omega) (by omega)
      have a3 : (0 : Int) ≤ ((n - 1 : Nat) : Int) := by omega
      have a4 : ((n - 1 : Nat) : Int) < l.length := by omega
      have a5 : n - 1 < l.length := by omega
      refine Lwp.seq (Lwp.seq (Lwp.region hT ?_))
      by_cases hl : l.getD (n - 1) 0 = 0
      · have hl' : (l.getD (n - 1) 0 == 0) = true := by rw [hl]; rfl
        simp only [L53r2, go_sem, List.isEmpty_nil, isC, eq_self, reduceIte, Nat.reduceAdd, Nat.reduceMul, Nat.reduceSub, Nat.reduceLT, Nat.reduceLeDiff, Nat.reduceEqDiff, Nat.reduceDiv, Nat.reduceMod, Nat.reducePow, Nat.reduceBEq, Nat.reduceBNe, Int.reduceLT, Int.reduceLE, Int.reduceGT, Int.reduceGE, Int.reduceBEq, Int.reduceBNe, Int.reduceToNat, Int.reduceAdd, Int.reduceSub, Int.reduceMul, Int.reduceEq, Int.reduceNeg, reduceCtorEq, decide_true, decide_false, Bool.false_eq_true, ty3, ty22, ty28, a1, a2, a3, a4, a5, hl']
        refine Lwp.cond rfl (fun _ => Lwp.skip ?_) (fun h => by cases h)
        simp only [go_sem, List.isEmpty_nil, isC, eq_self, reduceIte, Nat.reduceAdd, Nat.reduceMul, Nat.reduceSub, Nat.reduceLT, Nat.reduceLeDiff, Nat.reduceEqDiff, Nat.reduceDiv, Nat.reduceMod, Nat.reducePow, Nat.reduceBEq, Nat.reduceBNe, Int.reduceLT, Int.reduceLE, Int.reduceGT, Int.reduceGE, Int.reduceBEq, Int.reduceBNe, Int.reduceToNat, Int.reduceAdd, Int.reduceSub, Int.reduceMul, Int.reduceEq, Int.reduceNeg, reduceCtorEq, decide_true, decide_false, Bool.false_eq_true]
        refine Lwp.block (Lwp.region hT ?_)
        simp only [L53r3, go_sem, List.isEmpty_nil, isC, eq_self, reduceIte, Nat.reduceAdd, Nat.reduceMul, Nat.reduceSub, Nat.reduceLT, Nat.reduceLeDiff, Nat.reduceEqDiff, Nat.reduceDiv, Nat.reduceMod, Nat.reducePow, Nat.reduceBEq, Nat.reduceBNe, Int.reduceLT, Int.reduceLE, Int.reduceGT, Int.reduceGE, Int.reduceBEq, Int.reduceBNe, Int.reduceToNat, Int.reduceAdd, Int.reduceSub, Int.reduceMul, Int.reduceEq, Int.reduceNeg, reduceCtorEq, decide_true, decide_false, Bool.false_eq_true, ty3, a2]
        refine ⟨n - 1, ⟨by omega, fun i h1 h2 => ?_⟩, by omega, ?_⟩
        · by_cases hi : i = n - 1
          · rw [hi]; exact hl
          · exact h0 i (by omega) h2
        · refine weak_of rfl ?_ ?_ ?_
          · (simp only [go_sem, List.isEmpty_nil, isC, eq_self, reduceIte, Nat.reduceAdd, Nat.reduceMul, Nat.reduceSub, Nat.reduceLT, Nat.reduceLeDiff, Nat.reduceEqDiff, Nat.reduceDiv, Nat.reduceMod, Nat.reducePow, Nat.reduceBEq, Nat.reduceBNe, Int.reduceLT, Int.reduceLE, Int.reduceGT, Int.reduceGE, Int.reduceBEq, Int.reduceBNe, Int.reduceToNat, Int.reduceAdd, Int.reduceSub, Int.reduceMul, Int.reduceEq, Int.reduceNeg, reduceCtorEq, decide_true, decide_false, Bool.false_eq_true]; try rfl)
          · (simp only [go_sem, List.isEmpty_nil, isC, eq_self, reduceIte, Nat.reduceAdd, Nat.reduceMul, Nat.reduceSub, Nat.reduceLT, Nat.reduceLeDiff, Nat.reduceEqDiff, Nat.reduceDiv, Nat.reduceMod, Nat.reducePow, Nat.reduceBEq, Nat.reduceBNe, Int.reduceLT, Int.reduceLE, Int.reduceGT, Int.reduceGE, Int.reduceBEq, Int.reduceBNe, Int.reduceToNat, Int.reduceAdd, Int.reduceSub, Int.reduceMul, Int.reduceEq, Int.reduceNeg, reduceCtorEq, decide_true, decide_false, Bool.false_eq_true]; try rfl)
          · (simp only [go_sem, List.isEmpty_nil, isC, eq_self, reduceIte, Nat.reduceAdd, Nat.reduceMul, Nat.reduceSub, Nat.reduceLT, Nat.reduceLeDiff, Nat.reduceEqDiff, Nat.reduceDiv, Nat.reduceMod, Nat.reducePow, Nat.reduceBEq, Nat.reduceBNe, Int.reduceLT, Int.reduceLE, Int.reduceGT, Int.reduceGE, Int.reduceBEq, Int.reduceBNe, Int.reduceToNat, Int.reduceAdd, Int.reduceSub, Int.reduceMul, Int.reduceEq, Int.reduceNeg, reduceCtorEq, decide_true, decide_false, Bool.false_eq_true]; try rfl)
      · have hl' : (l.getD (n - 1) 0 == 0) = false := by simp only [beq_eq_false_iff_ne]; exact hl
        simp only [L53r2, go_sem, List.isEmpty_nil, isC, eq_self, reduceIte, Nat.reduceAdd, Nat.reduceMul, Nat.reduceSub, Nat.reduceLT, Nat.reduceLeDiff, Nat.reduceEqDiff, Nat.reduceDiv, Nat.reduceMod, Nat.reducePow, Nat.reduceBEq, Nat.reduceBNe, Int.reduceLT, Int.reduceLE, Int.reduceGT, Int.reduceGE, Int.reduceBEq, Int.reduceBNe, Int.reduceToNat, Int.reduceAdd, Int.reduceSub, Int.reduceMul, Int.reduceEq, Int.reduceNeg, reduceCtorEq, decide_true, decide_false, Bool.false_eq_true, ty3, ty22, ty28, a1, a2, a3, a4, a5, hl']
        refine Lwp.cond rfl (fun h => by cases h) (fun _ => Lwp.exit ?_)
        simp only [go_sem, List.isEmpty_nil, isC, eq_self, reduceIte, Nat.reduceAdd, Nat.reduceMul, Nat.reduceSub, Nat.reduceLT, Nat.reduceLeDiff, Nat.reduceEqDiff, Nat.reduceDiv, Nat.reduceMod, Nat.reducePow, Nat.reduceBEq, Nat.reduceBNe, Int.reduceLT, Int.reduceLE, Int.reduceGT, Int.reduceGE, Int.reduceBEq, Int.reduceBNe, Int.reduceToNat, Int.reduceAdd, Int.reduceSub, Int.reduceMul, Int.reduceEq, Int.reduceNeg, reduceCtorEq, decide_true, decide_false, Bool.false_eq_true]
        exact fin (.inr hl) _ _ rfl rfl

noncomputable def S52 : List AV → Option Ret := nz (sumOf (fun p : List Int × Nat => match p with | (l, i) => (l.length ≤ 1099511627776)) (fun p : List Int × Nat => match p with | (l, i) => [.slc l.length (ints .u64 l), .int .i64 i]) (fun p : List Int × Nat => match p with | (l, i) => ⟨.int .u64 (l.getD i 0), none⟩))
theorem S52_eq (l : List Int) (i : Nat) (h0 : l.length ≤ 1099511627776) : S52 [.slc l.length (ints .u64 l), .int .i64 i] = some ⟨.int .u64 (l.getD i 0), none⟩ :=
  sumOf_eq (dom := (fun p : List Int × Nat => match p with | (l, i) => (l.length ≤ 1099511627776))) (enc := (fun p : List Int × Nat => match p with | (l, i) => [.slc l.length (ints .u64 l), .int .i64 i])) (out := (fun p : List Int × Nat => match p with | (l, i) => ⟨.int .u64 (l.getD i 0), none⟩)) (l, i) h0 (fun y _ e => by
    obtain ⟨y0, y1⟩ := y
    simp only [List.cons.injEq, AV.agg.injEq, AV.int.injEq, AV.slc.injEq, AV.iptr.injEq, AV.bool.injEq, AV.str.injEq, ints_injEq, dig_injEq,  Int.ofNat_inj, BitVec.toNat_inj, true_and, and_true] at e
    first | with_reducible rfl | simp only [e] | rfl)
theorem S52_inv {args : List AV} {r : Ret} (h : sumOf (fun p : List Int × Nat => match p with | (l, i) => (l.length ≤ 1099511627776)) (fun p : List Int × Nat => match p with | (l, i) => [.slc l.length (ints .u64 l), .int .i64 i]) (fun p : List Int × Nat => match p with | (l, i) => ⟨.int .u64 (l.getD i 0), none⟩) args = some r) : ∃ (l : List Int) (i : Nat), ((l.length ≤ 1099511627776)) ∧ args = [.slc l.length (ints .u64 l), .int .i64 i] ∧ r = ⟨.int .u64 (l.getD i 0), none⟩ := by
  obtain ⟨x, h1, h2, h3⟩ := sumOf_inv h
  obtain ⟨l, i⟩ := x
  exact ⟨l, i, h1, h2.symm, h3⟩


set_option maxRecDepth 100000 in
theorem snd52 : SndE Tryd.prog NoG 52 S52 := by
  refine snd_nz (snd_by [] [] Tryd.func52 (by kernel_rfl) lite52 nt52 rs52 trivial trivial (fun hT args r h => ?_))
  obtain ⟨l, i, hd0, rfl, rfl⟩ := S52_inv h
  clear h
  have hM := hM0
  refine ⟨Nat.le_of_ble_eq_true rfl, fun F => ?_⟩
  unfold L52
  refine Lwp.seq (Lwp.regI hT ?_)
  simp only [L52r0, go_sem, List.isEmpty_nil, isC, eq_self, reduceIte, Nat.reduceAdd, Nat.reduceMul, Nat.reduceSub, Nat.reduceLT, Nat.reduceLeDiff, Nat.reduceEqDiff, Nat.reduceDiv, Nat.reduceMod, Nat.reducePow, Nat.reduceBEq, Nat.reduceBNe, Int.reduceLT, Int.reduceLE, Int.reduceGT, Int.reduceGE, Int.reduceBEq, Int.reduceBNe, Int.reduceToNat, Int.reduceAdd, Int.reduceSub, Int.reduceMul, Int.reduceEq, Int.reduceNeg, reduceCtorEq, decide_true, decide_false, Bool.false_eq_true, ty3, ty4, ty22, ty23, ty24, ty27, ty28, eq24]
  refine Lwp.seq (Lwp.seq (Lwp.region hT ?_))
  by_cases hi : i < l.length
  · have a1 : (i : Int) < l.length := by omega
    have a2 : (0 : Int) ≤ i := by omega
    simp only [L52r1, go_sem, List.isEmpty_nil, isC, eq_self, reduceIte, Nat.reduceAdd, Nat.reduceMul, Nat.reduceSub, Nat.reduceLT, Nat.reduceLeDiff, Nat.reduceEqDiff, Nat.reduceDiv, Nat.reduceMod, Nat.reducePow, Nat.reduceBEq, Nat.reduceBNe, Int.reduceLT, Int.reduceLE, Int.reduceGT, Int.reduceGE, Int.reduceBEq, Int.reduceBNe, Int.reduceToNat, Int.reduceAdd, Int.reduceSub, Int.reduceMul, Int.reduceEq, Int.reduceNeg, reduceCtorEq, decide_true, decide_false, Bool.false_eq_true, ty3, ty28, a1]
    refine Lwp.cond rfl (fun _ => ?_) (fun h => by cases h)
    refine Lwp.seq (Lwp.regI hT ?_)
    simp only [L52r2, go_sem, List.isEmpty_nil, isC, eq_self, reduceIte, Nat.reduceAdd, Nat.reduceMul, Nat.reduceSub, Nat.reduceLT, Nat.reduceLeDiff, Nat.reduceEqDiff, Nat.reduceDiv, Nat.reduceMod, Nat.reducePow, Nat.reduceBEq, Nat.reduceBNe, Int.reduceLT, Int.reduceLE, Int.reduceGT, Int.reduceGE, Int.reduceBEq, Int.reduceBNe, Int.reduceToNat, Int.reduceAdd, Int.reduceSub, Int.reduceMul, Int.reduceEq, Int.reduceNeg, reduceCtorEq, decide_true, decide_false, Bool.false_eq_true, ty3, ty4, ty22, ty23, ty24, ty27, ty28, eq24, a1, a2, hi]
    refine Lwp.ret (post_val (v := .int .u64 (l.getD i 0)) ?_ ?_)
    · simp only [go_sem, List.isEmpty_nil, isC, eq_self, reduceIte, Nat.reduceAdd, Nat.reduceMul, Nat.reduceSub, Nat.reduceLT, Nat.reduceLeDiff, Nat.reduceEqDiff, Nat.reduceDiv, Nat.reduceMod, Nat.reducePow, Nat.reduceBEq, Nat.reduceBNe, Int.reduceLT, Int.reduceLE, Int.reduceGT, Int.reduceGE, Int.reduceBEq, Int.reduceBNe, Int.reduceToNat, Int.reduceAdd, Int.reduceSub, Int.reduceMul, Int.reduceEq, Int.reduceNeg, reduceCtorEq, decide_true, decide_false, Bool.false_eq_true]
    · simp only [go_sem, List.isEmpty_nil, isC, eq_self, reduceIte, Nat.reduceAdd, Nat.reduceMul, Nat.reduceSub, Nat.reduceLT, Nat.reduceLeDiff, Nat.reduceEqDiff, Nat.reduceDiv, Nat.reduceMod, Nat.reducePow, Nat.reduceBEq, Nat.reduceBNe, Int.reduceLT, Int.reduceLE, Int.reduceGT, Int.reduceGE, Int.reduceBEq, Int.reduceBNe, Int.reduceToNat, Int.reduceAdd, Int.reduceSub, Int.reduceMul, Int.reduceEq, Int.reduceNeg, reduceCtorEq, decide_true, decide_false, Bool.false_eq_true]
  · have a1 : ¬ (i : Int) < l.length := by omega
    simp only [L52r1, go_sem, List.isEmpty_nil, isC, eq_self, reduceIte, Nat.reduceAdd, Nat.reduceMul, Nat.reduceSub, Nat.reduceLT, Nat.reduceLeDiff, Nat.reduceEqDiff, Nat.reduceDiv, Nat.reduceMod, Nat.reducePow, Nat.reduceBEq, Nat.reduceBNe, Int.reduceLT, Int.reduceLE, Int.reduceGT, Int.reduceGE, Int.reduceBEq, Int.reduceBNe, Int.reduceToNat, Int.reduceAdd, Int.reduceSub, Int.reduceMul, Int.reduceEq, Int.reduceNeg, reduceCtorEq, decide_true, decide_false, Bool.false_eq_true, ty3, ty28, a1]
    refine Lwp.cond rfl (fun h => by cases h) (fun _ => Lwp.skip ?_)
    simp only [go_sem, List.isEmpty_nil, isC, eq_self, reduceIte, Nat.reduceAdd, Nat.reduceMul, Nat.reduceSub, Nat.reduceLT, Nat.reduceLeDiff, Nat.reduceEqDiff, Nat.reduceDiv, Nat.reduceMod, Nat.reducePow, Nat.reduceBEq, Nat.reduceBNe, Int.reduceLT, Int.reduceLE, Int.reduceGT, Int.reduceGE, Int.reduceBEq, Int.reduceBNe, Int.reduceToNat, Int.reduceAdd, Int.reduceSub, Int.reduceMul, Int.reduceEq, Int.reduceNeg, reduceCtorEq, decide_true, decide_false, Bool.false_eq_true]
    refine Lwp.seq (Lwp.regI hT ?_)
    simp only [L52r3, go_sem, List.isEmpty_nil, isC, eq_self, reduceIte, Nat.reduceAdd, Nat.reduceMul, Nat.reduceSub, Nat.reduceLT, Nat.reduceLeDiff, Nat.reduceEqDiff, Nat.reduceDiv, Nat.reduceMod, Nat.reducePow, Nat.reduceBEq, Nat.reduceBNe, Int.reduceLT, Int.reduceLE, Int.reduceGT, Int.reduceGE, Int.reduceBEq, Int.reduceBNe, Int.reduceToNat, Int.reduceAdd, Int.reduceSub, Int.reduceMul, Int.reduceEq, Int.reduceNeg, reduceCtorEq, decide_true, decide_false, Bool.false_eq_true, ty3, ty4, ty22, ty23, ty24, ty27, ty28, eq24]
    refine Lwp.ret (post_val (v := .int .u64 (l.getD i 0)) ?_ ?_)
    · simp only [go_sem, List.isEmpty_nil, isC, eq_self, reduceIte, Nat.reduceAdd, Nat.reduceMul, Nat.reduceSub, Nat.reduceLT, Nat.reduceLeDiff, Nat.reduceEqDiff, Nat.reduceDiv, Nat.reduceMod, Nat.reducePow, Nat.reduceBEq, Nat.reduceBNe, Int.reduceLT, Int.reduceLE, Int.reduceGT, Int.reduceGE, Int.reduceBEq, Int.reduceBNe, Int.reduceToNat, Int.reduceAdd, Int.reduceSub, Int.reduceMul, Int.reduceEq, Int.reduceNeg, reduceCtorEq, decide_true, decide_false, Bool.false_eq_true]
      rw [List.getD_eq_getElem?_getD, List.getElem?_eq_none (by omega)]; rfl
    · simp only [go_sem, List.isEmpty_nil, isC, eq_self, reduceIte, Nat.reduceAdd, Nat.reduceMul, Nat.reduceSub, Nat.reduceLT, Nat.reduceLeDiff, Nat.reduceEqDiff, Nat.reduceDiv, Nat.reduceMod, Nat.reducePow, Nat.reduceBEq, Nat.reduceBNe, Int.reduceLT, Int.reduceLE, Int.reduceGT, Int.reduceGE, Int.reduceBEq, Int.reduceBNe, Int.reduceToNat, Int.reduceAdd, Int.reduceSub, Int.reduceMul, Int.reduceEq, Int.reduceNeg, reduceCtorEq, decide_true, decide_false, Bool.false_eq_true]

noncomputable def S37 : List AV → Option Ret := nz (sumOf (fun p : Nat × Nat => match p with | (x, y) => ((dig x).length ≤ 1099511627776) ∧ ((dig y).length ≤ 1099511627776)) (fun p : Nat × Nat => match p with | (x, y) => [.slc (dig (x)).length (ints .u64 (dig (x))), .slc (dig (y)).length (ints .u64 (dig (y)))]) (fun p : Nat × Nat => match p with | (x, y) => ⟨.int .i64 (if x < y then -1 else if y < x then 1 else 0), none⟩))
theorem S37_eq (x : Nat) (y : Nat) (h0 : (dig x).length ≤ 1099511627776) (h1 : (dig y).length ≤ 1099511627776) : S37 [.slc (dig (x)).length (ints .u64 (dig (x))), .slc (dig (y)).length (ints .u64 (dig (y)))] = some ⟨.int .i64 (if x < y then -1 else if y < x then 1 else 0), none⟩ :=
  sumOf_eq (dom := (fun p : Nat × Nat => match p with | (x, y) => ((dig x).length ≤ 1099511627776) ∧ ((dig y).length ≤ 1099511627776))) (enc := (fun p : Nat × Nat => match p with | (x, y) => [.slc (dig (x)).length (ints .u64 (dig (x))), .slc (dig (y)).length (ints .u64 (dig (y)))])) (out := (fun p : Nat × Nat => match p with | (x, y) => ⟨.int .i64 (if x < y then -1 else if y < x then 1 else 0), none⟩)) (x, y) ⟨h0, h1⟩ (fun y _ e => by
    obtain ⟨y0, y1⟩ := y
    simp only [List.cons.injEq, AV.agg.injEq, AV.int.injEq, AV.slc.injEq, AV.iptr.injEq, AV.bool.injEq, AV.str.injEq, ints_injEq, dig_injEq,  Int.ofNat_inj, BitVec.toNat_inj, true_and, and_true] at e
    first | with_reducible rfl | simp only [e] | rfl)
theorem S37_inv {args : List AV} {r : Ret} (h : sumOf (fun p : Nat × Nat => match p with | (x, y) => ((dig x).length ≤ 1099511627776) ∧ ((dig y).length ≤ 1099511627776)) (fun p : Nat × Nat => match p with | (x, y) => [.slc (dig (x)).length (ints .u64 (dig (x))), .slc (dig (y)).length (ints .u64 (dig (y)))]) (fun p : Nat × Nat => match p with | (x, y) => ⟨.int .i64 (if x < y then -1 else if y < x then 1 else 0), none⟩) args = some r) : ∃ (x : Nat) (y : Nat), (((dig x).length ≤ 1099511627776) ∧ ((dig y).length ≤ 1099511627776)) ∧ args = [.slc (dig (x)).length (ints .u64 (dig (x))), .slc (dig (y)).length (ints .u64 (dig (y)))] ∧ r = ⟨.int .i64 (if x < y then -1 else if y < x then 1 else 0), none⟩ := by
  obtain ⟨x, h1, h2, h3⟩ := sumOf_inv h
  obtain ⟨x, y⟩ := x
  exact ⟨x, y, h1, h2.symm, h3⟩


set_option maxRecDepth 100000 in
theorem snd37 : SndE Tryd.prog NoG 37 S37 := by
  refine snd_nz (snd_by [] [] Tryd.func37 (by kernel_rfl) lite37 nt37 rs37 trivial trivial (fun hT args r h => ?_))
  obtain ⟨x, y, ⟨hd0, hd1⟩, rfl, rfl⟩ := S37_inv h
  clear h
  have hM := hM0
  refine ⟨Nat.le_of_ble_eq_true rfl, fun F => ?_⟩
  unfold L37
  refine Lwp.seq (Lwp.regI hT ?_)
  simp only [L37r0, go_sem, List.isEmpty_nil, isC, eq_self, reduceIte, Nat.reduceAdd, Nat.reduceMul, Nat.reduceSub, Nat.reduceLT, Nat.reduceLeDiff, Nat.reduceEqDiff, Nat.reduceDiv, Nat.reduceMod, Nat.reducePow, Nat.reduceBEq, Nat.reduceBNe, Int.reduceLT, Int.reduceLE, Int.reduceGT, Int.reduceGE, Int.reduceBEq, Int.reduceBNe, Int.reduceToNat, Int.reduceAdd, Int.reduceSub, Int.reduceMul, Int.reduceEq, Int.reduceNeg, reduceCtorEq, decide_true, decide_false, Bool.false_eq_true, ty3, ty4, ty22, ty23, ty24, ty27, ty28, eq24]
  refine Lwp.seq (Lwp.seq (Lwp.region hT ?_))
  by_cases hl : (dig x).length = (dig y).length
  · have b1 : (((dig x).length : Int) != ((dig y).length : Int)) = false := by simp [hl]
    simp only [L37r1, go_sem, List.isEmpty_nil, isC, eq_self, reduceIte, Nat.reduceAdd, Nat.reduceMul, Nat.reduceSub, Nat.reduceLT, Nat.reduceLeDiff, Nat.reduceEqDiff, Nat.reduceDiv, Nat.reduceMod, Nat.reducePow, Nat.reduceBEq, Nat.reduceBNe, Int.reduceLT, Int.reduceLE, Int.reduceGT, Int.reduceGE, Int.reduceBEq, Int.reduceBNe, Int.reduceToNat, Int.reduceAdd, Int.reduceSub, Int.reduceMul, Int.reduceEq, Int.reduceNeg, reduceCtorEq, decide_true, decide_false, Bool.false_eq_true, ty3, ty28, b1]
    refine Lwp.cond rfl (fun h => by cases h) (fun _ => Lwp.skip ?_)
    simp only [go_sem, List.isEmpty_nil, isC, eq_self, reduceIte, Nat.reduceAdd, Nat.reduceMul, Nat.reduceSub, Nat.reduceLT, Nat.reduceLeDiff, Nat.reduceEqDiff, Nat.reduceDiv, Nat.reduceMod, Nat.reducePow, Nat.reduceBEq, Nat.reduceBNe, Int.reduceLT, Int.reduceLE, Int.reduceGT, Int.reduceGE, Int.reduceBEq, Int.reduceBNe, Int.reduceToNat, Int.reduceAdd, Int.reduceSub, Int.reduceMul, Int.reduceEq, Int.reduceNeg, reduceCtorEq, decide_true, decide_false, Bool.false_eq_true]
    refine Lwp.seq (Lwp.seq (Lwp.region hT ?_))
    have b2 : IntKind.i64.wrap (((dig x).length : Int) - 1) = ((dig x).length : Int) - 1 := wrap_i64 (by omega) (by omega)
    simp only [L37r5, go_sem, List.isEmpty_nil, isC, eq_self, reduceIte, Nat.reduceAdd, Nat.reduceMul, Nat.reduceSub, Nat.reduceLT, Nat.reduceLeDiff, Nat.reduceEqDiff, Nat.reduceDiv, Nat.reduceMod, Nat.reducePow, Nat.reduceBEq, Nat.reduceBNe, Int.reduceLT, Int.reduceLE, Int.reduceGT, Int.reduceGE, Int.reduceBEq, Int.reduceBNe, Int.reduceToNat, Int.reduceAdd, Int.reduceSub, Int.reduceMul, Int.reduceEq, Int.reduceNeg, reduceCtorEq, decide_true, decide_false, Bool.false_eq_true, ty3, ty28, b2]
    refine Lwp.block (Lwp.whl (fun n : Nat => { nt := 41, env := [(0, .slc (dig (x)).length (ints .u64 (dig (x)))), (1, .slc (dig (y)).length (ints .u64 (dig (y)))), (5, .int .i64 ((n : Int) - 1))], mem := [], next := 0 }) (fun n => n ≤ (dig x).length ∧ x / 4294967296 ^ n = y / 4294967296 ^ n) (fun n => n) (dig x).length ⟨Nat.le_refl _, ?_⟩ ?_ ?_)
    · rw [Nat.div_eq_of_lt ((dig_len_le x _).1 (Nat.le_refl _)), Nat.div_eq_of_lt ((dig_len_le y _).1 (by omega))]
    · refine weak_of rfl ?_ ?_ ?_
      · (simp only [go_sem, List.isEmpty_nil, isC, eq_self, reduceIte, Nat.reduceAdd, Nat.reduceMul, Nat.reduceSub, Nat.reduceLT, Nat.reduceLeDiff, Nat.reduceEqDiff, Nat.reduceDiv, Nat.reduceMod, Nat.reducePow, Nat.reduceBEq, Nat.reduceBNe, Int.reduceLT, Int.reduceLE, Int.reduceGT, Int.reduceGE, Int.reduceBEq, Int.reduceBNe, Int.reduceToNat, Int.reduceAdd, Int.reduceSub, Int.reduceMul, Int.reduceEq, Int.reduceNeg, reduceCtorEq, decide_true, decide_false, Bool.false_eq_true]; try rfl)
      · (simp only [go_sem, List.isEmpty_nil, isC, eq_self, reduceIte, Nat.reduceAdd, Nat.reduceMul, Nat.reduceSub, Nat.reduceLT, Nat.reduceLeDiff, Nat.reduceEqDiff, Nat.reduceDiv, Nat.reduceMod, Nat.reducePow, Nat.reduceBEq, Nat.reduceBNe, Int.reduceLT, Int.reduceLE, Int.reduceGT, Int.reduceGE, Int.reduceBEq, Int.reduceBNe, Int.reduceToNat, Int.reduceAdd, Int.reduceSub, Int.reduceMul, Int.reduceEq, Int.reduceNeg, reduceCtorEq, decide_true, decide_false, Bool.false_eq_true]; try rfl)
      · (simp only [go_sem, List.isEmpty_nil, isC, eq_self, reduceIte, Nat.reduceAdd, Nat.reduceMul, Nat.reduceSub, Nat.reduceLT, Nat.reduceLeDiff, Nat.reduceEqDiff, Nat.reduceDiv, Nat.reduceMod, Nat.reducePow, Nat.reduceBEq, Nat.reduceBNe, Int.reduceLT, Int.reduceLE, Int.reduceGT, Int.reduceGE, Int.reduceBEq, Int.reduceBNe, Int.reduceToNat, Int.reduceAdd, Int.reduceSub, Int.reduceMul, Int.reduceEq, Int.reduceNeg, reduceCtorEq, decide_true, decide_false, Bool.false_eq_true]; try rfl)
    · rintro n ⟨hn, heq⟩
      by_cases hz : n = 0
      · subst hz
        refine Lwp.seq (Lwp.seq (Lwp.region hT ?_))
        have c1 : ¬ ((0 : Nat) : Int) - 1 ≥ 0 := by omega
        simp only [L37r6, go_sem, List.isEmpty_nil, isC, eq_self, reduceIte, Nat.reduceAdd, Nat.reduceMul, Nat.reduceSub, Nat.reduceLT, Nat.reduceLeDiff, Nat.reduceEqDiff, Nat.reduceDiv, Nat.reduceMod, Nat.reducePow, Nat.reduceBEq, Nat.reduceBNe, Int.reduceLT, Int.reduceLE, Int.reduceGT, Int.reduceGE, Int.reduceBEq, Int.reduceBNe, Int.reduceToNat, Int.reduceAdd, Int.reduceSub, Int.reduceMul, Int.reduceEq, Int.reduceNeg, reduceCtorEq, decide_true, decide_false, Bool.false_eq_true, ty3, c1]
        refine Lwp.cond rfl (fun h => by cases h) (fun _ => Lwp.exit ?_)
        simp only [go_sem, List.isEmpty_nil, isC, eq_self, reduceIte, Nat.reduceAdd, Nat.reduceMul, Nat.reduceSub, Nat.reduceLT, Nat.reduceLeDiff, Nat.reduceEqDiff, Nat.reduceDiv, Nat.reduceMod, Nat.reducePow, Nat.reduceBEq, Nat.reduceBNe, Int.reduceLT, Int.reduceLE, Int.reduceGT, Int.reduceGE, Int.reduceBEq, Int.reduceBNe, Int.reduceToNat, Int.reduceAdd, Int.reduceSub, Int.reduceMul, Int.reduceEq, Int.reduceNeg, reduceCtorEq, decide_true, decide_false, Bool.false_eq_true]
        refine Lwp.seq (Lwp.regI hT ?_)
        simp only [L37r12, go_sem, List.isEmpty_nil, isC, eq_self, reduceIte, Nat.reduceAdd, Nat.reduceMul, Nat.reduceSub, Nat.reduceLT, Nat.reduceLeDiff, Nat.reduceEqDiff, Nat.reduceDiv, Nat.reduceMod, Nat.reducePow, Nat.reduceBEq, Nat.reduceBNe, Int.reduceLT, Int.reduceLE, Int.reduceGT, Int.reduceGE, Int.reduceBEq, Int.reduceBNe, Int.reduceToNat, Int.reduceAdd, Int.reduceSub, Int.reduceMul, Int.reduceEq, Int.reduceNeg, reduceCtorEq, decide_true, decide_false, Bool.false_eq_true, ty3, ty4, ty22, ty23, ty24, ty27, ty28, eq24]
        simp only [Nat.pow_zero, Nat.div_one] at heq
        subst heq
        refine Lwp.ret (post_val (v := .int .i64 0) ?_ ?_)
        · simp only [go_sem, List.isEmpty_nil, isC, eq_self, reduceIte, Nat.reduceAdd, Nat.reduceMul, Nat.reduceSub, Nat.reduceLT, Nat.reduceLeDiff, Nat.reduceEqDiff, Nat.reduceDiv, Nat.reduceMod, Nat.reducePow, Nat.reduceBEq, Nat.reduceBNe, Int.reduceLT, Int.reduceLE, Int.reduceGT, Int.reduceGE, Int.reduceBEq, Int.reduceBNe, Int.reduceToNat, Int.reduceAdd, Int.reduceSub, Int.reduceMul, Int.reduceEq, Int.reduceNeg, reduceCtorEq, decide_true, decide_false, Bool.false_eq_true]
        · simp only [go_sem, List.isEmpty_nil, isC, eq_self, reduceIte, Nat.reduceAdd, Nat.reduceMul, Nat.reduceSub, Nat.reduceLT, Nat.reduceLeDiff, Nat.reduceEqDiff, Nat.reduceDiv, Nat.reduceMod, Nat.reducePow, Nat.reduceBEq, Nat.reduceBNe, Int.reduceLT, Int.reduceLE, Int.reduceGT, Int.reduceGE, Int.reduceBEq, Int.reduceBNe, Int.reduceToNat, Int.reduceAdd, Int.reduceSub, Int.reduceMul, Int.reduceEq, Int.reduceNeg, reduceCtorEq, decide_true, decide_false, Bool.false_eq_true, Nat.lt_irrefl]
      · obtain ⟨j, rfl⟩ : ∃ j, n = j + 1 := ⟨n - 1, by omega⟩
        have c0 : ((j + 1 : Nat) : Int) - 1 = (j : Int) := by omega
        have c1 : (j : Int) ≥ 0 := by omega
        have c2 : (0 : Int) ≤ (j : Int) := by omega
        have c3 : (j : Int) < ((dig x).length : Int) := by omega
        have c4 : (j : Int) < ((dig y).length : Int) := by omega
        have c5 : j < (dig x).length := by omega
        have c6 : j < (dig y).length := by omega
        have c7 : IntKind.i64.wrap ((j : Int) - 1) = (j : Int) - 1 := wrap_i64 (by omega) (by omega)
        refine Lwp.seq (Lwp.seq (Lwp.region hT ?_))
        simp only [L37r6, go_sem, List.isEmpty_nil, isC, eq_self, reduceIte, Nat.reduceAdd, Nat.reduceMul, Nat.reduceSub, Nat.reduceLT, Nat.reduceLeDiff, Nat.reduceEqDiff, Nat.reduceDiv, Nat.reduceMod, Nat.reducePow, Nat.reduceBEq, Nat.reduceBNe, Int.reduceLT, Int.reduceLE, Int.reduceGT, Int.reduceGE, Int.reduceBEq, Int.reduceBNe, Int.reduceToNat, Int.reduceAdd, Int.reduceSub, Int.reduceMul, Int.reduceEq, Int.reduceNeg, reduceCtorEq, decide_true, decide_false, Bool.false_eq_true, ty3, c0, c1]
        refine Lwp.cond rfl (fun _ => Lwp.skip ?_) (fun h => by cases h)
        simp only [go_sem, List.isEmpty_nil, isC, eq_self, reduceIte, Nat.reduceAdd, Nat.reduceMul, Nat.reduceSub, Nat.reduceLT, Nat.reduceLeDiff, Nat.reduceEqDiff, Nat.reduceDiv, Nat.reduceMod, Nat.reducePow, Nat.reduceBEq, Nat.reduceBNe, Int.reduceLT, Int.reduceLE, Int.reduceGT, Int.reduceGE, Int.reduceBEq, Int.reduceBNe, Int.reduceToNat, Int.reduceAdd, Int.reduceSub, Int.reduceMul, Int.reduceEq, Int.reduceNeg, reduceCtorEq, decide_true, decide_false, Bool.false_eq_true]
        refine Lwp.seq (Lwp.block ?_)
        refine Lwp.seq (Lwp.seq (Lwp.regD hT hM ?_))
        have hx := dig_getD x j
        have hy := dig_getD y j
        by_cases h1 : (dig x).getD j 0 < (dig y).getD j 0
        · simp only [L37r8, go_sem, List.isEmpty_nil, isC, eq_self, reduceIte, Nat.reduceAdd, Nat.reduceMul, Nat.reduceSub, Nat.reduceLT, Nat.reduceLeDiff, Nat.reduceEqDiff, Nat.reduceDiv, Nat.reduceMod, Nat.reducePow, Nat.reduceBEq, Nat.reduceBNe, Int.reduceLT, Int.reduceLE, Int.reduceGT, Int.reduceGE, Int.reduceBEq, Int.reduceBNe, Int.reduceToNat, Int.reduceAdd, Int.reduceSub, Int.reduceMul, Int.reduceEq, Int.reduceNeg, reduceCtorEq, decide_true, decide_false, Bool.false_eq_true, ty3, ty22, ty28, c2, c3, c4, c5, c6, h1]
          refine Lwp.cond rfl (fun _ => ?_) (fun h => by cases h)
          refine Lwp.seq (Lwp.regI hT ?_)
          simp only [L37r9, go_sem, List.isEmpty_nil, isC, eq_self, reduceIte, Nat.reduceAdd, Nat.reduceMul, Nat.reduceSub, Nat.reduceLT, Nat.reduceLeDiff, Nat.reduceEqDiff, Nat.reduceDiv, Nat.reduceMod, Nat.reducePow, Nat.reduceBEq, Nat.reduceBNe, Int.reduceLT, Int.reduceLE, Int.reduceGT, Int.reduceGE, Int.reduceBEq, Int.reduceBNe, Int.reduceToNat, Int.reduceAdd, Int.reduceSub, Int.reduceMul, Int.reduceEq, Int.reduceNeg, reduceCtorEq, decide_true, decide_false, Bool.false_eq_true, ty3, ty4, ty22, ty23, ty24, ty27, ty28, eq24]
          refine Lwp.ret ?_
          simp only [go_sem, List.isEmpty_nil, isC, eq_self, reduceIte, Nat.reduceAdd, Nat.reduceMul, Nat.reduceSub, Nat.reduceLT, Nat.reduceLeDiff, Nat.reduceEqDiff, Nat.reduceDiv, Nat.reduceMod, Nat.reducePow, Nat.reduceBEq, Nat.reduceBNe, Int.reduceLT, Int.reduceLE, Int.reduceGT, Int.reduceGE, Int.reduceBEq, Int.reduceBNe, Int.reduceToNat, Int.reduceAdd, Int.reduceSub, Int.reduceMul, Int.reduceEq, Int.reduceNeg, reduceCtorEq, decide_true, decide_false, Bool.false_eq_true]
          refine (post_val (v := .int .i64 (-1)) ?_ ?_)
          · simp only [go_sem, List.isEmpty_nil, isC, eq_self, reduceIte, Nat.reduceAdd, Nat.reduceMul, Nat.reduceSub, Nat.reduceLT, Nat.reduceLeDiff, Nat.reduceEqDiff, Nat.reduceDiv, Nat.reduceMod, Nat.reducePow, Nat.reduceBEq, Nat.reduceBNe, Int.reduceLT, Int.reduceLE, Int.reduceGT, Int.reduceGE, Int.reduceBEq, Int.reduceBNe, Int.reduceToNat, Int.reduceAdd, Int.reduceSub, Int.reduceMul, Int.reduceEq, Int.reduceNeg, reduceCtorEq, decide_true, decide_false, Bool.false_eq_true]
          · simp only [go_sem, List.isEmpty_nil, isC, eq_self, reduceIte, Nat.reduceAdd, Nat.reduceMul, Nat.reduceSub, Nat.reduceLT, Nat.reduceLeDiff, Nat.reduceEqDiff, Nat.reduceDiv, Nat.reduceMod, Nat.reducePow, Nat.reduceBEq, Nat.reduceBNe, Int.reduceLT, Int.reduceLE, Int.reduceGT, Int.reduceGE, Int.reduceBEq, Int.reduceBNe, Int.reduceToNat, Int.reduceAdd, Int.reduceSub, Int.reduceMul, Int.reduceEq, Int.reduceNeg, reduceCtorEq, decide_true, decide_false, Bool.false_eq_true]
            rw [if_pos]
            exact lt_of_digs heq (by omega)
        · simp only [L37r8, go_sem, List.isEmpty_nil, isC, eq_self, reduceIte, Nat.reduceAdd, Nat.reduceMul, Nat.reduceSub, Nat.reduceLT, Nat.reduceLeDiff, Nat.reduceEqDiff, Nat.reduceDiv, Nat.reduceMod, Nat.reducePow, Nat.reduceBEq, Nat.reduceBNe, Int.reduceLT, Int.reduceLE, Int.reduceGT, Int.reduceGE, Int.reduceBEq, Int.reduceBNe, Int.reduceToNat, Int.reduceAdd, Int.reduceSub, Int.reduceMul, Int.reduceEq, Int.reduceNeg, reduceCtorEq, decide_true, decide_false, Bool.false_eq_true, ty3, ty22, ty28, c2, c3, c4, c5, c6, h1]
          refine Lwp.cond rfl (fun h => by cases h) (fun _ => Lwp.skip ?_)
          simp only [go_sem, List.isEmpty_nil, isC, eq_self, reduceIte, Nat.reduceAdd, Nat.reduceMul, Nat.reduceSub, Nat.reduceLT, Nat.reduceLeDiff, Nat.reduceEqDiff, Nat.reduceDiv, Nat.reduceMod, Nat.reducePow, Nat.reduceBEq, Nat.reduceBNe, Int.reduceLT, Int.reduceLE, Int.reduceGT, Int.reduceGE, Int.reduceBEq, Int.reduceBNe, Int.reduceToNat, Int.reduceAdd, Int.reduceSub, Int.reduceMul, Int.reduceEq, Int.reduceNeg, reduceCtorEq, decide_true, decide_false, Bool.false_eq_true]
          refine Lwp.seq (Lwp.regD hT hM ?_)
          by_cases h2 : (dig x).getD j 0 > (dig y).getD j 0
          · simp only [L37r10, go_sem, List.isEmpty_nil, isC, eq_self, reduceIte, Nat.reduceAdd, Nat.reduceMul, Nat.reduceSub, Nat.reduceLT, Nat.reduceLeDiff, Nat.reduceEqDiff, Nat.reduceDiv, Nat.reduceMod, Nat.reducePow, Nat.reduceBEq, Nat.reduceBNe, Int.reduceLT, Int.reduceLE, Int.reduceGT, Int.reduceGE, Int.reduceBEq, Int.reduceBNe, Int.reduceToNat, Int.reduceAdd, Int.reduceSub, Int.reduceMul, Int.reduceEq, Int.reduceNeg, reduceCtorEq, decide_true, decide_false, Bool.false_eq_true, ty3, ty22, ty28, c2, c3, c4, c5, c6, h2]
            refine Lwp.cond rfl (fun _ => ?_) (fun h => by cases h)
            refine Lwp.seq (Lwp.regI hT ?_)
            simp only [L37r11, go_sem, List.isEmpty_nil, isC, eq_self, reduceIte, Nat.reduceAdd, Nat.reduceMul, Nat.reduceSub, Nat.reduceLT, Nat.reduceLeDiff, Nat.reduceEqDiff, Nat.reduceDiv, Nat.reduceMod, Nat.reducePow, Nat.reduceBEq, Nat.reduceBNe, Int.reduceLT, Int.reduceLE, Int.reduceGT, Int.reduceGE, Int.reduceBEq, Int.reduceBNe, Int.reduceToNat, Int.reduceAdd, Int.reduceSub, Int.reduceMul, Int.reduceEq, Int.reduceNeg, reduceCtorEq, decide_true, decide_false, Bool.false_eq_true, ty3, ty4, ty22, ty23, ty24, ty27, ty28, eq24]
            refine Lwp.ret ?_
            simp only [go_sem, List.isEmpty_nil, isC, eq_self, reduceIte, Nat.reduceAdd, Nat.reduceMul, Nat.reduceSub, Nat.reduceLT, Nat.reduceLeDiff, Nat.reduceEqDiff, Nat.reduceDiv, Nat.reduceMod, Nat.reducePow, Nat.reduceBEq, Nat.reduceBNe, Int.reduceLT, Int.reduceLE, Int.reduceGT, Int.reduceGE, Int.reduceBEq, Int.reduceBNe, Int.reduceToNat, Int.reduceAdd, Int.reduceSub, Int.reduceMul, Int.reduceEq, Int.reduceNeg, reduceCtorEq, decide_true, decide_false, Bool.false_eq_true]
            refine (post_val (v := .int .i64 1) ?_ ?_)
            · simp only [go_sem, List.isEmpty_nil, isC, eq_self, reduceIte, Nat.reduceAdd, Nat.reduceMul, Nat.reduceSub, Nat.reduceLT, Nat.reduceLeDiff, Nat.reduceEqDiff, Nat.reduceDiv, Nat.reduceMod, Nat.reducePow, Nat.reduceBEq, Nat.reduceBNe, Int.reduceLT, Int.reduceLE, Int.reduceGT, Int.reduceGE, Int.reduceBEq, Int.reduceBNe, Int.reduceToNat, Int.reduceAdd, Int.reduceSub, Int.reduceMul, Int.reduceEq, Int.reduceNeg, reduceCtorEq, decide_true, decide_false, Bool.false_eq_true]
            · simp only [go_sem, List.isEmpty_nil, isC, eq_self, reduceIte, Nat.reduceAdd, Nat.reduceMul, Nat.reduceSub, Nat.reduceLT, Nat.reduceLeDiff, Nat.reduceEqDiff, Nat.reduceDiv, Nat.reduceMod, Nat.reducePow, Nat.reduceBEq, Nat.reduceBNe, Int.reduceLT, Int.reduceLE, Int.reduceGT, Int.reduceGE, Int.reduceBEq, Int.reduceBNe, Int.reduceToNat, Int.reduceAdd, Int.reduceSub, Int.reduceMul, Int.reduceEq, Int.reduceNeg, reduceCtorEq, decide_true, decide_false, Bool.false_eq_true]
              have := lt_of_digs heq.symm (by omega)
              rw [if_neg (by omega), if_pos this]
          · simp only [L37r10, go_sem, List.isEmpty_nil, isC, eq_self, reduceIte, Nat.reduceAdd, Nat.reduceMul, Nat.reduceSub, Nat.reduceLT, Nat.reduceLeDiff, Nat.reduceEqDiff, Nat.reduceDiv, Nat.reduceMod, Nat.reducePow, Nat.reduceBEq, Nat.reduceBNe, Int.reduceLT, Int.reduceLE, Int.reduceGT, Int.reduceGE, Int.reduceBEq, Int.reduceBNe, Int.reduceToNat, Int.reduceAdd, Int.reduceSub, Int.reduceMul, Int.reduceEq, Int.reduceNeg, reduceCtorEq, decide_true, decide_false, Bool.false_eq_true, ty3, ty22, ty28, c2, c3, c4, c5, c6, h2]
            refine Lwp.cond rfl (fun h => by cases h) (fun _ => Lwp.skip ?_)
            simp only [go_sem, List.isEmpty_nil, isC, eq_self, reduceIte, Nat.reduceAdd, Nat.reduceMul, Nat.reduceSub, Nat.reduceLT, Nat.reduceLeDiff, Nat.reduceEqDiff, Nat.reduceDiv, Nat.reduceMod, Nat.reducePow, Nat.reduceBEq, Nat.reduceBNe, Int.reduceLT, Int.reduceLE, Int.reduceGT, Int.reduceGE, Int.reduceBEq, Int.reduceBNe, Int.reduceToNat, Int.reduceAdd, Int.reduceSub, Int.reduceMul, Int.reduceEq, Int.reduceNeg, reduceCtorEq, decide_true, decide_false, Bool.false_eq_true]
            refine Lwp.regI hT ?_
            simp only [L37r7, go_sem, List.isEmpty_nil, isC, eq_self, reduceIte, Nat.reduceAdd, Nat.reduceMul, Nat.reduceSub, Nat.reduceLT, Nat.reduceLeDiff, Nat.reduceEqDiff, Nat.reduceDiv, Nat.reduceMod, Nat.reducePow, Nat.reduceBEq, Nat.reduceBNe, Int.reduceLT, Int.reduceLE, Int.reduceGT, Int.reduceGE, Int.reduceBEq, Int.reduceBNe, Int.reduceToNat, Int.reduceAdd, Int.reduceSub, Int.reduceMul, Int.reduceEq, Int.reduceNeg, reduceCtorEq, decide_true, decide_false, Bool.false_eq_true, ty3, ty4, ty22, ty23, ty24, ty27, ty28, eq24, c7]
            refine ⟨j, ⟨by omega, eq_of_digs heq (by omega)⟩, by omega, ?_⟩
            refine weak_of rfl ?_ ?_ ?_
            · (simp only [go_sem, List.isEmpty_nil, isC, eq_self, reduceIte, Nat.reduceAdd, Nat.reduceMul, Nat.reduceSub, Nat.reduceLT, Nat.reduceLeDiff, Nat.reduceEqDiff, Nat.reduceDiv, Nat.reduceMod, Nat.reducePow, Nat.reduceBEq, Nat.reduceBNe, Int.reduceLT, Int.reduceLE, Int.reduceGT, Int.reduceGE, Int.reduceBEq, Int.reduceBNe, Int.reduceToNat, Int.reduceAdd, Int.reduceSub, Int.reduceMul, Int.reduceEq, Int.reduceNeg, reduceCtorEq, decide_true, decide_false, Bool.false_eq_true]; try rfl)
            · (simp only [go_sem, List.isEmpty_nil, isC, eq_self, reduceIte, Nat.reduceAdd, Nat.reduceMul, Nat.reduceSub, Nat.reduceLT, Nat.reduceLeDiff, Nat.reduceEqDiff, Nat.reduceDiv, Nat.reduceMod, Nat.reducePow, Nat.reduceBEq, Nat.reduceBNe, Int.reduceLT, Int.reduceLE, Int.reduceGT, Int.reduceGE, Int.reduceBEq, Int.reduceBNe, Int.reduceToNat, Int.reduceAdd, Int.reduceSub, Int.reduceMul, Int.reduceEq, Int.reduceNeg, reduceCtorEq, decide_true, decide_false, Bool.false_eq_true]; try rfl)
            · (simp only [go_sem, List.isEmpty_nil, isC, eq_self, reduceIte, Nat.reduceAdd, Nat.reduceMul, Nat.reduceSub, Nat.reduceLT, Nat.reduceLeDiff, Nat.reduceEqDiff, Nat.reduceDiv, Nat.reduceMod, Nat.reducePow, Nat.reduceBEq, Nat.reduceBNe, Int.reduceLT, Int.reduceLE, Int.reduceGT, Int.reduceGE, Int.reduceBEq, Int.reduceBNe, Int.reduceToNat, Int.reduceAdd, Int.reduceSub, Int.reduceMul, Int.reduceEq, Int.reduceNeg, reduceCtorEq, decide_true, decide_false, Bool.false_eq_true]; try rfl)
  · have b1 : (((dig x).length : Int) != ((dig y).length : Int)) = true := by simp; omega
    simp only [L37r1, go_sem, List.isEmpty_nil, isC, eq_self, reduceIte, Nat.reduceAdd, Nat.reduceMul, Nat.reduceSub, Nat.reduceLT, Nat.reduceLeDiff, Nat.reduceEqDiff, Nat.reduceDiv, Nat.reduceMod, Nat.reducePow, Nat.reduceBEq, Nat.reduceBNe, Int.reduceLT, Int.reduceLE, Int.reduceGT, Int.reduceGE, Int.reduceBEq, Int.reduceBNe, Int.reduceToNat, Int.reduceAdd, Int.reduceSub, Int.reduceMul, Int.reduceEq, Int.reduceNeg, reduceCtorEq, decide_true, decide_false, Bool.false_eq_true, ty3, ty28, b1]
    refine Lwp.cond rfl (fun _ => ?_) (fun h => by cases h)
    refine Lwp.seq (Lwp.seq (Lwp.region hT ?_))
    by_cases hlt : ((dig x).length : Int) < ((dig y).length : Int)
    · simp only [L37r2, go_sem, List.isEmpty_nil, isC, eq_self, reduceIte, Nat.reduceAdd, Nat.reduceMul, Nat.reduceSub, Nat.reduceLT, Nat.reduceLeDiff, Nat.reduceEqDiff, Nat.reduceDiv, Nat.reduceMod, Nat.reducePow, Nat.reduceBEq, Nat.reduceBNe, Int.reduceLT, Int.reduceLE, Int.reduceGT, Int.reduceGE, Int.reduceBEq, Int.reduceBNe, Int.reduceToNat, Int.reduceAdd, Int.reduceSub, Int.reduceMul, Int.reduceEq, Int.reduceNeg, reduceCtorEq, decide_true, decide_false, Bool.false_eq_true, ty3, ty28, hlt]
      refine Lwp.cond rfl (fun _ => ?_) (fun h => by cases h)
      refine Lwp.seq (Lwp.regI hT ?_)
      simp only [L37r3, go_sem, List.isEmpty_nil, isC, eq_self, reduceIte, Nat.reduceAdd, Nat.reduceMul, Nat.reduceSub, Nat.reduceLT, Nat.reduceLeDiff, Nat.reduceEqDiff, Nat.reduceDiv, Nat.reduceMod, Nat.reducePow, Nat.reduceBEq, Nat.reduceBNe, Int.reduceLT, Int.reduceLE, Int.reduceGT, Int.reduceGE, Int.reduceBEq, Int.reduceBNe, Int.reduceToNat, Int.reduceAdd, Int.reduceSub, Int.reduceMul, Int.reduceEq, Int.reduceNeg, reduceCtorEq, decide_true, decide_false, Bool.false_eq_true, ty3, ty4, ty22, ty23, ty24, ty27, ty28, eq24]
      refine Lwp.ret (post_val (v := .int .i64 (-1)) ?_ ?_)
      · simp only [go_sem, List.isEmpty_nil, isC, eq_self, reduceIte, Nat.reduceAdd, Nat.reduceMul, Nat.reduceSub, Nat.reduceLT, Nat.reduceLeDiff, Nat.reduceEqDiff, Nat.reduceDiv, Nat.reduceMod, Nat.reducePow, Nat.reduceBEq, Nat.reduceBNe, Int.reduceLT, Int.reduceLE, Int.reduceGT, Int.reduceGE, Int.reduceBEq, Int.reduceBNe, Int.reduceToNat, Int.reduceAdd, Int.reduceSub, Int.reduceMul, Int.reduceEq, Int.reduceNeg, reduceCtorEq, decide_true, decide_false, Bool.false_eq_true]
      · simp only [go_sem, List.isEmpty_nil, isC, eq_self, reduceIte, Nat.reduceAdd, Nat.reduceMul, Nat.reduceSub, Nat.reduceLT, Nat.reduceLeDiff, Nat.reduceEqDiff, Nat.reduceDiv, Nat.reduceMod, Nat.reducePow, Nat.reduceBEq, Nat.reduceBNe, Int.reduceLT, Int.reduceLE, Int.reduceGT, Int.reduceGE, Int.reduceBEq, Int.reduceBNe, Int.reduceToNat, Int.reduceAdd, Int.reduceSub, Int.reduceMul, Int.reduceEq, Int.reduceNeg, reduceCtorEq, decide_true, decide_false, Bool.false_eq_true]
        rw [if_pos (lt_of_lens (by omega))]
    · simp only [L37r2, go_sem, List.isEmpty_nil, isC, eq_self, reduceIte, Nat.reduceAdd, Nat.reduceMul, Nat.reduceSub, Nat.reduceLT, Nat.reduceLeDiff, Nat.reduceEqDiff, Nat.reduceDiv, Nat.reduceMod, Nat.reducePow, Nat.reduceBEq, Nat.reduceBNe, Int.reduceLT, Int.reduceLE, Int.reduceGT, Int.reduceGE, Int.reduceBEq, Int.reduceBNe, Int.reduceToNat, Int.reduceAdd, Int.reduceSub, Int.reduceMul, Int.reduceEq, Int.reduceNeg, reduceCtorEq, decide_true, decide_false, Bool.false_eq_true, ty3, ty28, hlt]
      refine Lwp.cond rfl (fun h => by cases h) (fun _ => Lwp.skip ?_)
      simp only [go_sem, List.isEmpty_nil, isC, eq_self, reduceIte, Nat.reduceAdd, Nat.reduceMul, Nat.reduceSub, Nat.reduceLT, Nat.reduceLeDiff, Nat.reduceEqDiff, Nat.reduceDiv, Nat.reduceMod, Nat.reducePow, Nat.reduceBEq, Nat.reduceBNe, Int.reduceLT, Int.reduceLE, Int.reduceGT, Int.reduceGE, Int.reduceBEq, Int.reduceBNe, Int.reduceToNat, Int.reduceAdd, Int.reduceSub, Int.reduceMul, Int.reduceEq, Int.reduceNeg, reduceCtorEq, decide_true, decide_false, Bool.false_eq_true]
      refine Lwp.seq (Lwp.regI hT ?_)
      simp only [L37r4, go_sem, List.isEmpty_nil, isC, eq_self, reduceIte, Nat.reduceAdd, Nat.reduceMul, Nat.reduceSub, Nat.reduceLT, Nat.reduceLeDiff, Nat.reduceEqDiff, Nat.reduceDiv, Nat.reduceMod, Nat.reducePow, Nat.reduceBEq, Nat.reduceBNe, Int.reduceLT, Int.reduceLE, Int.reduceGT, Int.reduceGE, Int.reduceBEq, Int.reduceBNe, Int.reduceToNat, Int.reduceAdd, Int.reduceSub, Int.reduceMul, Int.reduceEq, Int.reduceNeg, reduceCtorEq, decide_true, decide_false, Bool.false_eq_true, ty3, ty4, ty22, ty23, ty24, ty27, ty28, eq24]
      have := lt_of_lens (x := y) (y := x) (by omega)
      refine Lwp.ret (post_val (v := .int .i64 1) ?_ ?_)
      · simp only [go_sem, List.isEmpty_nil, isC, eq_self, reduceIte, Nat.reduceAdd, Nat.reduceMul, Nat.reduceSub, Nat.reduceLT, Nat.reduceLeDiff, Nat.reduceEqDiff, Nat.reduceDiv, Nat.reduceMod, Nat.reducePow, Nat.reduceBEq, Nat.reduceBNe, Int.reduceLT, Int.reduceLE, Int.reduceGT, Int.reduceGE, Int.reduceBEq, Int.reduceBNe, Int.reduceToNat, Int.reduceAdd, Int.reduceSub, Int.reduceMul, Int.reduceEq, Int.reduceNeg, reduceCtorEq, decide_true, decide_false, Bool.false_eq_true]
      · simp only [go_sem, List.isEmpty_nil, isC, eq_self, reduceIte, Nat.reduceAdd, Nat.reduceMul, Nat.reduceSub, Nat.reduceLT, Nat.reduceLeDiff, Nat.reduceEqDiff, Nat.reduceDiv, Nat.reduceMod, Nat.reducePow, Nat.reduceBEq, Nat.reduceBNe, Int.reduceLT, Int.reduceLE, Int.reduceGT, Int.reduceGE, Int.reduceBEq, Int.reduceBNe, Int.reduceToNat, Int.reduceAdd, Int.reduceSub, Int.reduceMul, Int.reduceEq, Int.reduceNeg, reduceCtorEq, decide_true, decide_false, Bool.false_eq_true]
        rw [if_neg (by omega), if_pos this]
end Eng
