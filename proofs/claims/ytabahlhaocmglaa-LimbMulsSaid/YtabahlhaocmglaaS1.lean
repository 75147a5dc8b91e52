/- Contracts of the program's functions, and laws over them. There is no further condition. -/
import Derived.Test.YtabahlhaocmglaaSB
set_option linter.unusedVariables false
set_option linter.unusedSimpArgs false
set_option exponentiation.threshold 2000
namespace Eng
open Go Go.Proofs
set_option linter.unusedSimpArgs false

def one6 : List Int := [1, 0, 0, 0, 0, 0]
@[go_sem] theorem one6_len : one6.length = 6 := by decide
theorem U6_one : U6 one6 := ⟨rfl, by decide⟩
theorem U6_zero : U6 (List.replicate 6 0) := ⟨rfl, by decide⟩
noncomputable def S22 : List AV → Option Ret := sumOf (fun _ : Unit => True) (fun _ => []) (fun _ => ⟨.agg (ints .u64 one6), none⟩)
theorem S22_eq : S22 [] = some ⟨.agg (ints .u64 one6), none⟩ := sumOf_eq (enc := fun _ : Unit => []) () trivial (fun _ _ _ => rfl)

set_option maxRecDepth 100000 in
theorem snd22 : SndE Try.prog NoG 22 S22 := by
  refine snd_by [] [] Try.func22 (by kernel_rfl) lite22 nt22 rs22 trivial trivial (fun hT args r h => ?_)
  obtain ⟨_, _, rfl, rfl⟩ := sumOf_inv h
  refine ⟨by decide, fun F => ?_⟩
  unfold L22
  refine Lwp.seq (Lwp.region hT ?_)
  simp only [L22r0, go_sem, eq_self, reduceIte, Nat.reduceAdd, Nat.reduceMul, Nat.reduceSub, Nat.reduceLT, Nat.reduceLeDiff, Nat.reduceEqDiff, Nat.reduceDiv, Nat.reduceMod, Nat.reducePow, Nat.reduceBEq, Nat.reduceBNe, Int.reduceLT, Int.reduceLE, Int.reduceGT, Int.reduceGE, Int.reduceBEq, Int.reduceBNe, Int.reduceToNat, Int.reduceAdd, Int.reduceSub, Int.reduceMul, Int.reduceEq, Int.reduceNeg, reduceCtorEq, decide_true, decide_false, Bool.false_eq_true, ty24]
  refine Lwp.seq (Lwp.region hT ?_)
  simp only [L22r1, go_sem, eq_self, reduceIte, Nat.reduceAdd, Nat.reduceMul, Nat.reduceSub, Nat.reduceLT, Nat.reduceLeDiff, Nat.reduceEqDiff, Nat.reduceDiv, Nat.reduceMod, Nat.reducePow, Nat.reduceBEq, Nat.reduceBNe, Int.reduceLT, Int.reduceLE, Int.reduceGT, Int.reduceGE, Int.reduceBEq, Int.reduceBNe, Int.reduceToNat, Int.reduceAdd, Int.reduceSub, Int.reduceMul, Int.reduceEq, Int.reduceNeg, reduceCtorEq, decide_true, decide_false, Bool.false_eq_true, ty24, ty22]
  refine Lwp.ret (post_val (v := .agg (ints .u64 one6)) ?_ ?_)
  · simp only [go_sem, eq_self, reduceIte, Nat.reduceAdd, Nat.reduceMul, Nat.reduceSub, Nat.reduceLT, Nat.reduceLeDiff, Nat.reduceEqDiff, Nat.reduceDiv, Nat.reduceMod, Nat.reducePow, Nat.reduceBEq, Nat.reduceBNe, Int.reduceLT, Int.reduceLE, Int.reduceGT, Int.reduceGE, Int.reduceBEq, Int.reduceBNe, Int.reduceToNat, Int.reduceAdd, Int.reduceSub, Int.reduceMul, Int.reduceEq, Int.reduceNeg, reduceCtorEq, decide_true, decide_false, Bool.false_eq_true, ty24]
    rfl
  · simp only [go_sem, eq_self, reduceIte, Nat.reduceAdd, Nat.reduceMul, Nat.reduceSub, Nat.reduceLT, Nat.reduceLeDiff, Nat.reduceEqDiff, Nat.reduceDiv, Nat.reduceMod, Nat.reducePow, Nat.reduceBEq, Nat.reduceBNe, Int.reduceLT, Int.reduceLE, Int.reduceGT, Int.reduceGE, Int.reduceBEq, Int.reduceBNe, Int.reduceToNat, Int.reduceAdd, Int.reduceSub, Int.reduceMul, Int.reduceEq, Int.reduceNeg, reduceCtorEq, decide_true, decide_false, Bool.false_eq_true]
end Eng
