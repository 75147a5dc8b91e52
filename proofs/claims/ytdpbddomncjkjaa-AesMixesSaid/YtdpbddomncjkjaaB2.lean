/- Contracts of the program's functions, and laws over them. There is no further condition. -/
import Derived.Test.YtdpbddomncjkjaaBB
import Derived.Test.YtdpbddomncjkjaaAM
import Derived.Test.YtdpbddomncjkjaaND
set_option linter.unusedVariables false
set_option linter.unusedSimpArgs false
set_option exponentiation.threshold 2000
namespace Eng
open Go Go.Proofs
set_option linter.unusedSimpArgs false
set_option linter.unusedVariables false
-- TY: ty3, ty4, ty5, ty22, ty76, eq22

noncomputable def S25 : List AV → Option Ret := nz (sumOf (fun p : BitVec 8 × BitVec 8 => match p with | (a, b) => True) (fun p : BitVec 8 × BitVec 8 => match p with | (a, b) => [.int .u8 (a.toNat : Nat), .int .u8 (b.toNat : Nat)]) (fun p : BitVec 8 × BitVec 8 => match p with | (a, b) => ⟨.int .u8 ((prod a b).toNat : Nat), none⟩))
theorem S25_eq (a : BitVec 8) (b : BitVec 8)  : S25 [.int .u8 (a.toNat : Nat), .int .u8 (b.toNat : Nat)] = some ⟨.int .u8 ((prod a b).toNat : Nat), none⟩ :=
  sumOf_eq (dom := (fun p : BitVec 8 × BitVec 8 => match p with | (a, b) => True)) (enc := (fun p : BitVec 8 × BitVec 8 => match p with | (a, b) => [.int .u8 (a.toNat : Nat), .int .u8 (b.toNat : Nat)])) (out := (fun p : BitVec 8 × BitVec 8 => match p with | (a, b) => ⟨.int .u8 ((prod a b).toNat : Nat), none⟩)) (a, b) trivial (fun y _ e => by
    obtain ⟨y0, y1⟩ := y
    simp only [List.cons.injEq, AV.agg.injEq, AV.int.injEq, AV.slc.injEq, AV.bool.injEq, AV.str.injEq, ints_injEq, dig_injEq,  Int.ofNat_inj, BitVec.toNat_inj, true_and, and_true] at e
    first | with_reducible rfl | simp only [e] | rfl)
theorem S25_inv {args : List AV} {r : Ret} (h : sumOf (fun p : BitVec 8 × BitVec 8 => match p with | (a, b) => True) (fun p : BitVec 8 × BitVec 8 => match p with | (a, b) => [.int .u8 (a.toNat : Nat), .int .u8 (b.toNat : Nat)]) (fun p : BitVec 8 × BitVec 8 => match p with | (a, b) => ⟨.int .u8 ((prod a b).toNat : Nat), none⟩) args = some r) : ∃ (a : BitVec 8) (b : BitVec 8), (True) ∧ args = [.int .u8 (a.toNat : Nat), .int .u8 (b.toNat : Nat)] ∧ r = ⟨.int .u8 ((prod a b).toNat : Nat), none⟩ := by
  obtain ⟨x, h1, h2, h3⟩ := sumOf_inv h
  obtain ⟨a, b⟩ := x
  exact ⟨a, b, h1, h2.symm, h3⟩


def St25 (a b : BitVec 8) (i : Nat) : AState := { nt := 28, env := [(0, .int .u8 ((xtn a i).toNat : Nat)), (1, .int .u8 (b.toNat : Nat)), (5, .int .u8 ((prodN a b i).toNat : Nat)), (7, .int .i64 i)], mem := [], next := 20 }

theorem one_bv : (1 : Int) = (((1#8).toNat : Nat) : Int) := rfl
theorem c27_bv : (27 : Int) = (((27#8).toNat : Nat) : Int) := rfl
theorem and_one8 (v : BitVec 8) : andZ .u8 (v.toNat : Int) 1 = ((v &&& 1#8).toNat : Int) := andZ_u8_bv v 1#8
theorem and_278 (v : BitVec 8) : andZ .u8 27 (v.toNat : Int) = ((27#8 &&& v).toNat : Int) := andZ_u8_bv 27#8 v
theorem shl_one8 (v : BitVec 8) : shlZ .u8 (v.toNat : Int) 1 = ((v <<< 1).toNat : Int) := shlZ_u8_bv v 1 (by decide)
theorem shr_seven8 (v : BitVec 8) : shrZ .u8 (v.toNat : Int) 7 = ((v >>> 7).toNat : Int) := shrZ_u8_bv v 7 (by decide)

set_option maxRecDepth 100000 in
theorem snd25 : SndE Try.prog NoG 25 S25 := by
  refine snd_nz (snd_by [] [] Try.func25 (by kernel_rfl) lite25 nt25 rs25 trivial trivial (fun hT args r h => ?_))
  obtain ⟨a, b, _, rfl, rfl⟩ := S25_inv h
  clear h
  have hM := hM0
  refine ⟨Nat.le_of_ble_eq_true rfl, fun F => ?_⟩
  unfold L25
  refine Lwp.seq (Lwp.regI hT ?_)
  simp only [L25r0, go_sem, eq_self, reduceIte, Nat.reduceAdd, Nat.reduceMul, Nat.reduceSub, Nat.reduceLT, Nat.reduceLeDiff, Nat.reduceEqDiff, Nat.reduceDiv, Nat.reduceMod, Nat.reducePow, Nat.reduceBEq, Nat.reduceBNe, Int.reduceLT, Int.reduceLE, Int.reduceGT, Int.reduceGE, Int.reduceBEq, Int.reduceBNe, Int.reduceToNat, Int.reduceAdd, Int.reduceSub, Int.reduceMul, Int.reduceEq, Int.reduceNeg, reduceCtorEq, decide_true, decide_false, Bool.false_eq_true, ty3, ty4, ty5, ty22, ty76, eq22]
  refine Lwp.seq (Lwp.regI hT ?_)
  simp only [L25r1, go_sem, eq_self, reduceIte, Nat.reduceAdd, Nat.reduceMul, Nat.reduceSub, Nat.reduceLT, Nat.reduceLeDiff, Nat.reduceEqDiff, Nat.reduceDiv, Nat.reduceMod, Nat.reducePow, Nat.reduceBEq, Nat.reduceBNe, Int.reduceLT, Int.reduceLE, Int.reduceGT, Int.reduceGE, Int.reduceBEq, Int.reduceBNe, Int.reduceToNat, Int.reduceAdd, Int.reduceSub, Int.reduceMul, Int.reduceEq, Int.reduceNeg, reduceCtorEq, decide_true, decide_false, Bool.false_eq_true, ty3, ty4, ty5, ty22, ty76, eq22]
  refine Lwp.seq ?_
  refine Lwp.seq (Lwp.regI hT ?_)
  simp only [L25r2, go_sem, eq_self, reduceIte, Nat.reduceAdd, Nat.reduceMul, Nat.reduceSub, Nat.reduceLT, Nat.reduceLeDiff, Nat.reduceEqDiff, Nat.reduceDiv, Nat.reduceMod, Nat.reducePow, Nat.reduceBEq, Nat.reduceBNe, Int.reduceLT, Int.reduceLE, Int.reduceGT, Int.reduceGE, Int.reduceBEq, Int.reduceBNe, Int.reduceToNat, Int.reduceAdd, Int.reduceSub, Int.reduceMul, Int.reduceEq, Int.reduceNeg, reduceCtorEq, decide_true, decide_false, Bool.false_eq_true, ty3, ty4, ty5, ty22, ty76, eq22]
  refine Lwp.block (Lwp.range (St25 a b) 8 ?_ (fun i hi => ?_) ?_)
  · refine weak_of rfl ?_ ?_ ?_
    · (simp only [go_sem, eq_self, reduceIte, Nat.reduceAdd, Nat.reduceMul, Nat.reduceSub, Nat.reduceLT, Nat.reduceLeDiff, Nat.reduceEqDiff, Nat.reduceDiv, Nat.reduceMod, Nat.reducePow, Nat.reduceBEq, Nat.reduceBNe, Int.reduceLT, Int.reduceLE, Int.reduceGT, Int.reduceGE, Int.reduceBEq, Int.reduceBNe, Int.reduceToNat, Int.reduceAdd, Int.reduceSub, Int.reduceMul, Int.reduceEq, Int.reduceNeg, reduceCtorEq, decide_true, decide_false, Bool.false_eq_true, St25, xtn, prodN]; try rfl)
    · (simp only [go_sem, eq_self, reduceIte, Nat.reduceAdd, Nat.reduceMul, Nat.reduceSub, Nat.reduceLT, Nat.reduceLeDiff, Nat.reduceEqDiff, Nat.reduceDiv, Nat.reduceMod, Nat.reducePow, Nat.reduceBEq, Nat.reduceBNe, Int.reduceLT, Int.reduceLE, Int.reduceGT, Int.reduceGE, Int.reduceBEq, Int.reduceBNe, Int.reduceToNat, Int.reduceAdd, Int.reduceSub, Int.reduceMul, Int.reduceEq, Int.reduceNeg, reduceCtorEq, decide_true, decide_false, Bool.false_eq_true, St25, xtn, prodN]; try rfl)
    · (simp only [go_sem, eq_self, reduceIte, Nat.reduceAdd, Nat.reduceMul, Nat.reduceSub, Nat.reduceLT, Nat.reduceLeDiff, Nat.reduceEqDiff, Nat.reduceDiv, Nat.reduceMod, Nat.reducePow, Nat.reduceBEq, Nat.reduceBNe, Int.reduceLT, Int.reduceLE, Int.reduceGT, Int.reduceGE, Int.reduceBEq, Int.reduceBNe, Int.reduceToNat, Int.reduceAdd, Int.reduceSub, Int.reduceMul, Int.reduceEq, Int.reduceNeg, reduceCtorEq, decide_true, decide_false, Bool.false_eq_true, St25, xtn, prodN]; try rfl)
  · have h1 : (i : Int) < 8 := by omega
    have h2 : ¬ (i : Int) < 0 := by omega
    have h4 := wrap_succ hi (by decide)
    have e1 := shrZ_u8_bv b i hi
    unfold St25
    refine Lwp.seq (Lwp.regI hT ?_)
    simp only [L25r3, go_sem, eq_self, reduceIte, Nat.reduceAdd, Nat.reduceMul, Nat.reduceSub, Nat.reduceLT, Nat.reduceLeDiff, Nat.reduceEqDiff, Nat.reduceDiv, Nat.reduceMod, Nat.reducePow, Nat.reduceBEq, Nat.reduceBNe, Int.reduceLT, Int.reduceLE, Int.reduceGT, Int.reduceGE, Int.reduceBEq, Int.reduceBNe, Int.reduceToNat, Int.reduceAdd, Int.reduceSub, Int.reduceMul, Int.reduceEq, Int.reduceNeg, reduceCtorEq, decide_true, decide_false, Bool.false_eq_true, ty3, ty4, ty5, ty22, ty76, eq22, h1]
    refine Lwp.seq (Lwp.cond rfl (fun _ => Lwp.skip ?_) (fun h => by cases h))
    refine Lwp.seq (Lwp.block ?_)
    refine Lwp.seq (Lwp.regI hT ?_)
    simp only [L25r4, go_sem, eq_self, reduceIte, Nat.reduceAdd, Nat.reduceMul, Nat.reduceSub, Nat.reduceLT, Nat.reduceLeDiff, Nat.reduceEqDiff, Nat.reduceDiv, Nat.reduceMod, Nat.reducePow, Nat.reduceBEq, Nat.reduceBNe, Int.reduceLT, Int.reduceLE, Int.reduceGT, Int.reduceGE, Int.reduceBEq, Int.reduceBNe, Int.reduceToNat, Int.reduceAdd, Int.reduceSub, Int.reduceMul, Int.reduceEq, Int.reduceNeg, reduceCtorEq, decide_true, decide_false, Bool.false_eq_true, ty3, ty4, ty5, ty22, ty76, eq22]
    refine Lwp.seq (Lwp.regI hT ?_)
    simp only [L25r5, go_sem, eq_self, reduceIte, Nat.reduceAdd, Nat.reduceMul, Nat.reduceSub, Nat.reduceLT, Nat.reduceLeDiff, Nat.reduceEqDiff, Nat.reduceDiv, Nat.reduceMod, Nat.reducePow, Nat.reduceBEq, Nat.reduceBNe, Int.reduceLT, Int.reduceLE, Int.reduceGT, Int.reduceGE, Int.reduceBEq, Int.reduceBNe, Int.reduceToNat, Int.reduceAdd, Int.reduceSub, Int.reduceMul, Int.reduceEq, Int.reduceNeg, reduceCtorEq, decide_true, decide_false, Bool.false_eq_true, ty3, ty4, ty5, ty22, ty76, eq22, h2, e1, and_one8, negZ_u8_bv, andZ_u8_bv, xorZ_u8_bv]
    refine Lwp.regI hT ?_
    simp only [L25r6, go_sem, eq_self, reduceIte, Nat.reduceAdd, Nat.reduceMul, Nat.reduceSub, Nat.reduceLT, Nat.reduceLeDiff, Nat.reduceEqDiff, Nat.reduceDiv, Nat.reduceMod, Nat.reducePow, Nat.reduceBEq, Nat.reduceBNe, Int.reduceLT, Int.reduceLE, Int.reduceGT, Int.reduceGE, Int.reduceBEq, Int.reduceBNe, Int.reduceToNat, Int.reduceAdd, Int.reduceSub, Int.reduceMul, Int.reduceEq, Int.reduceNeg, reduceCtorEq, decide_true, decide_false, Bool.false_eq_true, ty3, ty4, ty5, ty22, ty76, eq22, shl_one8, shr_seven8, negZ_u8_bv, and_278, xorZ_u8_bv]
    refine Lwp.regI hT ?_
    simp only [L25r7, go_sem, eq_self, reduceIte, Nat.reduceAdd, Nat.reduceMul, Nat.reduceSub, Nat.reduceLT, Nat.reduceLeDiff, Nat.reduceEqDiff, Nat.reduceDiv, Nat.reduceMod, Nat.reducePow, Nat.reduceBEq, Nat.reduceBNe, Int.reduceLT, Int.reduceLE, Int.reduceGT, Int.reduceGE, Int.reduceBEq, Int.reduceBNe, Int.reduceToNat, Int.reduceAdd, Int.reduceSub, Int.reduceMul, Int.reduceEq, Int.reduceNeg, reduceCtorEq, decide_true, decide_false, Bool.false_eq_true, ty3, ty4, ty5, ty22, ty76, eq22, h4]
    refine weak_of rfl ?_ ?_ ?_
    · (simp only [go_sem, eq_self, reduceIte, Nat.reduceAdd, Nat.reduceMul, Nat.reduceSub, Nat.reduceLT, Nat.reduceLeDiff, Nat.reduceEqDiff, Nat.reduceDiv, Nat.reduceMod, Nat.reducePow, Nat.reduceBEq, Nat.reduceBNe, Int.reduceLT, Int.reduceLE, Int.reduceGT, Int.reduceGE, Int.reduceBEq, Int.reduceBNe, Int.reduceToNat, Int.reduceAdd, Int.reduceSub, Int.reduceMul, Int.reduceEq, Int.reduceNeg, reduceCtorEq, decide_true, decide_false, Bool.false_eq_true, xtn, xt, prodN]; try rfl)
    · (simp only [go_sem, eq_self, reduceIte, Nat.reduceAdd, Nat.reduceMul, Nat.reduceSub, Nat.reduceLT, Nat.reduceLeDiff, Nat.reduceEqDiff, Nat.reduceDiv, Nat.reduceMod, Nat.reducePow, Nat.reduceBEq, Nat.reduceBNe, Int.reduceLT, Int.reduceLE, Int.reduceGT, Int.reduceGE, Int.reduceBEq, Int.reduceBNe, Int.reduceToNat, Int.reduceAdd, Int.reduceSub, Int.reduceMul, Int.reduceEq, Int.reduceNeg, reduceCtorEq, decide_true, decide_false, Bool.false_eq_true, xtn, xt, prodN]; try rfl)
    · (simp only [go_sem, eq_self, reduceIte, Nat.reduceAdd, Nat.reduceMul, Nat.reduceSub, Nat.reduceLT, Nat.reduceLeDiff, Nat.reduceEqDiff, Nat.reduceDiv, Nat.reduceMod, Nat.reducePow, Nat.reduceBEq, Nat.reduceBNe, Int.reduceLT, Int.reduceLE, Int.reduceGT, Int.reduceGE, Int.reduceBEq, Int.reduceBNe, Int.reduceToNat, Int.reduceAdd, Int.reduceSub, Int.reduceMul, Int.reduceEq, Int.reduceNeg, reduceCtorEq, decide_true, decide_false, Bool.false_eq_true, xtn, xt, prodN]; try rfl)
  · unfold St25
    refine Lwp.seq (Lwp.regI hT ?_)
    simp only [L25r3, go_sem, eq_self, reduceIte, Nat.reduceAdd, Nat.reduceMul, Nat.reduceSub, Nat.reduceLT, Nat.reduceLeDiff, Nat.reduceEqDiff, Nat.reduceDiv, Nat.reduceMod, Nat.reducePow, Nat.reduceBEq, Nat.reduceBNe, Int.reduceLT, Int.reduceLE, Int.reduceGT, Int.reduceGE, Int.reduceBEq, Int.reduceBNe, Int.reduceToNat, Int.reduceAdd, Int.reduceSub, Int.reduceMul, Int.reduceEq, Int.reduceNeg, reduceCtorEq, decide_true, decide_false, Bool.false_eq_true, ty3, ty4, ty5, ty22, ty76, eq22]
    refine Lwp.seq (Lwp.cond rfl (fun h => by cases h) (fun _ => Lwp.exit ?_))
    simp only [go_sem, eq_self, reduceIte, Nat.reduceAdd, Nat.reduceMul, Nat.reduceSub, Nat.reduceLT, Nat.reduceLeDiff, Nat.reduceEqDiff, Nat.reduceDiv, Nat.reduceMod, Nat.reducePow, Nat.reduceBEq, Nat.reduceBNe, Int.reduceLT, Int.reduceLE, Int.reduceGT, Int.reduceGE, Int.reduceBEq, Int.reduceBNe, Int.reduceToNat, Int.reduceAdd, Int.reduceSub, Int.reduceMul, Int.reduceEq, Int.reduceNeg, reduceCtorEq, decide_true, decide_false, Bool.false_eq_true]
    refine Lwp.seq (Lwp.regI hT ?_)
    simp only [L25r8, go_sem, eq_self, reduceIte, Nat.reduceAdd, Nat.reduceMul, Nat.reduceSub, Nat.reduceLT, Nat.reduceLeDiff, Nat.reduceEqDiff, Nat.reduceDiv, Nat.reduceMod, Nat.reducePow, Nat.reduceBEq, Nat.reduceBNe, Int.reduceLT, Int.reduceLE, Int.reduceGT, Int.reduceGE, Int.reduceBEq, Int.reduceBNe, Int.reduceToNat, Int.reduceAdd, Int.reduceSub, Int.reduceMul, Int.reduceEq, Int.reduceNeg, reduceCtorEq, decide_true, decide_false, Bool.false_eq_true, ty3, ty4, ty5, ty22, ty76, eq22]
    refine Lwp.ret (post_val (v := .int .u8 ((prod a b).toNat : Nat)) ?_ ?_)
    · simp only [go_sem, eq_self, reduceIte, Nat.reduceAdd, Nat.reduceMul, Nat.reduceSub, Nat.reduceLT, Nat.reduceLeDiff, Nat.reduceEqDiff, Nat.reduceDiv, Nat.reduceMod, Nat.reducePow, Nat.reduceBEq, Nat.reduceBNe, Int.reduceLT, Int.reduceLE, Int.reduceGT, Int.reduceGE, Int.reduceBEq, Int.reduceBNe, Int.reduceToNat, Int.reduceAdd, Int.reduceSub, Int.reduceMul, Int.reduceEq, Int.reduceNeg, reduceCtorEq, decide_true, decide_false, Bool.false_eq_true, prod]
    · simp only [go_sem, eq_self, reduceIte, Nat.reduceAdd, Nat.reduceMul, Nat.reduceSub, Nat.reduceLT, Nat.reduceLeDiff, Nat.reduceEqDiff, Nat.reduceDiv, Nat.reduceMod, Nat.reducePow, Nat.reduceBEq, Nat.reduceBNe, Int.reduceLT, Int.reduceLE, Int.reduceGT, Int.reduceGE, Int.reduceBEq, Int.reduceBNe, Int.reduceToNat, Int.reduceAdd, Int.reduceSub, Int.reduceMul, Int.reduceEq, Int.reduceNeg, reduceCtorEq, decide_true, decide_false, Bool.false_eq_true]
end Eng
