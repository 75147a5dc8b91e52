/- Contracts of the program's functions, and laws over them. There is no further condition. -/
import Derived.Test.YtmpebojnnlghiaaDoorU1qe
import Derived.Test.YtmpebojnnlghiaaDoorU0qe
import Derived.Test.YtmpebojnnlghiaaDoorU2qe
import Derived.Test.YtmpebojnnlghiaaDoorED
import Derived.Test.YtmpebojnnlghiaaDoorRows
import Derived.LaidMore
import Derived.OpenShut
import Derived.Stop.Joined
set_option linter.unusedVariables false
set_option linter.unusedSimpArgs false
set_option exponentiation.threshold 2000
namespace Eng
open Go Go.Proofs
set_option linter.unusedSimpArgs false
set_option linter.unusedVariables false
/-- What From answers. -/
def fromL (b : List Int) : List Int := if b.length = 48 then lim6 (bev b) else List.replicate 6 0
def fromE (b : List Int) : AV := if b.length < 48 then .iface 43 (.int .i64 6) else if b.length > 48 then .iface 43 (.int .i64 8) else .nili

noncomputable def S56 : List AV → Option Ret := nz (sumOf (fun p : List Int => match p with | b => (U8L b) ∧ (b.length ≤ 9223372036854775807)) (fun p : List Int => match p with | b => [.slc b.length (ints .u8 b)]) (fun p : List Int => match p with | b => ⟨.tup [.agg (ints .u64 (fromL b)), fromE b], none⟩))
theorem S56_eq (b : List Int) (h0 : U8L b) (h1 : b.length ≤ 9223372036854775807) : S56 [.slc b.length (ints .u8 b)] = some ⟨.tup [.agg (ints .u64 (fromL b)), fromE b], none⟩ :=
  sumOf_eq (dom := (fun p : List Int => match p with | b => (U8L b) ∧ (b.length ≤ 9223372036854775807))) (enc := (fun p : List Int => match p with | b => [.slc b.length (ints .u8 b)])) (out := (fun p : List Int => match p with | b => ⟨.tup [.agg (ints .u64 (fromL b)), fromE b], none⟩)) b ⟨h0, h1⟩ (fun y _ e => by
    simp only [List.cons.injEq, AV.agg.injEq, AV.int.injEq, AV.slc.injEq, AV.iptr.injEq, AV.bool.injEq, AV.str.injEq, ints_injEq, dig_injEq,  Int.ofNat_inj, BitVec.toNat_inj, true_and, and_true] at e
    first | with_reducible rfl | simp only [e] | rfl)
theorem S56_inv {args : List AV} {r : Ret} (h : sumOf (fun p : List Int => match p with | b => (U8L b) ∧ (b.length ≤ 9223372036854775807)) (fun p : List Int => match p with | b => [.slc b.length (ints .u8 b)]) (fun p : List Int => match p with | b => ⟨.tup [.agg (ints .u64 (fromL b)), fromE b], none⟩) args = some r) : ∃ (b : List Int), ((U8L b) ∧ (b.length ≤ 9223372036854775807)) ∧ args = [.slc b.length (ints .u8 b)] ∧ r = ⟨.tup [.agg (ints .u64 (fromL b)), fromE b], none⟩ := by
  obtain ⟨x, h1, h2, h3⟩ := sumOf_inv h
  exact ⟨x, h1, h2.symm, h3⟩


def St24 (b : List Int) (i : Nat) : AState := { nt := 39, env := [(0, .slc 48 (ints .u8 b)), (2, .own 0 0), (4, .own 2 0), (18, .int .i64 i)], mem := [(0, ints .u64 (List.replicate 6 0)), (2, ints .u64 (lim6 (bev b % 256 ^ i)))], next := 20 }

set_option maxRecDepth 100000 in
theorem snd56 : SndE Tryd.prog NoG 56 S56 := by
  refine snd_nz (snd_by [] [] Tryd.func56 (by kernel_rfl) lite56 nt56 rs56 trivial trivial (fun hT args r h => ?_))
  obtain ⟨b, ⟨hd0, hd1⟩, rfl, rfl⟩ := S56_inv h
  clear h
  have hM := hM0
  refine ⟨Nat.le_of_ble_eq_true rfl, fun F => ?_⟩
  unfold L56
  have rl : (List.replicate 6 (0 : Int)).length = 6 := rfl
  refine Lwp.seq (Lwp.regI hT ?_)
  simp only [L56r0, go_sem, List.isEmpty_nil, isC, eq_self, reduceIte, Nat.reduceAdd, Nat.reduceMul, Nat.reduceSub, Nat.reduceLT, Nat.reduceLeDiff, Nat.reduceEqDiff, Nat.reduceDiv, Nat.reduceMod, Nat.reducePow, Nat.reduceBEq, Nat.reduceBNe, Int.reduceLT, Int.reduceLE, Int.reduceGT, Int.reduceGE, Int.reduceBEq, Int.reduceBNe, Int.reduceToNat, Int.reduceAdd, Int.reduceSub, Int.reduceMul, Int.reduceEq, Int.reduceNeg, reduceCtorEq, decide_true, decide_false, Bool.false_eq_true, ty3, ty4, ty5, ty22, ty24, ty38, ty39, ty40, ty43, ty27, ty28, eq24]
  refine Lwp.seq (Lwp.regI hT ?_)
  simp only [L56r1, go_sem, List.isEmpty_nil, isC, eq_self, reduceIte, Nat.reduceAdd, Nat.reduceMul, Nat.reduceSub, Nat.reduceLT, Nat.reduceLeDiff, Nat.reduceEqDiff, Nat.reduceDiv, Nat.reduceMod, Nat.reducePow, Nat.reduceBEq, Nat.reduceBNe, Int.reduceLT, Int.reduceLE, Int.reduceGT, Int.reduceGE, Int.reduceBEq, Int.reduceBNe, Int.reduceToNat, Int.reduceAdd, Int.reduceSub, Int.reduceMul, Int.reduceEq, Int.reduceNeg, reduceCtorEq, decide_true, decide_false, Bool.false_eq_true, ty3, ty4, ty5, ty22, ty24, ty38, ty39, ty40, ty43, ty27, ty28, eq24]
  refine Lwp.seq (Lwp.block ?_)
  by_cases h1 : b.length < 48
  · have a1 : ((b.length : Nat) : Int) < 48 := by omega
    have e1 : fromL b = List.replicate 6 0 := by unfold fromL; rw [if_neg (by omega)]
    have e2 : fromE b = .iface 43 (.int .i64 6) := by unfold fromE; rw [if_pos h1]
    refine Lwp.seq (Lwp.regI hT ?_)
    simp only [L56r2, go_sem, List.isEmpty_nil, isC, eq_self, reduceIte, Nat.reduceAdd, Nat.reduceMul, Nat.reduceSub, Nat.reduceLT, Nat.reduceLeDiff, Nat.reduceEqDiff, Nat.reduceDiv, Nat.reduceMod, Nat.reducePow, Nat.reduceBEq, Nat.reduceBNe, Int.reduceLT, Int.reduceLE, Int.reduceGT, Int.reduceGE, Int.reduceBEq, Int.reduceBNe, Int.reduceToNat, Int.reduceAdd, Int.reduceSub, Int.reduceMul, Int.reduceEq, Int.reduceNeg, reduceCtorEq, decide_true, decide_false, Bool.false_eq_true, ty3, ty4, ty5, ty22, ty24, ty38, ty39, ty40, ty43, ty27, ty28, eq24, a1]
    refine Lwp.cond rfl (fun _ => ?_) (fun h => by cases h)
    refine Lwp.seq (Lwp.regI hT ?_)
    simp only [L56r3, go_sem, List.isEmpty_nil, isC, eq_self, reduceIte, Nat.reduceAdd, Nat.reduceMul, Nat.reduceSub, Nat.reduceLT, Nat.reduceLeDiff, Nat.reduceEqDiff, Nat.reduceDiv, Nat.reduceMod, Nat.reducePow, Nat.reduceBEq, Nat.reduceBNe, Int.reduceLT, Int.reduceLE, Int.reduceGT, Int.reduceGE, Int.reduceBEq, Int.reduceBNe, Int.reduceToNat, Int.reduceAdd, Int.reduceSub, Int.reduceMul, Int.reduceEq, Int.reduceNeg, reduceCtorEq, decide_true, decide_false, Bool.false_eq_true, ty3, ty4, ty5, ty22, ty24, ty38, ty39, ty40, ty43, ty27, ty28, eq24, rl]
    refine Lwp.ret (post_val (v := .tup [.agg (ints .u64 (fromL b)), fromE b]) ?_ ?_)
    · simp only [go_sem, List.isEmpty_nil, isC, eq_self, reduceIte, Nat.reduceAdd, Nat.reduceMul, Nat.reduceSub, Nat.reduceLT, Nat.reduceLeDiff, Nat.reduceEqDiff, Nat.reduceDiv, Nat.reduceMod, Nat.reducePow, Nat.reduceBEq, Nat.reduceBNe, Int.reduceLT, Int.reduceLE, Int.reduceGT, Int.reduceGE, Int.reduceBEq, Int.reduceBNe, Int.reduceToNat, Int.reduceAdd, Int.reduceSub, Int.reduceMul, Int.reduceEq, Int.reduceNeg, reduceCtorEq, decide_true, decide_false, Bool.false_eq_true, ty24, e1, e2, rl]
    · simp only [go_sem, List.isEmpty_nil, isC, eq_self, reduceIte, Nat.reduceAdd, Nat.reduceMul, Nat.reduceSub, Nat.reduceLT, Nat.reduceLeDiff, Nat.reduceEqDiff, Nat.reduceDiv, Nat.reduceMod, Nat.reducePow, Nat.reduceBEq, Nat.reduceBNe, Int.reduceLT, Int.reduceLE, Int.reduceGT, Int.reduceGE, Int.reduceBEq, Int.reduceBNe, Int.reduceToNat, Int.reduceAdd, Int.reduceSub, Int.reduceMul, Int.reduceEq, Int.reduceNeg, reduceCtorEq, decide_true, decide_false, Bool.false_eq_true, e1, e2]
  · have a1 : ¬ ((b.length : Nat) : Int) < 48 := by omega
    refine Lwp.seq (Lwp.regI hT ?_)
    simp only [L56r2, go_sem, List.isEmpty_nil, isC, eq_self, reduceIte, Nat.reduceAdd, Nat.reduceMul, Nat.reduceSub, Nat.reduceLT, Nat.reduceLeDiff, Nat.reduceEqDiff, Nat.reduceDiv, Nat.reduceMod, Nat.reducePow, Nat.reduceBEq, Nat.reduceBNe, Int.reduceLT, Int.reduceLE, Int.reduceGT, Int.reduceGE, Int.reduceBEq, Int.reduceBNe, Int.reduceToNat, Int.reduceAdd, Int.reduceSub, Int.reduceMul, Int.reduceEq, Int.reduceNeg, reduceCtorEq, decide_true, decide_false, Bool.false_eq_true, ty3, ty4, ty5, ty22, ty24, ty38, ty39, ty40, ty43, ty27, ty28, eq24, a1]
    refine Lwp.cond rfl (fun h => by cases h) (fun _ => ?_)
    by_cases h2 : b.length > 48
    · have a2 : ((b.length : Nat) : Int) > 48 := by omega
      have e1 : fromL b = List.replicate 6 0 := by unfold fromL; rw [if_neg (by omega)]
      have e2 : fromE b = .iface 43 (.int .i64 8) := by unfold fromE; rw [if_neg h1, if_pos h2]
      refine Lwp.seq (Lwp.regI hT ?_)
      simp only [L56r4, go_sem, List.isEmpty_nil, isC, eq_self, reduceIte, Nat.reduceAdd, Nat.reduceMul, Nat.reduceSub, Nat.reduceLT, Nat.reduceLeDiff, Nat.reduceEqDiff, Nat.reduceDiv, Nat.reduceMod, Nat.reducePow, Nat.reduceBEq, Nat.reduceBNe, Int.reduceLT, Int.reduceLE, Int.reduceGT, Int.reduceGE, Int.reduceBEq, Int.reduceBNe, Int.reduceToNat, Int.reduceAdd, Int.reduceSub, Int.reduceMul, Int.reduceEq, Int.reduceNeg, reduceCtorEq, decide_true, decide_false, Bool.false_eq_true, ty3, ty4, ty5, ty22, ty24, ty38, ty39, ty40, ty43, ty27, ty28, eq24, a2]
      refine Lwp.cond rfl (fun _ => ?_) (fun h => by cases h)
      refine Lwp.seq (Lwp.regI hT ?_)
      simp only [L56r5, go_sem, List.isEmpty_nil, isC, eq_self, reduceIte, Nat.reduceAdd, Nat.reduceMul, Nat.reduceSub, Nat.reduceLT, Nat.reduceLeDiff, Nat.reduceEqDiff, Nat.reduceDiv, Nat.reduceMod, Nat.reducePow, Nat.reduceBEq, Nat.reduceBNe, Int.reduceLT, Int.reduceLE, Int.reduceGT, Int.reduceGE, Int.reduceBEq, Int.reduceBNe, Int.reduceToNat, Int.reduceAdd, Int.reduceSub, Int.reduceMul, Int.reduceEq, Int.reduceNeg, reduceCtorEq, decide_true, decide_false, Bool.false_eq_true, ty3, ty4, ty5, ty22, ty24, ty38, ty39, ty40, ty43, ty27, ty28, eq24, rl]
      refine Lwp.ret (post_val (v := .tup [.agg (ints .u64 (fromL b)), fromE b]) ?_ ?_)
      · simp only [go_sem, List.isEmpty_nil, isC, eq_self, reduceIte, Nat.reduceAdd, Nat.reduceMul, Nat.reduceSub, Nat.reduceLT, Nat.reduceLeDiff, Nat.reduceEqDiff, Nat.reduceDiv, Nat.reduceMod, Nat.reducePow, Nat.reduceBEq, Nat.reduceBNe, Int.reduceLT, Int.reduceLE, Int.reduceGT, Int.reduceGE, Int.reduceBEq, Int.reduceBNe, Int.reduceToNat, Int.reduceAdd, Int.reduceSub, Int.reduceMul, Int.reduceEq, Int.reduceNeg, reduceCtorEq, decide_true, decide_false, Bool.false_eq_true, ty24, e1, e2, rl]
      · simp only [go_sem, List.isEmpty_nil, isC, eq_self, reduceIte, Nat.reduceAdd, Nat.reduceMul, Nat.reduceSub, Nat.reduceLT, Nat.reduceLeDiff, Nat.reduceEqDiff, Nat.reduceDiv, Nat.reduceMod, Nat.reducePow, Nat.reduceBEq, Nat.reduceBNe, Int.reduceLT, Int.reduceLE, Int.reduceGT, Int.reduceGE, Int.reduceBEq, Int.reduceBNe, Int.reduceToNat, Int.reduceAdd, Int.reduceSub, Int.reduceMul, Int.reduceEq, Int.reduceNeg, reduceCtorEq, decide_true, decide_false, Bool.false_eq_true, e1, e2]
    · have hl : b.length = 48 := by omega
      have a2 : ¬ ((b.length : Nat) : Int) > 48 := by omega
      have e1 : fromL b = lim6 (bev b) := by unfold fromL; rw [if_pos hl]
      have e2 : fromE b = .nili := by unfold fromE; rw [if_neg h1, if_neg h2]
      refine Lwp.seq (Lwp.regI hT ?_)
      simp only [L56r4, go_sem, List.isEmpty_nil, isC, eq_self, reduceIte, Nat.reduceAdd, Nat.reduceMul, Nat.reduceSub, Nat.reduceLT, Nat.reduceLeDiff, Nat.reduceEqDiff, Nat.reduceDiv, Nat.reduceMod, Nat.reducePow, Nat.reduceBEq, Nat.reduceBNe, Int.reduceLT, Int.reduceLE, Int.reduceGT, Int.reduceGE, Int.reduceBEq, Int.reduceBNe, Int.reduceToNat, Int.reduceAdd, Int.reduceSub, Int.reduceMul, Int.reduceEq, Int.reduceNeg, reduceCtorEq, decide_true, decide_false, Bool.false_eq_true, ty3, ty4, ty5, ty22, ty24, ty38, ty39, ty40, ty43, ty27, ty28, eq24, a2]
      refine Lwp.cond rfl (fun h => by cases h) (fun _ => Lwp.skip ?_)
      simp only [go_sem, List.isEmpty_nil, isC, eq_self, reduceIte, Nat.reduceAdd, Nat.reduceMul, Nat.reduceSub, Nat.reduceLT, Nat.reduceLeDiff, Nat.reduceEqDiff, Nat.reduceDiv, Nat.reduceMod, Nat.reducePow, Nat.reduceBEq, Nat.reduceBNe, Int.reduceLT, Int.reduceLE, Int.reduceGT, Int.reduceGE, Int.reduceBEq, Int.reduceBNe, Int.reduceToNat, Int.reduceAdd, Int.reduceSub, Int.reduceMul, Int.reduceEq, Int.reduceNeg, reduceCtorEq, decide_true, decide_false, Bool.false_eq_true]
      refine Lwp.seq ?_
      refine Lwp.seq (Lwp.regI hT ?_)
      simp only [L56r6, go_sem, List.isEmpty_nil, isC, eq_self, reduceIte, Nat.reduceAdd, Nat.reduceMul, Nat.reduceSub, Nat.reduceLT, Nat.reduceLeDiff, Nat.reduceEqDiff, Nat.reduceDiv, Nat.reduceMod, Nat.reducePow, Nat.reduceBEq, Nat.reduceBNe, Int.reduceLT, Int.reduceLE, Int.reduceGT, Int.reduceGE, Int.reduceBEq, Int.reduceBNe, Int.reduceToNat, Int.reduceAdd, Int.reduceSub, Int.reduceMul, Int.reduceEq, Int.reduceNeg, reduceCtorEq, decide_true, decide_false, Bool.false_eq_true, ty3, ty4, ty5, ty22, ty24, ty38, ty39, ty40, ty43, ty27, ty28, eq24]
      refine Lwp.block (Lwp.range (St24 b) 48 ?_ (fun i hi => ?_) ?_)
      · refine weak_of rfl ?_ ?_ ?_
        · (simp only [go_sem, List.isEmpty_nil, isC, eq_self, reduceIte, Nat.reduceAdd, Nat.reduceMul, Nat.reduceSub, Nat.reduceLT, Nat.reduceLeDiff, Nat.reduceEqDiff, Nat.reduceDiv, Nat.reduceMod, Nat.reducePow, Nat.reduceBEq, Nat.reduceBNe, Int.reduceLT, Int.reduceLE, Int.reduceGT, Int.reduceGE, Int.reduceBEq, Int.reduceBNe, Int.reduceToNat, Int.reduceAdd, Int.reduceSub, Int.reduceMul, Int.reduceEq, Int.reduceNeg, reduceCtorEq, decide_true, decide_false, Bool.false_eq_true, St24, hl, Nat.pow_zero, Nat.mod_one, lim6_zero]; try rfl)
        · (simp only [go_sem, List.isEmpty_nil, isC, eq_self, reduceIte, Nat.reduceAdd, Nat.reduceMul, Nat.reduceSub, Nat.reduceLT, Nat.reduceLeDiff, Nat.reduceEqDiff, Nat.reduceDiv, Nat.reduceMod, Nat.reducePow, Nat.reduceBEq, Nat.reduceBNe, Int.reduceLT, Int.reduceLE, Int.reduceGT, Int.reduceGE, Int.reduceBEq, Int.reduceBNe, Int.reduceToNat, Int.reduceAdd, Int.reduceSub, Int.reduceMul, Int.reduceEq, Int.reduceNeg, reduceCtorEq, decide_true, decide_false, Bool.false_eq_true, St24, hl, Nat.pow_zero, Nat.mod_one, lim6_zero]; try rfl)
        · (simp only [go_sem, List.isEmpty_nil, isC, eq_self, reduceIte, Nat.reduceAdd, Nat.reduceMul, Nat.reduceSub, Nat.reduceLT, Nat.reduceLeDiff, Nat.reduceEqDiff, Nat.reduceDiv, Nat.reduceMod, Nat.reducePow, Nat.reduceBEq, Nat.reduceBNe, Int.reduceLT, Int.reduceLE, Int.reduceGT, Int.reduceGE, Int.reduceBEq, Int.reduceBNe, Int.reduceToNat, Int.reduceAdd, Int.reduceSub, Int.reduceMul, Int.reduceEq, Int.reduceNeg, reduceCtorEq, decide_true, decide_false, Bool.false_eq_true, St24, hl, Nat.pow_zero, Nat.mod_one, lim6_zero]; try rfl)
      · have h3 : (i : Int) < 48 := by omega
        have h4 := wrap_succ hi (by decide)
        have c1 : (i : Int).tdiv 8 = ((i / 8 : Nat) : Int) := by rw [Int.tdiv_eq_ediv_of_nonneg (by omega)]; omega
        have c2 : IntKind.i64.wrap ((i / 8 : Nat) : Int) = ((i / 8 : Nat) : Int) := wrap_i64 (by omega) (by omega)
        have c3 : (0 : Int) ≤ ((i / 8 : Nat) : Int) := by omega
        have c4 : ((i / 8 : Nat) : Int) < 6 := by omega
        have c5 : i / 8 < 6 := by omega
        have c6 : i / 8 ≤ 5 := by omega
        have c7 : IntKind.i64.wrap (47 - (i : Int)) = ((47 - i : Nat) : Int) := by rw [wrap_i64 (by omega) (by omega)]; omega
        have c8 : (0 : Int) ≤ ((47 - i : Nat) : Int) := by omega
        have c9 : ((47 - i : Nat) : Int) < 48 := by omega
        have c10 : 47 - i < 48 := by omega
        have c11 : (i : Int).tmod 8 = ((i % 8 : Nat) : Int) := by rw [Int.tmod_eq_emod_of_nonneg (by omega)]; omega
        have c12 : IntKind.i64.wrap (8 * ((i % 8 : Nat) : Int)) = ((8 * (i % 8) : Nat) : Int) := by rw [wrap_i64 (by omega) (by omega)]; omega
        have c13 : ¬ ((8 * (i % 8) : Nat) : Int) < 0 := by omega
        have f1 := bev_at hd0 (i := i) (by omega)
        rw [hl, show 48 - 1 - i = 47 - i by omega] at f1
        have f2 : IntKind.u64.wrap ((bev b / 256 ^ i % 256 : Nat) : Int) = ((bev b / 256 ^ i % 256 : Nat) : Int) := wrap_u64 (Int.natCast_nonneg _) (by have : bev b / 256 ^ i % 256 < 256 := Nat.mod_lt _ (by decide); omega)
        have f3 := lim6_getD (bev b % 256 ^ i) c5
        have f4 := orZ_add (limb_part_lt (bev b) i) (Nat.mod_lt i (by decide)) (show bev b / 256 ^ i % 256 < 256 from Nat.mod_lt _ (by decide))
        have f5 := lim6_byte (bev b) i
        have f6 := lim6_len (bev b % 256 ^ i)
        unfold St24
        refine Lwp.seq (Lwp.regI hT ?_)
        simp only [L56r7, go_sem, List.isEmpty_nil, isC, eq_self, reduceIte, Nat.reduceAdd, Nat.reduceMul, Nat.reduceSub, Nat.reduceLT, Nat.reduceLeDiff, Nat.reduceEqDiff, Nat.reduceDiv, Nat.reduceMod, Nat.reducePow, Nat.reduceBEq, Nat.reduceBNe, Int.reduceLT, Int.reduceLE, Int.reduceGT, Int.reduceGE, Int.reduceBEq, Int.reduceBNe, Int.reduceToNat, Int.reduceAdd, Int.reduceSub, Int.reduceMul, Int.reduceEq, Int.reduceNeg, reduceCtorEq, decide_true, decide_false, Bool.false_eq_true, ty3, ty4, ty5, ty22, ty24, ty38, ty39, ty40, ty43, ty27, ty28, eq24, h3]
        refine Lwp.seq (Lwp.cond rfl (fun _ => Lwp.skip ?_) (fun h => by cases h))
        simp only [go_sem, List.isEmpty_nil, isC, eq_self, reduceIte, Nat.reduceAdd, Nat.reduceMul, Nat.reduceSub, Nat.reduceLT, Nat.reduceLeDiff, Nat.reduceEqDiff, Nat.reduceDiv, Nat.reduceMod, Nat.reducePow, Nat.reduceBEq, Nat.reduceBNe, Int.reduceLT, Int.reduceLE, Int.reduceGT, Int.reduceGE, Int.reduceBEq, Int.reduceBNe, Int.reduceToNat, Int.reduceAdd, Int.reduceSub, Int.reduceMul, Int.reduceEq, Int.reduceNeg, reduceCtorEq, decide_true, decide_false, Bool.false_eq_true]
        refine Lwp.seq (Lwp.block ?_)
        refine Lwp.seq (Lwp.regI hT ?_)
        simp only [L56r8, go_sem, List.isEmpty_nil, isC, eq_self, reduceIte, Nat.reduceAdd, Nat.reduceMul, Nat.reduceSub, Nat.reduceLT, Nat.reduceLeDiff, Nat.reduceEqDiff, Nat.reduceDiv, Nat.reduceMod, Nat.reducePow, Nat.reduceBEq, Nat.reduceBNe, Int.reduceLT, Int.reduceLE, Int.reduceGT, Int.reduceGE, Int.reduceBEq, Int.reduceBNe, Int.reduceToNat, Int.reduceAdd, Int.reduceSub, Int.reduceMul, Int.reduceEq, Int.reduceNeg, reduceCtorEq, decide_true, decide_false, Bool.false_eq_true, ty3, ty4, ty5, ty22, ty24, ty38, ty39, ty40, ty43, ty27, ty28, eq24]
        generalize bev b / 256 ^ i % 256 = d at *
        generalize bev b % 256 ^ i / 18446744073709551616 ^ (i / 8) % 18446744073709551616 = w at *
        generalize lim6 (bev b % 256 ^ (i + 1)) = l2 at *
        generalize lim6 (bev b % 256 ^ i) = l1 at *
        generalize i / 8 = q at *
        generalize 47 - i = t at *
        generalize 8 * (i % 8) = u at *
        refine Lwp.regD hT hM ?_
        simp only [L56r9, go_sem, List.isEmpty_nil, isC, eq_self, reduceIte, Nat.reduceAdd, Nat.reduceMul, Nat.reduceSub, Nat.reduceLT, Nat.reduceLeDiff, Nat.reduceEqDiff, Nat.reduceDiv, Nat.reduceMod, Nat.reducePow, Nat.reduceBEq, Nat.reduceBNe, Int.reduceLT, Int.reduceLE, Int.reduceGT, Int.reduceGE, Int.reduceBEq, Int.reduceBNe, Int.reduceToNat, Int.reduceAdd, Int.reduceSub, Int.reduceMul, Int.reduceEq, Int.reduceNeg, reduceCtorEq, decide_true, decide_false, Bool.false_eq_true, ty3, ty4, ty5, ty22, ty24, ty38, ty39, ty40, ty43, ty27, ty28, eq24, c1, c2, c3, c4, c5, c6, c7, c8, c9, c10, c11, c12, c13, f1, f2, f3, f4, f6, hl]
        refine Lwp.regI hT ?_
        simp only [L56r10, go_sem, List.isEmpty_nil, isC, eq_self, reduceIte, Nat.reduceAdd, Nat.reduceMul, Nat.reduceSub, Nat.reduceLT, Nat.reduceLeDiff, Nat.reduceEqDiff, Nat.reduceDiv, Nat.reduceMod, Nat.reducePow, Nat.reduceBEq, Nat.reduceBNe, Int.reduceLT, Int.reduceLE, Int.reduceGT, Int.reduceGE, Int.reduceBEq, Int.reduceBNe, Int.reduceToNat, Int.reduceAdd, Int.reduceSub, Int.reduceMul, Int.reduceEq, Int.reduceNeg, reduceCtorEq, decide_true, decide_false, Bool.false_eq_true, ty3, ty4, ty5, ty22, ty24, ty38, ty39, ty40, ty43, ty27, ty28, eq24, h4]
        refine weak_of rfl ?_ ?_ ?_
        · (simp only [go_sem, List.isEmpty_nil, isC, eq_self, reduceIte, Nat.reduceAdd, Nat.reduceMul, Nat.reduceSub, Nat.reduceLT, Nat.reduceLeDiff, Nat.reduceEqDiff, Nat.reduceDiv, Nat.reduceMod, Nat.reducePow, Nat.reduceBEq, Nat.reduceBNe, Int.reduceLT, Int.reduceLE, Int.reduceGT, Int.reduceGE, Int.reduceBEq, Int.reduceBNe, Int.reduceToNat, Int.reduceAdd, Int.reduceSub, Int.reduceMul, Int.reduceEq, Int.reduceNeg, reduceCtorEq, decide_true, decide_false, Bool.false_eq_true, f5]; try rfl)
        · (simp only [go_sem, List.isEmpty_nil, isC, eq_self, reduceIte, Nat.reduceAdd, Nat.reduceMul, Nat.reduceSub, Nat.reduceLT, Nat.reduceLeDiff, Nat.reduceEqDiff, Nat.reduceDiv, Nat.reduceMod, Nat.reducePow, Nat.reduceBEq, Nat.reduceBNe, Int.reduceLT, Int.reduceLE, Int.reduceGT, Int.reduceGE, Int.reduceBEq, Int.reduceBNe, Int.reduceToNat, Int.reduceAdd, Int.reduceSub, Int.reduceMul, Int.reduceEq, Int.reduceNeg, reduceCtorEq, decide_true, decide_false, Bool.false_eq_true, f5]; try rfl)
        · (simp only [go_sem, List.isEmpty_nil, isC, eq_self, reduceIte, Nat.reduceAdd, Nat.reduceMul, Nat.reduceSub, Nat.reduceLT, Nat.reduceLeDiff, Nat.reduceEqDiff, Nat.reduceDiv, Nat.reduceMod, Nat.reducePow, Nat.reduceBEq, Nat.reduceBNe, Int.reduceLT, Int.reduceLE, Int.reduceGT, Int.reduceGE, Int.reduceBEq, Int.reduceBNe, Int.reduceToNat, Int.reduceAdd, Int.reduceSub, Int.reduceMul, Int.reduceEq, Int.reduceNeg, reduceCtorEq, decide_true, decide_false, Bool.false_eq_true, f5]; try rfl)
      · unfold St24
        refine Lwp.seq (Lwp.regI hT ?_)
        simp only [L56r7, go_sem, List.isEmpty_nil, isC, eq_self, reduceIte, Nat.reduceAdd, Nat.reduceMul, Nat.reduceSub, Nat.reduceLT, Nat.reduceLeDiff, Nat.reduceEqDiff, Nat.reduceDiv, Nat.reduceMod, Nat.reducePow, Nat.reduceBEq, Nat.reduceBNe, Int.reduceLT, Int.reduceLE, Int.reduceGT, Int.reduceGE, Int.reduceBEq, Int.reduceBNe, Int.reduceToNat, Int.reduceAdd, Int.reduceSub, Int.reduceMul, Int.reduceEq, Int.reduceNeg, reduceCtorEq, decide_true, decide_false, Bool.false_eq_true, ty3, ty4, ty5, ty22, ty24, ty38, ty39, ty40, ty43, ty27, ty28, eq24]
        refine Lwp.seq (Lwp.cond rfl (fun h => by cases h) (fun _ => Lwp.exit ?_))
        simp only [go_sem, List.isEmpty_nil, isC, eq_self, reduceIte, Nat.reduceAdd, Nat.reduceMul, Nat.reduceSub, Nat.reduceLT, Nat.reduceLeDiff, Nat.reduceEqDiff, Nat.reduceDiv, Nat.reduceMod, Nat.reducePow, Nat.reduceBEq, Nat.reduceBNe, Int.reduceLT, Int.reduceLE, Int.reduceGT, Int.reduceGE, Int.reduceBEq, Int.reduceBNe, Int.reduceToNat, Int.reduceAdd, Int.reduceSub, Int.reduceMul, Int.reduceEq, Int.reduceNeg, reduceCtorEq, decide_true, decide_false, Bool.false_eq_true]
        have g1 : lim6 (bev b % 256 ^ 48) = lim6 (bev b) := by
          have := bev_lt hd0
          rw [hl] at this
          rw [Nat.mod_eq_of_lt this]
        have g2 := lim6_len (bev b)
        refine Lwp.seq (Lwp.regI hT ?_)
        simp only [L56r11, go_sem, List.isEmpty_nil, isC, eq_self, reduceIte, Nat.reduceAdd, Nat.reduceMul, Nat.reduceSub, Nat.reduceLT, Nat.reduceLeDiff, Nat.reduceEqDiff, Nat.reduceDiv, Nat.reduceMod, Nat.reducePow, Nat.reduceBEq, Nat.reduceBNe, Int.reduceLT, Int.reduceLE, Int.reduceGT, Int.reduceGE, Int.reduceBEq, Int.reduceBNe, Int.reduceToNat, Int.reduceAdd, Int.reduceSub, Int.reduceMul, Int.reduceEq, Int.reduceNeg, reduceCtorEq, decide_true, decide_false, Bool.false_eq_true, ty3, ty4, ty5, ty22, ty24, ty38, ty39, ty40, ty43, ty27, ty28, eq24, g1, g2]
        refine Lwp.ret (post_val (v := .tup [.agg (ints .u64 (fromL b)), fromE b]) ?_ ?_)
        · simp only [go_sem, List.isEmpty_nil, isC, eq_self, reduceIte, Nat.reduceAdd, Nat.reduceMul, Nat.reduceSub, Nat.reduceLT, Nat.reduceLeDiff, Nat.reduceEqDiff, Nat.reduceDiv, Nat.reduceMod, Nat.reducePow, Nat.reduceBEq, Nat.reduceBNe, Int.reduceLT, Int.reduceLE, Int.reduceGT, Int.reduceGE, Int.reduceBEq, Int.reduceBNe, Int.reduceToNat, Int.reduceAdd, Int.reduceSub, Int.reduceMul, Int.reduceEq, Int.reduceNeg, reduceCtorEq, decide_true, decide_false, Bool.false_eq_true, ty24, e1, e2, g1, g2]
        · simp only [go_sem, List.isEmpty_nil, isC, eq_self, reduceIte, Nat.reduceAdd, Nat.reduceMul, Nat.reduceSub, Nat.reduceLT, Nat.reduceLeDiff, Nat.reduceEqDiff, Nat.reduceDiv, Nat.reduceMod, Nat.reducePow, Nat.reduceBEq, Nat.reduceBNe, Int.reduceLT, Int.reduceLE, Int.reduceGT, Int.reduceGE, Int.reduceBEq, Int.reduceBNe, Int.reduceToNat, Int.reduceAdd, Int.reduceSub, Int.reduceMul, Int.reduceEq, Int.reduceNeg, reduceCtorEq, decide_true, decide_false, Bool.false_eq_true, e1, e2]

end Eng


namespace Eng
open Go Go.Proofs
set_option linter.unusedSimpArgs false
set_option linter.unusedVariables false
noncomputable def S36 : List AV → Option Ret := nz (sumOf (fun p : List Int => match p with | b => (U8L b) ∧ (b.length ≤ 1000000)) (fun p : List Int => match p with | b => [.slc b.length (ints .u8 b)]) (fun p : List Int => match p with | b => ⟨.slc (dig (bev b)).length (ints .u64 (dig (bev b))), none⟩))
theorem S36_eq (b : List Int) (h0 : U8L b) (h1 : b.length ≤ 1000000) : S36 [.slc b.length (ints .u8 b)] = some ⟨.slc (dig (bev b)).length (ints .u64 (dig (bev b))), none⟩ :=
  sumOf_eq (dom := (fun p : List Int => match p with | b => (U8L b) ∧ (b.length ≤ 1000000))) (enc := (fun p : List Int => match p with | b => [.slc b.length (ints .u8 b)])) (out := (fun p : List Int => match p with | b => ⟨.slc (dig (bev b)).length (ints .u64 (dig (bev b))), none⟩)) b ⟨h0, h1⟩ (fun y _ e => by
    simp only [List.cons.injEq, AV.agg.injEq, AV.int.injEq, AV.slc.injEq, AV.iptr.injEq, AV.bool.injEq, AV.str.injEq, ints_injEq, dig_injEq,  Int.ofNat_inj, BitVec.toNat_inj, true_and, and_true] at e
    first | with_reducible rfl | simp only [e] | rfl)
theorem S36_inv {args : List AV} {r : Ret} (h : sumOf (fun p : List Int => match p with | b => (U8L b) ∧ (b.length ≤ 1000000)) (fun p : List Int => match p with | b => [.slc b.length (ints .u8 b)]) (fun p : List Int => match p with | b => ⟨.slc (dig (bev b)).length (ints .u64 (dig (bev b))), none⟩) args = some r) : ∃ (b : List Int), ((U8L b) ∧ (b.length ≤ 1000000)) ∧ args = [.slc b.length (ints .u8 b)] ∧ r = ⟨.slc (dig (bev b)).length (ints .u64 (dig (bev b))), none⟩ := by
  obtain ⟨x, h1, h2, h3⟩ := sumOf_inv h
  exact ⟨x, h1, h2.symm, h3⟩


set_option maxRecDepth 100000 in
theorem snd36 : SndE Tryd.prog NoG 36 S36 := by
  refine snd_nz (snd_by [(53, S53)] [] Tryd.func36 (by kernel_rfl) lite36 nt36 rs36 ⟨snd53, trivial⟩ trivial (fun hT args r h => ?_))
  obtain ⟨b, ⟨hd0, hd1⟩, rfl, rfl⟩ := S36_inv h
  clear h
  have hM := hM0
  refine ⟨Nat.le_of_ble_eq_true rfl, fun F => ?_⟩
  unfold L36
  have f54 : S53 [.slc (b.length / 4 + 1) (ints .u64 (low (b.length / 4 + 1) (bev b)))] = some ⟨.slc (dig (bev b)).length (ints .u64 (dig (bev b))), none⟩ := S53_low (by omega) (bev_fits hd0)
  have z1 : ((b.length : Nat) : Int).tdiv 4 = ((b.length / 4 : Nat) : Int) := by rw [Int.tdiv_eq_ediv_of_nonneg (by omega)]; omega
  have z2 : IntKind.i64.wrap ((b.length / 4 : Nat) : Int) = ((b.length / 4 : Nat) : Int) := wrap_i64 (by omega) (by omega)
  have z3 : IntKind.i64.wrap (((b.length / 4 : Nat) : Int) + 1) = ((b.length / 4 + 1 : Nat) : Int) := by rw [wrap_i64 (by omega) (by omega)]; omega
  have z4 : (0 : Int) ≤ ((b.length / 4 + 1 : Nat) : Int) := by omega
  have z5 : ((b.length / 4 + 1 : Nat) : Int) * 8 ≤ 281474976710656 := by omega
  have z6 : ((b.length / 4 + 1 : Nat) : Int) ≤ 9223372036854775807 := by omega
  have ze : low (b.length / 4 + 1) (bev b % 256 ^ 0) = List.replicate (b.length / 4 + 1) 0 := by
    rw [Nat.pow_zero, Nat.mod_one, rep_tab]; exact tab_ext fun k _ => by simp
  generalize hm : b.length / 4 + 1 = m at *
  refine Lwp.seq (Lwp.regI hT ?_)
  simp only [L36r0, go_sem, List.isEmpty_nil, isC, eq_self, reduceIte, Nat.reduceAdd, Nat.reduceMul, Nat.reduceSub, Nat.reduceLT, Nat.reduceLeDiff, Nat.reduceEqDiff, Nat.reduceDiv, Nat.reduceMod, Nat.reducePow, Nat.reduceBEq, Nat.reduceBNe, Int.reduceLT, Int.reduceLE, Int.reduceGT, Int.reduceGE, Int.reduceBEq, Int.reduceBNe, Int.reduceToNat, Int.reduceAdd, Int.reduceSub, Int.reduceMul, Int.reduceEq, Int.reduceNeg, reduceCtorEq, decide_true, decide_false, Bool.false_eq_true, ty3, ty4, ty5, ty9, ty22, ty24, ty38, ty39, ty40, ty43, ty27, ty28, eq24]
  refine Lwp.seq (Lwp.regI hT ?_)
  simp only [L36r1, go_sem, List.isEmpty_nil, isC, eq_self, reduceIte, Nat.reduceAdd, Nat.reduceMul, Nat.reduceSub, Nat.reduceLT, Nat.reduceLeDiff, Nat.reduceEqDiff, Nat.reduceDiv, Nat.reduceMod, Nat.reducePow, Nat.reduceBEq, Nat.reduceBNe, Int.reduceLT, Int.reduceLE, Int.reduceGT, Int.reduceGE, Int.reduceBEq, Int.reduceBNe, Int.reduceToNat, Int.reduceAdd, Int.reduceSub, Int.reduceMul, Int.reduceEq, Int.reduceNeg, reduceCtorEq, decide_true, decide_false, Bool.false_eq_true, ty3, ty4, ty5, ty9, ty22, ty24, ty38, ty39, ty40, ty43, ty27, ty28, eq24, z1, z2, z3, z4, z5, z6, ints_zeros]
  refine Lwp.seq ?_
  refine Lwp.seq (Lwp.regI hT ?_)
  simp only [L36r2, go_sem, List.isEmpty_nil, isC, eq_self, reduceIte, Nat.reduceAdd, Nat.reduceMul, Nat.reduceSub, Nat.reduceLT, Nat.reduceLeDiff, Nat.reduceEqDiff, Nat.reduceDiv, Nat.reduceMod, Nat.reducePow, Nat.reduceBEq, Nat.reduceBNe, Int.reduceLT, Int.reduceLE, Int.reduceGT, Int.reduceGE, Int.reduceBEq, Int.reduceBNe, Int.reduceToNat, Int.reduceAdd, Int.reduceSub, Int.reduceMul, Int.reduceEq, Int.reduceNeg, reduceCtorEq, decide_true, decide_false, Bool.false_eq_true, ty3, ty4, ty5, ty9, ty22, ty24, ty38, ty39, ty40, ty43, ty27, ty28, eq24]
  refine Lwp.block (Lwp.range (fun i => { nt := 50, env := [(0, .slc b.length (ints .u8 b)), (3, .osl 5 0 m 1), (4, .int .i64 i)], mem := [(5, ints .u64 (low m (bev b % 256 ^ i)))], next := 20 }) b.length ?_ (fun i hi => ?_) ?_)
  · refine weak_of rfl ?_ ?_ ?_
    · (simp only [go_sem, List.isEmpty_nil, isC, eq_self, reduceIte, Nat.reduceAdd, Nat.reduceMul, Nat.reduceSub, Nat.reduceLT, Nat.reduceLeDiff, Nat.reduceEqDiff, Nat.reduceDiv, Nat.reduceMod, Nat.reducePow, Nat.reduceBEq, Nat.reduceBNe, Int.reduceLT, Int.reduceLE, Int.reduceGT, Int.reduceGE, Int.reduceBEq, Int.reduceBNe, Int.reduceToNat, Int.reduceAdd, Int.reduceSub, Int.reduceMul, Int.reduceEq, Int.reduceNeg, reduceCtorEq, decide_true, decide_false, Bool.false_eq_true, ze]; try rfl)
    · (simp only [go_sem, List.isEmpty_nil, isC, eq_self, reduceIte, Nat.reduceAdd, Nat.reduceMul, Nat.reduceSub, Nat.reduceLT, Nat.reduceLeDiff, Nat.reduceEqDiff, Nat.reduceDiv, Nat.reduceMod, Nat.reducePow, Nat.reduceBEq, Nat.reduceBNe, Int.reduceLT, Int.reduceLE, Int.reduceGT, Int.reduceGE, Int.reduceBEq, Int.reduceBNe, Int.reduceToNat, Int.reduceAdd, Int.reduceSub, Int.reduceMul, Int.reduceEq, Int.reduceNeg, reduceCtorEq, decide_true, decide_false, Bool.false_eq_true, ze]; try rfl)
    · (simp only [go_sem, List.isEmpty_nil, isC, eq_self, reduceIte, Nat.reduceAdd, Nat.reduceMul, Nat.reduceSub, Nat.reduceLT, Nat.reduceLeDiff, Nat.reduceEqDiff, Nat.reduceDiv, Nat.reduceMod, Nat.reducePow, Nat.reduceBEq, Nat.reduceBNe, Int.reduceLT, Int.reduceLE, Int.reduceGT, Int.reduceGE, Int.reduceBEq, Int.reduceBNe, Int.reduceToNat, Int.reduceAdd, Int.reduceSub, Int.reduceMul, Int.reduceEq, Int.reduceNeg, reduceCtorEq, decide_true, decide_false, Bool.false_eq_true, ze]; try rfl)
  · have h3 : (i : Int) < (b.length : Nat) := by omega
    have h4 := wrap_succ hi (by omega)
    have c1 : (i : Int).tdiv 4 = ((i / 4 : Nat) : Int) := by rw [Int.tdiv_eq_ediv_of_nonneg (by omega)]; omega
    have c2 : IntKind.i64.wrap ((i / 4 : Nat) : Int) = ((i / 4 : Nat) : Int) := wrap_i64 (by omega) (by omega)
    have c3 : (0 : Int) ≤ ((i / 4 : Nat) : Int) := by omega
    have c4 : ((i / 4 : Nat) : Int) < (m : Nat) := by omega
    have c5 : i / 4 < m := by omega
    have c5' : i / 4 + 1 ≤ m := by omega
    have c6 : IntKind.i64.wrap (((b.length : Nat) : Int) - 1) = ((b.length - 1 : Nat) : Int) := by rw [wrap_i64 (by omega) (by omega)]; omega
    have c7 : IntKind.i64.wrap (((b.length - 1 : Nat) : Int) - (i : Int)) = ((b.length - 1 - i : Nat) : Int) := by rw [wrap_i64 (by omega) (by omega)]; omega
    have c8 : (0 : Int) ≤ ((b.length - 1 - i : Nat) : Int) := by omega
    have c9 : ((b.length - 1 - i : Nat) : Int) < (b.length : Nat) := by omega
    have c10 : b.length - 1 - i < b.length := by omega
    have c11 : (i : Int).tmod 4 = ((i % 4 : Nat) : Int) := by rw [Int.tmod_eq_emod_of_nonneg (by omega)]; omega
    have f1 := bev_at hd0 hi
    have f2 : IntKind.u64.wrap ((bev b / 256 ^ i % 256 : Nat) : Int) = ((bev b / 256 ^ i % 256 : Nat) : Int) := wrap_u64 (Int.natCast_nonneg _) (by have : bev b / 256 ^ i % 256 < 256 := Nat.mod_lt _ (by decide); omega)
    have hd : bev b / 256 ^ i % 256 < 256 := Nat.mod_lt _ (by decide)
    have f5 := low_byte (bev b) m i
    have f6 := low_len m (bev b % 256 ^ i)
    have f3 : (low m (bev b % 256 ^ i)).getD (i / 4) 0 = ((bev b % 256 ^ i / 4294967296 ^ (i / 4) % 4294967296 : Nat) : Int) := tab_getD _ _ c5
    have hw : bev b % 256 ^ i / 4294967296 ^ (i / 4) % 4294967296 < 4294967296 := Nat.mod_lt _ (by decide)
    have hp : (256 : Nat) ^ (i % 4) ≤ 256 ^ 3 := Nat.pow_le_pow_right (by decide) (by omega)
    refine Lwp.seq ?_
    refine Lwp.seq (Lwp.regI hT ?_)
    simp only [L36r3, go_sem, List.isEmpty_nil, isC, eq_self, reduceIte, Nat.reduceAdd, Nat.reduceMul, Nat.reduceSub, Nat.reduceLT, Nat.reduceLeDiff, Nat.reduceEqDiff, Nat.reduceDiv, Nat.reduceMod, Nat.reducePow, Nat.reduceBEq, Nat.reduceBNe, Int.reduceLT, Int.reduceLE, Int.reduceGT, Int.reduceGE, Int.reduceBEq, Int.reduceBNe, Int.reduceToNat, Int.reduceAdd, Int.reduceSub, Int.reduceMul, Int.reduceEq, Int.reduceNeg, reduceCtorEq, decide_true, decide_false, Bool.false_eq_true, ty3, ty4, ty5, ty9, ty22, ty24, ty38, ty39, ty40, ty43, ty27, ty28, eq24, h3]
    refine Lwp.cond rfl (fun _ => Lwp.skip ?_) (fun h => by cases h)
    simp only [go_sem, List.isEmpty_nil, isC, eq_self, reduceIte, Nat.reduceAdd, Nat.reduceMul, Nat.reduceSub, Nat.reduceLT, Nat.reduceLeDiff, Nat.reduceEqDiff, Nat.reduceDiv, Nat.reduceMod, Nat.reducePow, Nat.reduceBEq, Nat.reduceBNe, Int.reduceLT, Int.reduceLE, Int.reduceGT, Int.reduceGE, Int.reduceBEq, Int.reduceBNe, Int.reduceToNat, Int.reduceAdd, Int.reduceSub, Int.reduceMul, Int.reduceEq, Int.reduceNeg, reduceCtorEq, decide_true, decide_false, Bool.false_eq_true]
    refine Lwp.seq (Lwp.block ?_)
    generalize bev b / 256 ^ i % 256 = d at *
    generalize bev b % 256 ^ i / 4294967296 ^ (i / 4) % 4294967296 = w at *
    generalize low m (bev b % 256 ^ (i + 1)) = l2 at *
    generalize low m (bev b % 256 ^ i) = l1 at *
    generalize b.length - 1 - i = t at *
    refine Lwp.seq (Lwp.regI hT ?_)
    simp only [L36r5, go_sem, List.isEmpty_nil, isC, eq_self, reduceIte, Nat.reduceAdd, Nat.reduceMul, Nat.reduceSub, Nat.reduceLT, Nat.reduceLeDiff, Nat.reduceEqDiff, Nat.reduceDiv, Nat.reduceMod, Nat.reducePow, Nat.reduceBEq, Nat.reduceBNe, Int.reduceLT, Int.reduceLE, Int.reduceGT, Int.reduceGE, Int.reduceBEq, Int.reduceBNe, Int.reduceToNat, Int.reduceAdd, Int.reduceSub, Int.reduceMul, Int.reduceEq, Int.reduceNeg, reduceCtorEq, decide_true, decide_false, Bool.false_eq_true, ty3, ty4, ty5, ty9, ty22, ty24, ty38, ty39, ty40, ty43, ty27, ty28, eq24, c6, c7]
    refine Lwp.seq (Lwp.regI hT ?_)
    simp only [L36r6, go_sem, List.isEmpty_nil, isC, eq_self, reduceIte, Nat.reduceAdd, Nat.reduceMul, Nat.reduceSub, Nat.reduceLT, Nat.reduceLeDiff, Nat.reduceEqDiff, Nat.reduceDiv, Nat.reduceMod, Nat.reducePow, Nat.reduceBEq, Nat.reduceBNe, Int.reduceLT, Int.reduceLE, Int.reduceGT, Int.reduceGE, Int.reduceBEq, Int.reduceBNe, Int.reduceToNat, Int.reduceAdd, Int.reduceSub, Int.reduceMul, Int.reduceEq, Int.reduceNeg, reduceCtorEq, decide_true, decide_false, Bool.false_eq_true, ty3, ty4, ty5, ty9, ty22, ty24, ty38, ty39, ty40, ty43, ty27, ty28, eq24, c8, c9, c10, f1, f2]
    refine Lwp.seq ?_
    refine Lwp.seq (Lwp.regI hT ?_)
    simp only [L36r7, go_sem, List.isEmpty_nil, isC, eq_self, reduceIte, Nat.reduceAdd, Nat.reduceMul, Nat.reduceSub, Nat.reduceLT, Nat.reduceLeDiff, Nat.reduceEqDiff, Nat.reduceDiv, Nat.reduceMod, Nat.reducePow, Nat.reduceBEq, Nat.reduceBNe, Int.reduceLT, Int.reduceLE, Int.reduceGT, Int.reduceGE, Int.reduceBEq, Int.reduceBNe, Int.reduceToNat, Int.reduceAdd, Int.reduceSub, Int.reduceMul, Int.reduceEq, Int.reduceNeg, reduceCtorEq, decide_true, decide_false, Bool.false_eq_true, ty3, ty4, ty5, ty9, ty22, ty24, ty38, ty39, ty40, ty43, ty27, ty28, eq24]
    refine Lwp.block (Lwp.range (fun j => { nt := 50, env := [(0, .slc b.length (ints .u8 b)), (3, .osl 5 0 m 1), (4, .int .i64 i), (6, .int .u64 (d * 256 ^ j : Nat)), (7, .int .i64 j)], mem := [(5, ints .u64 l1)], next := 20 }) (i % 4) ?_ (fun j hj => ?_) ?_)
    · refine weak_of rfl ?_ ?_ ?_
      · (simp only [go_sem, List.isEmpty_nil, isC, eq_self, reduceIte, Nat.reduceAdd, Nat.reduceMul, Nat.reduceSub, Nat.reduceLT, Nat.reduceLeDiff, Nat.reduceEqDiff, Nat.reduceDiv, Nat.reduceMod, Nat.reducePow, Nat.reduceBEq, Nat.reduceBNe, Int.reduceLT, Int.reduceLE, Int.reduceGT, Int.reduceGE, Int.reduceBEq, Int.reduceBNe, Int.reduceToNat, Int.reduceAdd, Int.reduceSub, Int.reduceMul, Int.reduceEq, Int.reduceNeg, reduceCtorEq, decide_true, decide_false, Bool.false_eq_true, Nat.pow_zero]; try rfl)
      · (simp only [go_sem, List.isEmpty_nil, isC, eq_self, reduceIte, Nat.reduceAdd, Nat.reduceMul, Nat.reduceSub, Nat.reduceLT, Nat.reduceLeDiff, Nat.reduceEqDiff, Nat.reduceDiv, Nat.reduceMod, Nat.reducePow, Nat.reduceBEq, Nat.reduceBNe, Int.reduceLT, Int.reduceLE, Int.reduceGT, Int.reduceGE, Int.reduceBEq, Int.reduceBNe, Int.reduceToNat, Int.reduceAdd, Int.reduceSub, Int.reduceMul, Int.reduceEq, Int.reduceNeg, reduceCtorEq, decide_true, decide_false, Bool.false_eq_true, Nat.pow_zero]; try rfl)
      · (simp only [go_sem, List.isEmpty_nil, isC, eq_self, reduceIte, Nat.reduceAdd, Nat.reduceMul, Nat.reduceSub, Nat.reduceLT, Nat.reduceLeDiff, Nat.reduceEqDiff, Nat.reduceDiv, Nat.reduceMod, Nat.reducePow, Nat.reduceBEq, Nat.reduceBNe, Int.reduceLT, Int.reduceLE, Int.reduceGT, Int.reduceGE, Int.reduceBEq, Int.reduceBNe, Int.reduceToNat, Int.reduceAdd, Int.reduceSub, Int.reduceMul, Int.reduceEq, Int.reduceNeg, reduceCtorEq, decide_true, decide_false, Bool.false_eq_true, Nat.pow_zero]; try rfl)
    · have g1 : (j : Int) < ((i % 4 : Nat) : Int) := by omega
      have g2 := wrap_succ hj (by omega)
      have hj3 : (256 : Nat) ^ j ≤ 256 ^ 2 := Nat.pow_le_pow_right (by decide) (by omega)
      have hm1 : d * 256 ^ j ≤ 255 * 256 ^ j := Nat.mul_le_mul_right _ (by omega)
      have g3 : IntKind.u64.wrap (((d * 256 ^ j : Nat) : Int) * 256) = ((d * 256 ^ (j + 1) : Nat) : Int) := by
        have e : ((d * 256 ^ j : Nat) : Int) * 256 = ((d * 256 ^ (j + 1) : Nat) : Int) := by rw [Nat.pow_succ, ← Nat.mul_assoc]; simp
        rw [e, wrap_u64 (Int.natCast_nonneg _) (by
          have h5 : d * 256 ^ (j + 1) = d * 256 ^ j * 256 := by rw [Nat.pow_succ, Nat.mul_assoc]
          omega)]
      refine Lwp.seq ?_
      refine Lwp.seq (Lwp.regI hT ?_)
      simp only [L36r8, go_sem, List.isEmpty_nil, isC, eq_self, reduceIte, Nat.reduceAdd, Nat.reduceMul, Nat.reduceSub, Nat.reduceLT, Nat.reduceLeDiff, Nat.reduceEqDiff, Nat.reduceDiv, Nat.reduceMod, Nat.reducePow, Nat.reduceBEq, Nat.reduceBNe, Int.reduceLT, Int.reduceLE, Int.reduceGT, Int.reduceGE, Int.reduceBEq, Int.reduceBNe, Int.reduceToNat, Int.reduceAdd, Int.reduceSub, Int.reduceMul, Int.reduceEq, Int.reduceNeg, reduceCtorEq, decide_true, decide_false, Bool.false_eq_true, ty3, ty4, ty5, ty9, ty22, ty24, ty38, ty39, ty40, ty43, ty27, ty28, eq24, c11, g1]
      refine Lwp.cond rfl (fun _ => Lwp.skip ?_) (fun h => by cases h)
      simp only [go_sem, List.isEmpty_nil, isC, eq_self, reduceIte, Nat.reduceAdd, Nat.reduceMul, Nat.reduceSub, Nat.reduceLT, Nat.reduceLeDiff, Nat.reduceEqDiff, Nat.reduceDiv, Nat.reduceMod, Nat.reducePow, Nat.reduceBEq, Nat.reduceBNe, Int.reduceLT, Int.reduceLE, Int.reduceGT, Int.reduceGE, Int.reduceBEq, Int.reduceBNe, Int.reduceToNat, Int.reduceAdd, Int.reduceSub, Int.reduceMul, Int.reduceEq, Int.reduceNeg, reduceCtorEq, decide_true, decide_false, Bool.false_eq_true]
      refine Lwp.seq (Lwp.block ?_)
      refine Lwp.regI hT ?_
      simp only [L36r10, go_sem, List.isEmpty_nil, isC, eq_self, reduceIte, Nat.reduceAdd, Nat.reduceMul, Nat.reduceSub, Nat.reduceLT, Nat.reduceLeDiff, Nat.reduceEqDiff, Nat.reduceDiv, Nat.reduceMod, Nat.reducePow, Nat.reduceBEq, Nat.reduceBNe, Int.reduceLT, Int.reduceLE, Int.reduceGT, Int.reduceGE, Int.reduceBEq, Int.reduceBNe, Int.reduceToNat, Int.reduceAdd, Int.reduceSub, Int.reduceMul, Int.reduceEq, Int.reduceNeg, reduceCtorEq, decide_true, decide_false, Bool.false_eq_true, ty3, ty4, ty5, ty9, ty22, ty24, ty38, ty39, ty40, ty43, ty27, ty28, eq24, g3]
      refine Lwp.regI hT ?_
      simp only [L36r9, go_sem, List.isEmpty_nil, isC, eq_self, reduceIte, Nat.reduceAdd, Nat.reduceMul, Nat.reduceSub, Nat.reduceLT, Nat.reduceLeDiff, Nat.reduceEqDiff, Nat.reduceDiv, Nat.reduceMod, Nat.reducePow, Nat.reduceBEq, Nat.reduceBNe, Int.reduceLT, Int.reduceLE, Int.reduceGT, Int.reduceGE, Int.reduceBEq, Int.reduceBNe, Int.reduceToNat, Int.reduceAdd, Int.reduceSub, Int.reduceMul, Int.reduceEq, Int.reduceNeg, reduceCtorEq, decide_true, decide_false, Bool.false_eq_true, ty3, ty4, ty5, ty9, ty22, ty24, ty38, ty39, ty40, ty43, ty27, ty28, eq24, g2]
      refine weak_of rfl ?_ ?_ ?_
      · (simp only [go_sem, List.isEmpty_nil, isC, eq_self, reduceIte, Nat.reduceAdd, Nat.reduceMul, Nat.reduceSub, Nat.reduceLT, Nat.reduceLeDiff, Nat.reduceEqDiff, Nat.reduceDiv, Nat.reduceMod, Nat.reducePow, Nat.reduceBEq, Nat.reduceBNe, Int.reduceLT, Int.reduceLE, Int.reduceGT, Int.reduceGE, Int.reduceBEq, Int.reduceBNe, Int.reduceToNat, Int.reduceAdd, Int.reduceSub, Int.reduceMul, Int.reduceEq, Int.reduceNeg, reduceCtorEq, decide_true, decide_false, Bool.false_eq_true]; try rfl)
      · (simp only [go_sem, List.isEmpty_nil, isC, eq_self, reduceIte, Nat.reduceAdd, Nat.reduceMul, Nat.reduceSub, Nat.reduceLT, Nat.reduceLeDiff, Nat.reduceEqDiff, Nat.reduceDiv, Nat.reduceMod, Nat.reducePow, Nat.reduceBEq, Nat.reduceBNe, Int.reduceLT, Int.reduceLE, Int.reduceGT, Int.reduceGE, Int.reduceBEq, Int.reduceBNe, Int.reduceToNat, Int.reduceAdd, Int.reduceSub, Int.reduceMul, Int.reduceEq, Int.reduceNeg, reduceCtorEq, decide_true, decide_false, Bool.false_eq_true]; try rfl)
      · (simp only [go_sem, List.isEmpty_nil, isC, eq_self, reduceIte, Nat.reduceAdd, Nat.reduceMul, Nat.reduceSub, Nat.reduceLT, Nat.reduceLeDiff, Nat.reduceEqDiff, Nat.reduceDiv, Nat.reduceMod, Nat.reducePow, Nat.reduceBEq, Nat.reduceBNe, Int.reduceLT, Int.reduceLE, Int.reduceGT, Int.reduceGE, Int.reduceBEq, Int.reduceBNe, Int.reduceToNat, Int.reduceAdd, Int.reduceSub, Int.reduceMul, Int.reduceEq, Int.reduceNeg, reduceCtorEq, decide_true, decide_false, Bool.false_eq_true]; try rfl)
    · have g1 : ¬ ((i % 4 : Nat) : Int) < ((i % 4 : Nat) : Int) := by omega
      have hm1 : d * 256 ^ (i % 4) ≤ 255 * 256 ^ (i % 4) := Nat.mul_le_mul_right _ (by omega)
      have g3 : IntKind.u64.wrap ((w : Int) + ((d * 256 ^ (i % 4) : Nat) : Int)) = ((w + d * 256 ^ (i % 4) : Nat) : Int) := by
        rw [wrap_u64 (by omega) (by omega)]; omega
      refine Lwp.seq ?_
      refine Lwp.seq (Lwp.regI hT ?_)
      simp only [L36r8, go_sem, List.isEmpty_nil, isC, eq_self, reduceIte, Nat.reduceAdd, Nat.reduceMul, Nat.reduceSub, Nat.reduceLT, Nat.reduceLeDiff, Nat.reduceEqDiff, Nat.reduceDiv, Nat.reduceMod, Nat.reducePow, Nat.reduceBEq, Nat.reduceBNe, Int.reduceLT, Int.reduceLE, Int.reduceGT, Int.reduceGE, Int.reduceBEq, Int.reduceBNe, Int.reduceToNat, Int.reduceAdd, Int.reduceSub, Int.reduceMul, Int.reduceEq, Int.reduceNeg, reduceCtorEq, decide_true, decide_false, Bool.false_eq_true, ty3, ty4, ty5, ty9, ty22, ty24, ty38, ty39, ty40, ty43, ty27, ty28, eq24, c11, g1]
      refine Lwp.cond rfl (fun h => by cases h) (fun _ => Lwp.exit ?_)
      simp only [go_sem, List.isEmpty_nil, isC, eq_self, reduceIte, Nat.reduceAdd, Nat.reduceMul, Nat.reduceSub, Nat.reduceLT, Nat.reduceLeDiff, Nat.reduceEqDiff, Nat.reduceDiv, Nat.reduceMod, Nat.reducePow, Nat.reduceBEq, Nat.reduceBNe, Int.reduceLT, Int.reduceLE, Int.reduceGT, Int.reduceGE, Int.reduceBEq, Int.reduceBNe, Int.reduceToNat, Int.reduceAdd, Int.reduceSub, Int.reduceMul, Int.reduceEq, Int.reduceNeg, reduceCtorEq, decide_true, decide_false, Bool.false_eq_true]
      refine Lwp.regI hT ?_
      simp only [L36r11, go_sem, List.isEmpty_nil, isC, eq_self, reduceIte, Nat.reduceAdd, Nat.reduceMul, Nat.reduceSub, Nat.reduceLT, Nat.reduceLeDiff, Nat.reduceEqDiff, Nat.reduceDiv, Nat.reduceMod, Nat.reducePow, Nat.reduceBEq, Nat.reduceBNe, Int.reduceLT, Int.reduceLE, Int.reduceGT, Int.reduceGE, Int.reduceBEq, Int.reduceBNe, Int.reduceToNat, Int.reduceAdd, Int.reduceSub, Int.reduceMul, Int.reduceEq, Int.reduceNeg, reduceCtorEq, decide_true, decide_false, Bool.false_eq_true, ty3, ty4, ty5, ty9, ty22, ty24, ty38, ty39, ty40, ty43, ty27, ty28, eq24, c1, c2, c3, c4, c5, c5', f3, f6, g3]
      refine Lwp.regI hT ?_
      simp only [L36r4, go_sem, List.isEmpty_nil, isC, eq_self, reduceIte, Nat.reduceAdd, Nat.reduceMul, Nat.reduceSub, Nat.reduceLT, Nat.reduceLeDiff, Nat.reduceEqDiff, Nat.reduceDiv, Nat.reduceMod, Nat.reducePow, Nat.reduceBEq, Nat.reduceBNe, Int.reduceLT, Int.reduceLE, Int.reduceGT, Int.reduceGE, Int.reduceBEq, Int.reduceBNe, Int.reduceToNat, Int.reduceAdd, Int.reduceSub, Int.reduceMul, Int.reduceEq, Int.reduceNeg, reduceCtorEq, decide_true, decide_false, Bool.false_eq_true, ty3, ty4, ty5, ty9, ty22, ty24, ty38, ty39, ty40, ty43, ty27, ty28, eq24, h4]
      refine weak_of rfl ?_ ?_ ?_
      · (simp only [go_sem, List.isEmpty_nil, isC, eq_self, reduceIte, Nat.reduceAdd, Nat.reduceMul, Nat.reduceSub, Nat.reduceLT, Nat.reduceLeDiff, Nat.reduceEqDiff, Nat.reduceDiv, Nat.reduceMod, Nat.reducePow, Nat.reduceBEq, Nat.reduceBNe, Int.reduceLT, Int.reduceLE, Int.reduceGT, Int.reduceGE, Int.reduceBEq, Int.reduceBNe, Int.reduceToNat, Int.reduceAdd, Int.reduceSub, Int.reduceMul, Int.reduceEq, Int.reduceNeg, reduceCtorEq, decide_true, decide_false, Bool.false_eq_true, f5]; try rfl)
      · (simp only [go_sem, List.isEmpty_nil, isC, eq_self, reduceIte, Nat.reduceAdd, Nat.reduceMul, Nat.reduceSub, Nat.reduceLT, Nat.reduceLeDiff, Nat.reduceEqDiff, Nat.reduceDiv, Nat.reduceMod, Nat.reducePow, Nat.reduceBEq, Nat.reduceBNe, Int.reduceLT, Int.reduceLE, Int.reduceGT, Int.reduceGE, Int.reduceBEq, Int.reduceBNe, Int.reduceToNat, Int.reduceAdd, Int.reduceSub, Int.reduceMul, Int.reduceEq, Int.reduceNeg, reduceCtorEq, decide_true, decide_false, Bool.false_eq_true, f5]; try rfl)
      · (simp only [go_sem, List.isEmpty_nil, isC, eq_self, reduceIte, Nat.reduceAdd, Nat.reduceMul, Nat.reduceSub, Nat.reduceLT, Nat.reduceLeDiff, Nat.reduceEqDiff, Nat.reduceDiv, Nat.reduceMod, Nat.reducePow, Nat.reduceBEq, Nat.reduceBNe, Int.reduceLT, Int.reduceLE, Int.reduceGT, Int.reduceGE, Int.reduceBEq, Int.reduceBNe, Int.reduceToNat, Int.reduceAdd, Int.reduceSub, Int.reduceMul, Int.reduceEq, Int.reduceNeg, reduceCtorEq, decide_true, decide_false, Bool.false_eq_true, f5]; try rfl)
  · have h3 : ¬ ((b.length : Nat) : Int) < (b.length : Nat) := by omega
    refine Lwp.seq ?_
    refine Lwp.seq (Lwp.regI hT ?_)
    simp only [L36r3, go_sem, List.isEmpty_nil, isC, eq_self, reduceIte, Nat.reduceAdd, Nat.reduceMul, Nat.reduceSub, Nat.reduceLT, Nat.reduceLeDiff, Nat.reduceEqDiff, Nat.reduceDiv, Nat.reduceMod, Nat.reducePow, Nat.reduceBEq, Nat.reduceBNe, Int.reduceLT, Int.reduceLE, Int.reduceGT, Int.reduceGE, Int.reduceBEq, Int.reduceBNe, Int.reduceToNat, Int.reduceAdd, Int.reduceSub, Int.reduceMul, Int.reduceEq, Int.reduceNeg, reduceCtorEq, decide_true, decide_false, Bool.false_eq_true, ty3, ty4, ty5, ty9, ty22, ty24, ty38, ty39, ty40, ty43, ty27, ty28, eq24, h3]
    refine Lwp.cond rfl (fun h => by cases h) (fun _ => Lwp.exit ?_)
    simp only [go_sem, List.isEmpty_nil, isC, eq_self, reduceIte, Nat.reduceAdd, Nat.reduceMul, Nat.reduceSub, Nat.reduceLT, Nat.reduceLeDiff, Nat.reduceEqDiff, Nat.reduceDiv, Nat.reduceMod, Nat.reducePow, Nat.reduceBEq, Nat.reduceBNe, Int.reduceLT, Int.reduceLE, Int.reduceGT, Int.reduceGE, Int.reduceBEq, Int.reduceBNe, Int.reduceToNat, Int.reduceAdd, Int.reduceSub, Int.reduceMul, Int.reduceEq, Int.reduceNeg, reduceCtorEq, decide_true, decide_false, Bool.false_eq_true]
    have g1 : low m (bev b % 256 ^ b.length) = low m (bev b) := low_mod_full (bev_lt hd0)
    have g2 := low_len m (bev b)
    refine Lwp.seq (Lwp.regI hT ?_)
    simp only [L36r12, go_sem, List.isEmpty_nil, isC, eq_self, reduceIte, Nat.reduceAdd, Nat.reduceMul, Nat.reduceSub, Nat.reduceLT, Nat.reduceLeDiff, Nat.reduceEqDiff, Nat.reduceDiv, Nat.reduceMod, Nat.reducePow, Nat.reduceBEq, Nat.reduceBNe, Int.reduceLT, Int.reduceLE, Int.reduceGT, Int.reduceGE, Int.reduceBEq, Int.reduceBNe, Int.reduceToNat, Int.reduceAdd, Int.reduceSub, Int.reduceMul, Int.reduceEq, Int.reduceNeg, reduceCtorEq, decide_true, decide_false, Bool.false_eq_true, ty3, ty4, ty5, ty9, ty22, ty24, ty38, ty39, ty40, ty43, ty27, ty28, eq24, g1, g2, Nat.le_refl, f54]
    refine Lwp.ret (post_val (v := .slc (dig (bev b)).length (ints .u64 (dig (bev b)))) ?_ ?_)
    · simp only [go_sem, List.isEmpty_nil, isC, eq_self, reduceIte, Nat.reduceAdd, Nat.reduceMul, Nat.reduceSub, Nat.reduceLT, Nat.reduceLeDiff, Nat.reduceEqDiff, Nat.reduceDiv, Nat.reduceMod, Nat.reducePow, Nat.reduceBEq, Nat.reduceBNe, Int.reduceLT, Int.reduceLE, Int.reduceGT, Int.reduceGE, Int.reduceBEq, Int.reduceBNe, Int.reduceToNat, Int.reduceAdd, Int.reduceSub, Int.reduceMul, Int.reduceEq, Int.reduceNeg, reduceCtorEq, decide_true, decide_false, Bool.false_eq_true]
    · simp only [go_sem, List.isEmpty_nil, isC, eq_self, reduceIte, Nat.reduceAdd, Nat.reduceMul, Nat.reduceSub, Nat.reduceLT, Nat.reduceLeDiff, Nat.reduceEqDiff, Nat.reduceDiv, Nat.reduceMod, Nat.reducePow, Nat.reduceBEq, Nat.reduceBNe, Int.reduceLT, Int.reduceLE, Int.reduceGT, Int.reduceGE, Int.reduceBEq, Int.reduceBNe, Int.reduceToNat, Int.reduceAdd, Int.reduceSub, Int.reduceMul, Int.reduceEq, Int.reduceNeg, reduceCtorEq, decide_true, decide_false, Bool.false_eq_true]

theorem co5 : Tryd.prog.cellsOf 5 = 1 := by kernel_rfl
theorem U8L_of {xs : List Int} (h : ∀ x ∈ xs, IntKind.u8.min ≤ x ∧ x ≤ IntKind.u8.max) : U8L xs := fun x hx => by
  have h0 : IntKind.u8.min = 0 := by decide
  have h1 : IntKind.u8.max = 255 := by decide
  have := h x hx
  omega
theorem len_of {n : Nat} (h : n ≤ maxLen) : n ≤ 9223372036854775807 := by
  have : maxLen = 9223372036854775807 := by decide
  omega
end Eng


namespace Eng
open Go Go.Proofs
set_option linter.unusedSimpArgs false
set_option linter.unusedVariables false
theorem bev48 {b : List Int} (h : U8L b) (hl : b.length = 48) : bev b < 18446744073709551616 ^ 6 := by
  have := bev_lt h
  rw [hl] at this
  exact Nat.lt_of_lt_of_le this (by decide)

/-- What Decode answers, below the order and not 0. -/
noncomputable def decN (b : List Int) : List Int := if b.length = 48 ∧ bev b < nN ∧ bev b ≠ 0 then lim6 (bev b) else List.replicate 6 0
noncomputable def decF (b : List Int) : AV := if b.length < 48 then .iface 43 (.int .i64 6) else if b.length > 48 then .iface 43 (.int .i64 8) else if bev b < nN ∧ bev b ≠ 0 then .nili else .iface 43 (.int .i64 3)

noncomputable def S38 : List AV → Option Ret := nz (sumOf (fun p : List Int => match p with | b => (U8L b) ∧ (b.length ≤ 9223372036854775807)) (fun p : List Int => match p with | b => [.slc b.length (ints .u8 b)]) (fun p : List Int => match p with | b => ⟨.tup [AG (decN b), decF b], none⟩))
theorem S38_eq (b : List Int) (h0 : U8L b) (h1 : b.length ≤ 9223372036854775807) : S38 [.slc b.length (ints .u8 b)] = some ⟨.tup [AG (decN b), decF b], none⟩ :=
  sumOf_eq (dom := (fun p : List Int => match p with | b => (U8L b) ∧ (b.length ≤ 9223372036854775807))) (enc := (fun p : List Int => match p with | b => [.slc b.length (ints .u8 b)])) (out := (fun p : List Int => match p with | b => ⟨.tup [AG (decN b), decF b], none⟩)) b ⟨h0, h1⟩ (fun y _ e => by
    simp only [List.cons.injEq, AV.agg.injEq, AV.int.injEq, AV.slc.injEq, AV.iptr.injEq, AV.bool.injEq, AV.str.injEq, ints_injEq, dig_injEq,  Int.ofNat_inj, BitVec.toNat_inj, true_and, and_true] at e
    first | with_reducible rfl | simp only [e] | rfl)
theorem S38_inv {args : List AV} {r : Ret} (h : sumOf (fun p : List Int => match p with | b => (U8L b) ∧ (b.length ≤ 9223372036854775807)) (fun p : List Int => match p with | b => [.slc b.length (ints .u8 b)]) (fun p : List Int => match p with | b => ⟨.tup [AG (decN b), decF b], none⟩) args = some r) : ∃ (b : List Int), ((U8L b) ∧ (b.length ≤ 9223372036854775807)) ∧ args = [.slc b.length (ints .u8 b)] ∧ r = ⟨.tup [AG (decN b), decF b], none⟩ := by
  obtain ⟨x, h1, h2, h3⟩ := sumOf_inv h
  exact ⟨x, h1, h2.symm, h3⟩

set_option maxRecDepth 100000 in
theorem snd38 : SndG Tryd.prog nG 38 S38 := by
  refine snd_nz (sndG_by (gl := nG) [(56, S56), (57, S57)] [] Tryd.func38 (by kernel_rfl) lite38 nt38 rs38 ⟨(by first | exact snd56 | exact snd56.toG), (by first | exact snd57 | exact snd57.toG), trivial⟩ trivial (fun hT args r h => ?_))
  obtain ⟨b, ⟨hd0, hd1⟩, rfl, rfl⟩ := S38_inv h
  clear h
  have hM := hM0
  refine ⟨Nat.le_of_ble_eq_true rfl, fun F => ?_⟩
  unfold L38
  have f1 := S56_eq b hd0 hd1
  have rl : (List.replicate 6 (0 : Int)).length = 6 := rfl
  have h1 := nL_good.1.1
  have h2 := nD_len
  have h3 := nD_sub
  have n1 : (6 : Nat) ≤ 13 := by decide
  by_cases c1 : b.length < 48
  · have e1 : fromL b = List.replicate 6 0 := by unfold fromL; rw [if_neg (by omega)]
    have e2 : fromE b = .iface 43 (.int .i64 6) := by unfold fromE; rw [if_pos c1]
    have e3 : decN b = List.replicate 6 0 := by unfold decN; rw [if_neg (by omega)]
    have e4 : decF b = .iface 43 (.int .i64 6) := by unfold decF; rw [if_pos c1]
    rw [e1, e2] at f1
    rw [e3, e4]
    refine Lwp.seq (Lwp.regI hT ?_)
    simp only [L38r0, go_sem, List.isEmpty_nil, isC, eq_self, reduceIte, Nat.reduceAdd, Nat.reduceMul, Nat.reduceSub, Nat.reduceLT, Nat.reduceLeDiff, Nat.reduceEqDiff, Nat.reduceDiv, Nat.reduceMod, Nat.reducePow, Nat.reduceBEq, Nat.reduceBNe, Int.reduceLT, Int.reduceLE, Int.reduceGT, Int.reduceGE, Int.reduceBEq, Int.reduceBNe, Int.reduceToNat, Int.reduceAdd, Int.reduceSub, Int.reduceMul, Int.reduceEq, Int.reduceNeg, reduceCtorEq, decide_true, decide_false, Bool.false_eq_true, ty3, ty4, ty5, ty9, ty22, ty23, ty24, ty38, ty40, ty43, ty27, ty28, ty74, ty75, ty52, eq24, pG, nG, fld0, fld2]
    refine Lwp.seq (Lwp.regI hT ?_)
    simp only [L38r1, go_sem, List.isEmpty_nil, isC, eq_self, reduceIte, Nat.reduceAdd, Nat.reduceMul, Nat.reduceSub, Nat.reduceLT, Nat.reduceLeDiff, Nat.reduceEqDiff, Nat.reduceDiv, Nat.reduceMod, Nat.reducePow, Nat.reduceBEq, Nat.reduceBNe, Int.reduceLT, Int.reduceLE, Int.reduceGT, Int.reduceGE, Int.reduceBEq, Int.reduceBNe, Int.reduceToNat, Int.reduceAdd, Int.reduceSub, Int.reduceMul, Int.reduceEq, Int.reduceNeg, reduceCtorEq, decide_true, decide_false, Bool.false_eq_true, ty3, ty4, ty5, ty9, ty22, ty23, ty24, ty38, ty40, ty43, ty27, ty28, ty74, ty75, ty52, eq24, pG, nG, fld0, fld2, f1, rl]
    refine Lwp.seq (Lwp.block ?_)
    refine Lwp.seq (Lwp.regI hT ?_)
    simp only [L38r2, go_sem, List.isEmpty_nil, isC, eq_self, reduceIte, Nat.reduceAdd, Nat.reduceMul, Nat.reduceSub, Nat.reduceLT, Nat.reduceLeDiff, Nat.reduceEqDiff, Nat.reduceDiv, Nat.reduceMod, Nat.reducePow, Nat.reduceBEq, Nat.reduceBNe, Int.reduceLT, Int.reduceLE, Int.reduceGT, Int.reduceGE, Int.reduceBEq, Int.reduceBNe, Int.reduceToNat, Int.reduceAdd, Int.reduceSub, Int.reduceMul, Int.reduceEq, Int.reduceNeg, reduceCtorEq, decide_true, decide_false, Bool.false_eq_true, ty3, ty4, ty5, ty9, ty22, ty23, ty24, ty38, ty40, ty43, ty27, ty28, ty74, ty75, ty52, eq24, pG, nG, fld0, fld2]
    refine Lwp.cond rfl (fun _ => ?_) (fun h => by cases h)
    refine Lwp.seq (Lwp.regI hT ?_)
    simp only [L38r3, go_sem, List.isEmpty_nil, isC, eq_self, reduceIte, Nat.reduceAdd, Nat.reduceMul, Nat.reduceSub, Nat.reduceLT, Nat.reduceLeDiff, Nat.reduceEqDiff, Nat.reduceDiv, Nat.reduceMod, Nat.reducePow, Nat.reduceBEq, Nat.reduceBNe, Int.reduceLT, Int.reduceLE, Int.reduceGT, Int.reduceGE, Int.reduceBEq, Int.reduceBNe, Int.reduceToNat, Int.reduceAdd, Int.reduceSub, Int.reduceMul, Int.reduceEq, Int.reduceNeg, reduceCtorEq, decide_true, decide_false, Bool.false_eq_true, ty3, ty4, ty5, ty9, ty22, ty23, ty24, ty38, ty40, ty43, ty27, ty28, ty74, ty75, ty52, eq24, pG, nG, fld0, fld2, rl]
    refine Lwp.ret (post_val (v := .tup [AG (List.replicate 6 0), .iface 43 (.int .i64 6)]) ?_ ?_)
    · simp only [go_sem, List.isEmpty_nil, isC, eq_self, reduceIte, Nat.reduceAdd, Nat.reduceMul, Nat.reduceSub, Nat.reduceLT, Nat.reduceLeDiff, Nat.reduceEqDiff, Nat.reduceDiv, Nat.reduceMod, Nat.reducePow, Nat.reduceBEq, Nat.reduceBNe, Int.reduceLT, Int.reduceLE, Int.reduceGT, Int.reduceGE, Int.reduceBEq, Int.reduceBNe, Int.reduceToNat, Int.reduceAdd, Int.reduceSub, Int.reduceMul, Int.reduceEq, Int.reduceNeg, reduceCtorEq, decide_true, decide_false, Bool.false_eq_true, ty24, rl]
    · simp only [go_sem, List.isEmpty_nil, isC, eq_self, reduceIte, Nat.reduceAdd, Nat.reduceMul, Nat.reduceSub, Nat.reduceLT, Nat.reduceLeDiff, Nat.reduceEqDiff, Nat.reduceDiv, Nat.reduceMod, Nat.reducePow, Nat.reduceBEq, Nat.reduceBNe, Int.reduceLT, Int.reduceLE, Int.reduceGT, Int.reduceGE, Int.reduceBEq, Int.reduceBNe, Int.reduceToNat, Int.reduceAdd, Int.reduceSub, Int.reduceMul, Int.reduceEq, Int.reduceNeg, reduceCtorEq, decide_true, decide_false, Bool.false_eq_true]
  · by_cases c2 : b.length > 48
    · have e1 : fromL b = List.replicate 6 0 := by unfold fromL; rw [if_neg (by omega)]
      have e2 : fromE b = .iface 43 (.int .i64 8) := by unfold fromE; rw [if_neg c1, if_pos c2]
      have e3 : decN b = List.replicate 6 0 := by unfold decN; rw [if_neg (by omega)]
      have e4 : decF b = .iface 43 (.int .i64 8) := by unfold decF; rw [if_neg c1, if_pos c2]
      rw [e1, e2] at f1
      rw [e3, e4]
      refine Lwp.seq (Lwp.regI hT ?_)
      simp only [L38r0, go_sem, List.isEmpty_nil, isC, eq_self, reduceIte, Nat.reduceAdd, Nat.reduceMul, Nat.reduceSub, Nat.reduceLT, Nat.reduceLeDiff, Nat.reduceEqDiff, Nat.reduceDiv, Nat.reduceMod, Nat.reducePow, Nat.reduceBEq, Nat.reduceBNe, Int.reduceLT, Int.reduceLE, Int.reduceGT, Int.reduceGE, Int.reduceBEq, Int.reduceBNe, Int.reduceToNat, Int.reduceAdd, Int.reduceSub, Int.reduceMul, Int.reduceEq, Int.reduceNeg, reduceCtorEq, decide_true, decide_false, Bool.false_eq_true, ty3, ty4, ty5, ty9, ty22, ty23, ty24, ty38, ty40, ty43, ty27, ty28, ty74, ty75, ty52, eq24, pG, nG, fld0, fld2]
      refine Lwp.seq (Lwp.regI hT ?_)
      simp only [L38r1, go_sem, List.isEmpty_nil, isC, eq_self, reduceIte, Nat.reduceAdd, Nat.reduceMul, Nat.reduceSub, Nat.reduceLT, Nat.reduceLeDiff, Nat.reduceEqDiff, Nat.reduceDiv, Nat.reduceMod, Nat.reducePow, Nat.reduceBEq, Nat.reduceBNe, Int.reduceLT, Int.reduceLE, Int.reduceGT, Int.reduceGE, Int.reduceBEq, Int.reduceBNe, Int.reduceToNat, Int.reduceAdd, Int.reduceSub, Int.reduceMul, Int.reduceEq, Int.reduceNeg, reduceCtorEq, decide_true, decide_false, Bool.false_eq_true, ty3, ty4, ty5, ty9, ty22, ty23, ty24, ty38, ty40, ty43, ty27, ty28, ty74, ty75, ty52, eq24, pG, nG, fld0, fld2, f1, rl]
      refine Lwp.seq (Lwp.block ?_)
      refine Lwp.seq (Lwp.regI hT ?_)
      simp only [L38r2, go_sem, List.isEmpty_nil, isC, eq_self, reduceIte, Nat.reduceAdd, Nat.reduceMul, Nat.reduceSub, Nat.reduceLT, Nat.reduceLeDiff, Nat.reduceEqDiff, Nat.reduceDiv, Nat.reduceMod, Nat.reducePow, Nat.reduceBEq, Nat.reduceBNe, Int.reduceLT, Int.reduceLE, Int.reduceGT, Int.reduceGE, Int.reduceBEq, Int.reduceBNe, Int.reduceToNat, Int.reduceAdd, Int.reduceSub, Int.reduceMul, Int.reduceEq, Int.reduceNeg, reduceCtorEq, decide_true, decide_false, Bool.false_eq_true, ty3, ty4, ty5, ty9, ty22, ty23, ty24, ty38, ty40, ty43, ty27, ty28, ty74, ty75, ty52, eq24, pG, nG, fld0, fld2]
      refine Lwp.cond rfl (fun _ => ?_) (fun h => by cases h)
      refine Lwp.seq (Lwp.regI hT ?_)
      simp only [L38r3, go_sem, List.isEmpty_nil, isC, eq_self, reduceIte, Nat.reduceAdd, Nat.reduceMul, Nat.reduceSub, Nat.reduceLT, Nat.reduceLeDiff, Nat.reduceEqDiff, Nat.reduceDiv, Nat.reduceMod, Nat.reducePow, Nat.reduceBEq, Nat.reduceBNe, Int.reduceLT, Int.reduceLE, Int.reduceGT, Int.reduceGE, Int.reduceBEq, Int.reduceBNe, Int.reduceToNat, Int.reduceAdd, Int.reduceSub, Int.reduceMul, Int.reduceEq, Int.reduceNeg, reduceCtorEq, decide_true, decide_false, Bool.false_eq_true, ty3, ty4, ty5, ty9, ty22, ty23, ty24, ty38, ty40, ty43, ty27, ty28, ty74, ty75, ty52, eq24, pG, nG, fld0, fld2, rl]
      refine Lwp.ret (post_val (v := .tup [AG (List.replicate 6 0), .iface 43 (.int .i64 8)]) ?_ ?_)
      · simp only [go_sem, List.isEmpty_nil, isC, eq_self, reduceIte, Nat.reduceAdd, Nat.reduceMul, Nat.reduceSub, Nat.reduceLT, Nat.reduceLeDiff, Nat.reduceEqDiff, Nat.reduceDiv, Nat.reduceMod, Nat.reducePow, Nat.reduceBEq, Nat.reduceBNe, Int.reduceLT, Int.reduceLE, Int.reduceGT, Int.reduceGE, Int.reduceBEq, Int.reduceBNe, Int.reduceToNat, Int.reduceAdd, Int.reduceSub, Int.reduceMul, Int.reduceEq, Int.reduceNeg, reduceCtorEq, decide_true, decide_false, Bool.false_eq_true, ty24, rl]
      · simp only [go_sem, List.isEmpty_nil, isC, eq_self, reduceIte, Nat.reduceAdd, Nat.reduceMul, Nat.reduceSub, Nat.reduceLT, Nat.reduceLeDiff, Nat.reduceEqDiff, Nat.reduceDiv, Nat.reduceMod, Nat.reducePow, Nat.reduceBEq, Nat.reduceBNe, Int.reduceLT, Int.reduceLE, Int.reduceGT, Int.reduceGE, Int.reduceBEq, Int.reduceBNe, Int.reduceToNat, Int.reduceAdd, Int.reduceSub, Int.reduceMul, Int.reduceEq, Int.reduceNeg, reduceCtorEq, decide_true, decide_false, Bool.false_eq_true]
    · have hl : b.length = 48 := by omega
      have e1 : fromL b = lim6 (bev b) := by unfold fromL; rw [if_pos hl]
      have e2 : fromE b = .nili := by unfold fromE; rw [if_neg c1, if_neg c2]
      rw [e1, e2] at f1
      have lt := bev48 hd0 hl
      have f2 := S57_lim lt nN_ltR
      rw [nL_lim] at f2
      have l1 := lim6_len (bev b)
      have dz := dec_zero lt
      by_cases c4 : bev b = 0
      · have e3 : decN b = List.replicate 6 0 := by unfold decN; rw [if_neg (fun h => h.2.2 c4)]
        have e4 : decF b = .iface 43 (.int .i64 3) := by unfold decF; rw [if_neg c1, if_neg c2, if_neg (fun h => h.2 c4)]
        rw [e3, e4]
        rw [decide_eq_true c4] at dz
        generalize lim6 (bev b) = o at *
        refine Lwp.seq (Lwp.regI hT ?_)
        simp only [L38r0, go_sem, List.isEmpty_nil, isC, eq_self, reduceIte, Nat.reduceAdd, Nat.reduceMul, Nat.reduceSub, Nat.reduceLT, Nat.reduceLeDiff, Nat.reduceEqDiff, Nat.reduceDiv, Nat.reduceMod, Nat.reducePow, Nat.reduceBEq, Nat.reduceBNe, Int.reduceLT, Int.reduceLE, Int.reduceGT, Int.reduceGE, Int.reduceBEq, Int.reduceBNe, Int.reduceToNat, Int.reduceAdd, Int.reduceSub, Int.reduceMul, Int.reduceEq, Int.reduceNeg, reduceCtorEq, decide_true, decide_false, Bool.false_eq_true, ty3, ty4, ty5, ty9, ty22, ty23, ty24, ty38, ty40, ty43, ty27, ty28, ty74, ty75, ty52, eq24, pG, nG, fld0, fld2]
        refine Lwp.seq (Lwp.regI hT ?_)
        simp only [L38r1, go_sem, List.isEmpty_nil, isC, eq_self, reduceIte, Nat.reduceAdd, Nat.reduceMul, Nat.reduceSub, Nat.reduceLT, Nat.reduceLeDiff, Nat.reduceEqDiff, Nat.reduceDiv, Nat.reduceMod, Nat.reducePow, Nat.reduceBEq, Nat.reduceBNe, Int.reduceLT, Int.reduceLE, Int.reduceGT, Int.reduceGE, Int.reduceBEq, Int.reduceBNe, Int.reduceToNat, Int.reduceAdd, Int.reduceSub, Int.reduceMul, Int.reduceEq, Int.reduceNeg, reduceCtorEq, decide_true, decide_false, Bool.false_eq_true, ty3, ty4, ty5, ty9, ty22, ty23, ty24, ty38, ty40, ty43, ty27, ty28, ty74, ty75, ty52, eq24, pG, nG, fld0, fld2, f1, l1]
        refine Lwp.seq (Lwp.block ?_)
        refine Lwp.seq (Lwp.regI hT ?_)
        simp only [L38r2, go_sem, List.isEmpty_nil, isC, eq_self, reduceIte, Nat.reduceAdd, Nat.reduceMul, Nat.reduceSub, Nat.reduceLT, Nat.reduceLeDiff, Nat.reduceEqDiff, Nat.reduceDiv, Nat.reduceMod, Nat.reducePow, Nat.reduceBEq, Nat.reduceBNe, Int.reduceLT, Int.reduceLE, Int.reduceGT, Int.reduceGE, Int.reduceBEq, Int.reduceBNe, Int.reduceToNat, Int.reduceAdd, Int.reduceSub, Int.reduceMul, Int.reduceEq, Int.reduceNeg, reduceCtorEq, decide_true, decide_false, Bool.false_eq_true, ty3, ty4, ty5, ty9, ty22, ty23, ty24, ty38, ty40, ty43, ty27, ty28, ty74, ty75, ty52, eq24, pG, nG, fld0, fld2]
        refine Lwp.cond rfl (fun h => by cases h) (fun _ => ?_)
        refine Lwp.seq (Lwp.regI hT ?_)
        simp only [L38r4, go_sem, List.isEmpty_nil, isC, eq_self, reduceIte, Nat.reduceAdd, Nat.reduceMul, Nat.reduceSub, Nat.reduceLT, Nat.reduceLeDiff, Nat.reduceEqDiff, Nat.reduceDiv, Nat.reduceMod, Nat.reducePow, Nat.reduceBEq, Nat.reduceBNe, Int.reduceLT, Int.reduceLE, Int.reduceGT, Int.reduceGE, Int.reduceBEq, Int.reduceBNe, Int.reduceToNat, Int.reduceAdd, Int.reduceSub, Int.reduceMul, Int.reduceEq, Int.reduceNeg, reduceCtorEq, decide_true, decide_false, Bool.false_eq_true, ty3, ty4, ty5, ty9, ty22, ty23, ty24, ty38, ty40, ty43, ty27, ty28, ty74, ty75, ty52, eq24, pG, nG, fld0, fld2, l1, rl, dz]
        refine Lwp.cond rfl (fun _ => ?_) (fun h => by cases h)
        refine Lwp.seq (Lwp.regI hT ?_)
        simp only [L38r5, go_sem, List.isEmpty_nil, isC, eq_self, reduceIte, Nat.reduceAdd, Nat.reduceMul, Nat.reduceSub, Nat.reduceLT, Nat.reduceLeDiff, Nat.reduceEqDiff, Nat.reduceDiv, Nat.reduceMod, Nat.reducePow, Nat.reduceBEq, Nat.reduceBNe, Int.reduceLT, Int.reduceLE, Int.reduceGT, Int.reduceGE, Int.reduceBEq, Int.reduceBNe, Int.reduceToNat, Int.reduceAdd, Int.reduceSub, Int.reduceMul, Int.reduceEq, Int.reduceNeg, reduceCtorEq, decide_true, decide_false, Bool.false_eq_true, ty3, ty4, ty5, ty9, ty22, ty23, ty24, ty38, ty40, ty43, ty27, ty28, ty74, ty75, ty52, eq24, pG, nG, fld0, fld2, l1, rl]
        refine Lwp.ret (post_val (v := .tup [AG (List.replicate 6 0), .iface 43 (.int .i64 3)]) ?_ ?_)
        · simp only [go_sem, List.isEmpty_nil, isC, eq_self, reduceIte, Nat.reduceAdd, Nat.reduceMul, Nat.reduceSub, Nat.reduceLT, Nat.reduceLeDiff, Nat.reduceEqDiff, Nat.reduceDiv, Nat.reduceMod, Nat.reducePow, Nat.reduceBEq, Nat.reduceBNe, Int.reduceLT, Int.reduceLE, Int.reduceGT, Int.reduceGE, Int.reduceBEq, Int.reduceBNe, Int.reduceToNat, Int.reduceAdd, Int.reduceSub, Int.reduceMul, Int.reduceEq, Int.reduceNeg, reduceCtorEq, decide_true, decide_false, Bool.false_eq_true, ty24, rl]
        · simp only [go_sem, List.isEmpty_nil, isC, eq_self, reduceIte, Nat.reduceAdd, Nat.reduceMul, Nat.reduceSub, Nat.reduceLT, Nat.reduceLeDiff, Nat.reduceEqDiff, Nat.reduceDiv, Nat.reduceMod, Nat.reducePow, Nat.reduceBEq, Nat.reduceBNe, Int.reduceLT, Int.reduceLE, Int.reduceGT, Int.reduceGE, Int.reduceBEq, Int.reduceBNe, Int.reduceToNat, Int.reduceAdd, Int.reduceSub, Int.reduceMul, Int.reduceEq, Int.reduceNeg, reduceCtorEq, decide_true, decide_false, Bool.false_eq_true]
      · rw [decide_eq_false c4] at dz
        by_cases c3 : bev b < nN
        · have e3 : decN b = lim6 (bev b) := by unfold decN; rw [if_pos ⟨hl, c3, c4⟩]
          have e4 : decF b = .nili := by unfold decF; rw [if_neg c1, if_neg c2, if_pos ⟨c3, c4⟩]
          rw [e3, e4]
          rw [if_pos c3] at f2
          generalize lim6 (bev b) = o at *
          refine Lwp.seq (Lwp.regI hT ?_)
          simp only [L38r0, go_sem, List.isEmpty_nil, isC, eq_self, reduceIte, Nat.reduceAdd, Nat.reduceMul, Nat.reduceSub, Nat.reduceLT, Nat.reduceLeDiff, Nat.reduceEqDiff, Nat.reduceDiv, Nat.reduceMod, Nat.reducePow, Nat.reduceBEq, Nat.reduceBNe, Int.reduceLT, Int.reduceLE, Int.reduceGT, Int.reduceGE, Int.reduceBEq, Int.reduceBNe, Int.reduceToNat, Int.reduceAdd, Int.reduceSub, Int.reduceMul, Int.reduceEq, Int.reduceNeg, reduceCtorEq, decide_true, decide_false, Bool.false_eq_true, ty3, ty4, ty5, ty9, ty22, ty23, ty24, ty38, ty40, ty43, ty27, ty28, ty74, ty75, ty52, eq24, pG, nG, fld0, fld2]
          refine Lwp.seq (Lwp.regI hT ?_)
          simp only [L38r1, go_sem, List.isEmpty_nil, isC, eq_self, reduceIte, Nat.reduceAdd, Nat.reduceMul, Nat.reduceSub, Nat.reduceLT, Nat.reduceLeDiff, Nat.reduceEqDiff, Nat.reduceDiv, Nat.reduceMod, Nat.reducePow, Nat.reduceBEq, Nat.reduceBNe, Int.reduceLT, Int.reduceLE, Int.reduceGT, Int.reduceGE, Int.reduceBEq, Int.reduceBNe, Int.reduceToNat, Int.reduceAdd, Int.reduceSub, Int.reduceMul, Int.reduceEq, Int.reduceNeg, reduceCtorEq, decide_true, decide_false, Bool.false_eq_true, ty3, ty4, ty5, ty9, ty22, ty23, ty24, ty38, ty40, ty43, ty27, ty28, ty74, ty75, ty52, eq24, pG, nG, fld0, fld2, f1, l1]
          refine Lwp.seq (Lwp.block ?_)
          refine Lwp.seq (Lwp.regI hT ?_)
          simp only [L38r2, go_sem, List.isEmpty_nil, isC, eq_self, reduceIte, Nat.reduceAdd, Nat.reduceMul, Nat.reduceSub, Nat.reduceLT, Nat.reduceLeDiff, Nat.reduceEqDiff, Nat.reduceDiv, Nat.reduceMod, Nat.reducePow, Nat.reduceBEq, Nat.reduceBNe, Int.reduceLT, Int.reduceLE, Int.reduceGT, Int.reduceGE, Int.reduceBEq, Int.reduceBNe, Int.reduceToNat, Int.reduceAdd, Int.reduceSub, Int.reduceMul, Int.reduceEq, Int.reduceNeg, reduceCtorEq, decide_true, decide_false, Bool.false_eq_true, ty3, ty4, ty5, ty9, ty22, ty23, ty24, ty38, ty40, ty43, ty27, ty28, ty74, ty75, ty52, eq24, pG, nG, fld0, fld2]
          refine Lwp.cond rfl (fun h => by cases h) (fun _ => ?_)
          refine Lwp.seq (Lwp.regI hT ?_)
          simp only [L38r4, go_sem, List.isEmpty_nil, isC, eq_self, reduceIte, Nat.reduceAdd, Nat.reduceMul, Nat.reduceSub, Nat.reduceLT, Nat.reduceLeDiff, Nat.reduceEqDiff, Nat.reduceDiv, Nat.reduceMod, Nat.reducePow, Nat.reduceBEq, Nat.reduceBNe, Int.reduceLT, Int.reduceLE, Int.reduceGT, Int.reduceGE, Int.reduceBEq, Int.reduceBNe, Int.reduceToNat, Int.reduceAdd, Int.reduceSub, Int.reduceMul, Int.reduceEq, Int.reduceNeg, reduceCtorEq, decide_true, decide_false, Bool.false_eq_true, ty3, ty4, ty5, ty9, ty22, ty23, ty24, ty38, ty40, ty43, ty27, ty28, ty74, ty75, ty52, eq24, pG, nG, fld0, fld2, h1, h2, h3, n1, l1, f2, rl, dz]
          refine Lwp.cond rfl (fun h => by cases h) (fun _ => Lwp.skip ?_)
          simp only [go_sem, List.isEmpty_nil, isC, eq_self, reduceIte, Nat.reduceAdd, Nat.reduceMul, Nat.reduceSub, Nat.reduceLT, Nat.reduceLeDiff, Nat.reduceEqDiff, Nat.reduceDiv, Nat.reduceMod, Nat.reducePow, Nat.reduceBEq, Nat.reduceBNe, Int.reduceLT, Int.reduceLE, Int.reduceGT, Int.reduceGE, Int.reduceBEq, Int.reduceBNe, Int.reduceToNat, Int.reduceAdd, Int.reduceSub, Int.reduceMul, Int.reduceEq, Int.reduceNeg, reduceCtorEq, decide_true, decide_false, Bool.false_eq_true]
          refine Lwp.seq (Lwp.regI hT ?_)
          simp only [L38r6, go_sem, List.isEmpty_nil, isC, eq_self, reduceIte, Nat.reduceAdd, Nat.reduceMul, Nat.reduceSub, Nat.reduceLT, Nat.reduceLeDiff, Nat.reduceEqDiff, Nat.reduceDiv, Nat.reduceMod, Nat.reducePow, Nat.reduceBEq, Nat.reduceBNe, Int.reduceLT, Int.reduceLE, Int.reduceGT, Int.reduceGE, Int.reduceBEq, Int.reduceBNe, Int.reduceToNat, Int.reduceAdd, Int.reduceSub, Int.reduceMul, Int.reduceEq, Int.reduceNeg, reduceCtorEq, decide_true, decide_false, Bool.false_eq_true, ty3, ty4, ty5, ty9, ty22, ty23, ty24, ty38, ty40, ty43, ty27, ty28, ty74, ty75, ty52, eq24, pG, nG, fld0, fld2, l1, rl]
          refine Lwp.ret (post_val (v := .tup [AG o, .nili]) ?_ ?_)
          · simp only [go_sem, List.isEmpty_nil, isC, eq_self, reduceIte, Nat.reduceAdd, Nat.reduceMul, Nat.reduceSub, Nat.reduceLT, Nat.reduceLeDiff, Nat.reduceEqDiff, Nat.reduceDiv, Nat.reduceMod, Nat.reducePow, Nat.reduceBEq, Nat.reduceBNe, Int.reduceLT, Int.reduceLE, Int.reduceGT, Int.reduceGE, Int.reduceBEq, Int.reduceBNe, Int.reduceToNat, Int.reduceAdd, Int.reduceSub, Int.reduceMul, Int.reduceEq, Int.reduceNeg, reduceCtorEq, decide_true, decide_false, Bool.false_eq_true, ty24, l1]
          · simp only [go_sem, List.isEmpty_nil, isC, eq_self, reduceIte, Nat.reduceAdd, Nat.reduceMul, Nat.reduceSub, Nat.reduceLT, Nat.reduceLeDiff, Nat.reduceEqDiff, Nat.reduceDiv, Nat.reduceMod, Nat.reducePow, Nat.reduceBEq, Nat.reduceBNe, Int.reduceLT, Int.reduceLE, Int.reduceGT, Int.reduceGE, Int.reduceBEq, Int.reduceBNe, Int.reduceToNat, Int.reduceAdd, Int.reduceSub, Int.reduceMul, Int.reduceEq, Int.reduceNeg, reduceCtorEq, decide_true, decide_false, Bool.false_eq_true]
        · have e3 : decN b = List.replicate 6 0 := by unfold decN; rw [if_neg (fun h => c3 h.2.1)]
          have e4 : decF b = .iface 43 (.int .i64 3) := by unfold decF; rw [if_neg c1, if_neg c2, if_neg (fun h => c3 h.1)]
          rw [e3, e4]
          rw [if_neg c3] at f2
          generalize lim6 (bev b) = o at *
          refine Lwp.seq (Lwp.regI hT ?_)
          simp only [L38r0, go_sem, List.isEmpty_nil, isC, eq_self, reduceIte, Nat.reduceAdd, Nat.reduceMul, Nat.reduceSub, Nat.reduceLT, Nat.reduceLeDiff, Nat.reduceEqDiff, Nat.reduceDiv, Nat.reduceMod, Nat.reducePow, Nat.reduceBEq, Nat.reduceBNe, Int.reduceLT, Int.reduceLE, Int.reduceGT, Int.reduceGE, Int.reduceBEq, Int.reduceBNe, Int.reduceToNat, Int.reduceAdd, Int.reduceSub, Int.reduceMul, Int.reduceEq, Int.reduceNeg, reduceCtorEq, decide_true, decide_false, Bool.false_eq_true, ty3, ty4, ty5, ty9, ty22, ty23, ty24, ty38, ty40, ty43, ty27, ty28, ty74, ty75, ty52, eq24, pG, nG, fld0, fld2]
          refine Lwp.seq (Lwp.regI hT ?_)
          simp only [L38r1, go_sem, List.isEmpty_nil, isC, eq_self, reduceIte, Nat.reduceAdd, Nat.reduceMul, Nat.reduceSub, Nat.reduceLT, Nat.reduceLeDiff, Nat.reduceEqDiff, Nat.reduceDiv, Nat.reduceMod, Nat.reducePow, Nat.reduceBEq, Nat.reduceBNe, Int.reduceLT, Int.reduceLE, Int.reduceGT, Int.reduceGE, Int.reduceBEq, Int.reduceBNe, Int.reduceToNat, Int.reduceAdd, Int.reduceSub, Int.reduceMul, Int.reduceEq, Int.reduceNeg, reduceCtorEq, decide_true, decide_false, Bool.false_eq_true, ty3, ty4, ty5, ty9, ty22, ty23, ty24, ty38, ty40, ty43, ty27, ty28, ty74, ty75, ty52, eq24, pG, nG, fld0, fld2, f1, l1]
          refine Lwp.seq (Lwp.block ?_)
          refine Lwp.seq (Lwp.regI hT ?_)
          simp only [L38r2, go_sem, List.isEmpty_nil, isC, eq_self, reduceIte, Nat.reduceAdd, Nat.reduceMul, Nat.reduceSub, Nat.reduceLT, Nat.reduceLeDiff, Nat.reduceEqDiff, Nat.reduceDiv, Nat.reduceMod, Nat.reducePow, Nat.reduceBEq, Nat.reduceBNe, Int.reduceLT, Int.reduceLE, Int.reduceGT, Int.reduceGE, Int.reduceBEq, Int.reduceBNe, Int.reduceToNat, Int.reduceAdd, Int.reduceSub, Int.reduceMul, Int.reduceEq, Int.reduceNeg, reduceCtorEq, decide_true, decide_false, Bool.false_eq_true, ty3, ty4, ty5, ty9, ty22, ty23, ty24, ty38, ty40, ty43, ty27, ty28, ty74, ty75, ty52, eq24, pG, nG, fld0, fld2]
          refine Lwp.cond rfl (fun h => by cases h) (fun _ => ?_)
          refine Lwp.seq (Lwp.regI hT ?_)
          simp only [L38r4, go_sem, List.isEmpty_nil, isC, eq_self, reduceIte, Nat.reduceAdd, Nat.reduceMul, Nat.reduceSub, Nat.reduceLT, Nat.reduceLeDiff, Nat.reduceEqDiff, Nat.reduceDiv, Nat.reduceMod, Nat.reducePow, Nat.reduceBEq, Nat.reduceBNe, Int.reduceLT, Int.reduceLE, Int.reduceGT, Int.reduceGE, Int.reduceBEq, Int.reduceBNe, Int.reduceToNat, Int.reduceAdd, Int.reduceSub, Int.reduceMul, Int.reduceEq, Int.reduceNeg, reduceCtorEq, decide_true, decide_false, Bool.false_eq_true, ty3, ty4, ty5, ty9, ty22, ty23, ty24, ty38, ty40, ty43, ty27, ty28, ty74, ty75, ty52, eq24, pG, nG, fld0, fld2, h1, h2, h3, n1, l1, f2, rl, dz]
          refine Lwp.cond rfl (fun _ => ?_) (fun h => by cases h)
          refine Lwp.seq (Lwp.regI hT ?_)
          simp only [L38r5, go_sem, List.isEmpty_nil, isC, eq_self, reduceIte, Nat.reduceAdd, Nat.reduceMul, Nat.reduceSub, Nat.reduceLT, Nat.reduceLeDiff, Nat.reduceEqDiff, Nat.reduceDiv, Nat.reduceMod, Nat.reducePow, Nat.reduceBEq, Nat.reduceBNe, Int.reduceLT, Int.reduceLE, Int.reduceGT, Int.reduceGE, Int.reduceBEq, Int.reduceBNe, Int.reduceToNat, Int.reduceAdd, Int.reduceSub, Int.reduceMul, Int.reduceEq, Int.reduceNeg, reduceCtorEq, decide_true, decide_false, Bool.false_eq_true, ty3, ty4, ty5, ty9, ty22, ty23, ty24, ty38, ty40, ty43, ty27, ty28, ty74, ty75, ty52, eq24, pG, nG, fld0, fld2, l1, rl]
          refine Lwp.ret (post_val (v := .tup [AG (List.replicate 6 0), .iface 43 (.int .i64 3)]) ?_ ?_)
          · simp only [go_sem, List.isEmpty_nil, isC, eq_self, reduceIte, Nat.reduceAdd, Nat.reduceMul, Nat.reduceSub, Nat.reduceLT, Nat.reduceLeDiff, Nat.reduceEqDiff, Nat.reduceDiv, Nat.reduceMod, Nat.reducePow, Nat.reduceBEq, Nat.reduceBNe, Int.reduceLT, Int.reduceLE, Int.reduceGT, Int.reduceGE, Int.reduceBEq, Int.reduceBNe, Int.reduceToNat, Int.reduceAdd, Int.reduceSub, Int.reduceMul, Int.reduceEq, Int.reduceNeg, reduceCtorEq, decide_true, decide_false, Bool.false_eq_true, ty24, rl]
          · simp only [go_sem, List.isEmpty_nil, isC, eq_self, reduceIte, Nat.reduceAdd, Nat.reduceMul, Nat.reduceSub, Nat.reduceLT, Nat.reduceLeDiff, Nat.reduceEqDiff, Nat.reduceDiv, Nat.reduceMod, Nat.reducePow, Nat.reduceBEq, Nat.reduceBNe, Int.reduceLT, Int.reduceLE, Int.reduceGT, Int.reduceGE, Int.reduceBEq, Int.reduceBNe, Int.reduceToNat, Int.reduceAdd, Int.reduceSub, Int.reduceMul, Int.reduceEq, Int.reduceNeg, reduceCtorEq, decide_true, decide_false, Bool.false_eq_true]

/-- What Digest answers. -/
noncomputable def digN (b : List Int) : List Int := if b.length = 48 then lim6 (bev b % nN) else List.replicate 6 0

noncomputable def S39 : List AV → Option Ret := nz (sumOf (fun p : List Int => match p with | b => (U8L b) ∧ (b.length ≤ 9223372036854775807)) (fun p : List Int => match p with | b => [.slc b.length (ints .u8 b)]) (fun p : List Int => match p with | b => ⟨.tup [AG (digN b), fromE b], none⟩))
theorem S39_eq (b : List Int) (h0 : U8L b) (h1 : b.length ≤ 9223372036854775807) : S39 [.slc b.length (ints .u8 b)] = some ⟨.tup [AG (digN b), fromE b], none⟩ :=
  sumOf_eq (dom := (fun p : List Int => match p with | b => (U8L b) ∧ (b.length ≤ 9223372036854775807))) (enc := (fun p : List Int => match p with | b => [.slc b.length (ints .u8 b)])) (out := (fun p : List Int => match p with | b => ⟨.tup [AG (digN b), fromE b], none⟩)) b ⟨h0, h1⟩ (fun y _ e => by
    simp only [List.cons.injEq, AV.agg.injEq, AV.int.injEq, AV.slc.injEq, AV.iptr.injEq, AV.bool.injEq, AV.str.injEq, ints_injEq, dig_injEq,  Int.ofNat_inj, BitVec.toNat_inj, true_and, and_true] at e
    first | with_reducible rfl | simp only [e] | rfl)
theorem S39_inv {args : List AV} {r : Ret} (h : sumOf (fun p : List Int => match p with | b => (U8L b) ∧ (b.length ≤ 9223372036854775807)) (fun p : List Int => match p with | b => [.slc b.length (ints .u8 b)]) (fun p : List Int => match p with | b => ⟨.tup [AG (digN b), fromE b], none⟩) args = some r) : ∃ (b : List Int), ((U8L b) ∧ (b.length ≤ 9223372036854775807)) ∧ args = [.slc b.length (ints .u8 b)] ∧ r = ⟨.tup [AG (digN b), fromE b], none⟩ := by
  obtain ⟨x, h1, h2, h3⟩ := sumOf_inv h
  exact ⟨x, h1, h2.symm, h3⟩

set_option maxRecDepth 100000 in
theorem snd39 : SndG Tryd.prog nG 39 S39 := by
  refine snd_nz (sndG_by (gl := nG) [(56, S56), (23, S23)] [] Tryd.func39 (by kernel_rfl) lite39 nt39 rs39 ⟨(by first | exact snd56 | exact snd56.toG), (by first | exact snd23 | exact snd23.toG), trivial⟩ trivial (fun hT args r h => ?_))
  obtain ⟨b, ⟨hd0, hd1⟩, rfl, rfl⟩ := S39_inv h
  clear h
  have hM := hM0
  refine ⟨Nat.le_of_ble_eq_true rfl, fun F => ?_⟩
  unfold L39
  have f1 := S56_eq b hd0 hd1
  have rl : (List.replicate 6 (0 : Int)).length = 6 := rfl
  by_cases c1 : b.length < 48
  · have e1 : fromL b = List.replicate 6 0 := by unfold fromL; rw [if_neg (by omega)]
    have e2 : fromE b = .iface 43 (.int .i64 6) := by unfold fromE; rw [if_pos c1]
    have e3 : digN b = List.replicate 6 0 := by unfold digN; rw [if_neg (by omega)]
    rw [e1, e2] at f1
    rw [e3, e2]
    refine Lwp.seq (Lwp.regI hT ?_)
    simp only [L39r0, go_sem, List.isEmpty_nil, isC, eq_self, reduceIte, Nat.reduceAdd, Nat.reduceMul, Nat.reduceSub, Nat.reduceLT, Nat.reduceLeDiff, Nat.reduceEqDiff, Nat.reduceDiv, Nat.reduceMod, Nat.reducePow, Nat.reduceBEq, Nat.reduceBNe, Int.reduceLT, Int.reduceLE, Int.reduceGT, Int.reduceGE, Int.reduceBEq, Int.reduceBNe, Int.reduceToNat, Int.reduceAdd, Int.reduceSub, Int.reduceMul, Int.reduceEq, Int.reduceNeg, reduceCtorEq, decide_true, decide_false, Bool.false_eq_true, ty3, ty4, ty5, ty9, ty22, ty23, ty24, ty38, ty40, ty43, ty27, ty28, ty74, ty75, ty52, eq24, pG, nG, fld0, fld2]
    refine Lwp.seq (Lwp.regI hT ?_)
    simp only [L39r1, go_sem, List.isEmpty_nil, isC, eq_self, reduceIte, Nat.reduceAdd, Nat.reduceMul, Nat.reduceSub, Nat.reduceLT, Nat.reduceLeDiff, Nat.reduceEqDiff, Nat.reduceDiv, Nat.reduceMod, Nat.reducePow, Nat.reduceBEq, Nat.reduceBNe, Int.reduceLT, Int.reduceLE, Int.reduceGT, Int.reduceGE, Int.reduceBEq, Int.reduceBNe, Int.reduceToNat, Int.reduceAdd, Int.reduceSub, Int.reduceMul, Int.reduceEq, Int.reduceNeg, reduceCtorEq, decide_true, decide_false, Bool.false_eq_true, ty3, ty4, ty5, ty9, ty22, ty23, ty24, ty38, ty40, ty43, ty27, ty28, ty74, ty75, ty52, eq24, pG, nG, fld0, fld2, f1, rl]
    refine Lwp.seq ?_
    refine Lwp.seq (Lwp.regI hT ?_)
    simp only [L39r2, go_sem, List.isEmpty_nil, isC, eq_self, reduceIte, Nat.reduceAdd, Nat.reduceMul, Nat.reduceSub, Nat.reduceLT, Nat.reduceLeDiff, Nat.reduceEqDiff, Nat.reduceDiv, Nat.reduceMod, Nat.reducePow, Nat.reduceBEq, Nat.reduceBNe, Int.reduceLT, Int.reduceLE, Int.reduceGT, Int.reduceGE, Int.reduceBEq, Int.reduceBNe, Int.reduceToNat, Int.reduceAdd, Int.reduceSub, Int.reduceMul, Int.reduceEq, Int.reduceNeg, reduceCtorEq, decide_true, decide_false, Bool.false_eq_true, ty3, ty4, ty5, ty9, ty22, ty23, ty24, ty38, ty40, ty43, ty27, ty28, ty74, ty75, ty52, eq24, pG, nG, fld0, fld2]
    refine Lwp.cond rfl (fun _ => ?_) (fun h => by cases h)
    refine Lwp.seq (Lwp.regI hT ?_)
    simp only [L39r3, go_sem, List.isEmpty_nil, isC, eq_self, reduceIte, Nat.reduceAdd, Nat.reduceMul, Nat.reduceSub, Nat.reduceLT, Nat.reduceLeDiff, Nat.reduceEqDiff, Nat.reduceDiv, Nat.reduceMod, Nat.reducePow, Nat.reduceBEq, Nat.reduceBNe, Int.reduceLT, Int.reduceLE, Int.reduceGT, Int.reduceGE, Int.reduceBEq, Int.reduceBNe, Int.reduceToNat, Int.reduceAdd, Int.reduceSub, Int.reduceMul, Int.reduceEq, Int.reduceNeg, reduceCtorEq, decide_true, decide_false, Bool.false_eq_true, ty3, ty4, ty5, ty9, ty22, ty23, ty24, ty38, ty40, ty43, ty27, ty28, ty74, ty75, ty52, eq24, pG, nG, fld0, fld2, rl]
    refine Lwp.ret (post_val (v := .tup [AG (List.replicate 6 0), .iface 43 (.int .i64 6)]) ?_ ?_)
    · simp only [go_sem, List.isEmpty_nil, isC, eq_self, reduceIte, Nat.reduceAdd, Nat.reduceMul, Nat.reduceSub, Nat.reduceLT, Nat.reduceLeDiff, Nat.reduceEqDiff, Nat.reduceDiv, Nat.reduceMod, Nat.reducePow, Nat.reduceBEq, Nat.reduceBNe, Int.reduceLT, Int.reduceLE, Int.reduceGT, Int.reduceGE, Int.reduceBEq, Int.reduceBNe, Int.reduceToNat, Int.reduceAdd, Int.reduceSub, Int.reduceMul, Int.reduceEq, Int.reduceNeg, reduceCtorEq, decide_true, decide_false, Bool.false_eq_true, ty24, rl]
    · simp only [go_sem, List.isEmpty_nil, isC, eq_self, reduceIte, Nat.reduceAdd, Nat.reduceMul, Nat.reduceSub, Nat.reduceLT, Nat.reduceLeDiff, Nat.reduceEqDiff, Nat.reduceDiv, Nat.reduceMod, Nat.reducePow, Nat.reduceBEq, Nat.reduceBNe, Int.reduceLT, Int.reduceLE, Int.reduceGT, Int.reduceGE, Int.reduceBEq, Int.reduceBNe, Int.reduceToNat, Int.reduceAdd, Int.reduceSub, Int.reduceMul, Int.reduceEq, Int.reduceNeg, reduceCtorEq, decide_true, decide_false, Bool.false_eq_true]
  · by_cases c2 : b.length > 48
    · have e1 : fromL b = List.replicate 6 0 := by unfold fromL; rw [if_neg (by omega)]
      have e2 : fromE b = .iface 43 (.int .i64 8) := by unfold fromE; rw [if_neg c1, if_pos c2]
      have e3 : digN b = List.replicate 6 0 := by unfold digN; rw [if_neg (by omega)]
      rw [e1, e2] at f1
      rw [e3, e2]
      refine Lwp.seq (Lwp.regI hT ?_)
      simp only [L39r0, go_sem, List.isEmpty_nil, isC, eq_self, reduceIte, Nat.reduceAdd, Nat.reduceMul, Nat.reduceSub, Nat.reduceLT, Nat.reduceLeDiff, Nat.reduceEqDiff, Nat.reduceDiv, Nat.reduceMod, Nat.reducePow, Nat.reduceBEq, Nat.reduceBNe, Int.reduceLT, Int.reduceLE, Int.reduceGT, Int.reduceGE, Int.reduceBEq, Int.reduceBNe, Int.reduceToNat, Int.reduceAdd, Int.reduceSub, Int.reduceMul, Int.reduceEq, Int.reduceNeg, reduceCtorEq, decide_true, decide_false, Bool.false_eq_true, ty3, ty4, ty5, ty9, ty22, ty23, ty24, ty38, ty40, ty43, ty27, ty28, ty74, ty75, ty52, eq24, pG, nG, fld0, fld2]
      refine Lwp.seq (Lwp.regI hT ?_)
      simp only [L39r1, go_sem, List.isEmpty_nil, isC, eq_self, reduceIte, Nat.reduceAdd, Nat.reduceMul, Nat.reduceSub, Nat.reduceLT, Nat.reduceLeDiff, Nat.reduceEqDiff, Nat.reduceDiv, Nat.reduceMod, Nat.reducePow, Nat.reduceBEq, Nat.reduceBNe, Int.reduceLT, Int.reduceLE, Int.reduceGT, Int.reduceGE, Int.reduceBEq, Int.reduceBNe, Int.reduceToNat, Int.reduceAdd, Int.reduceSub, Int.reduceMul, Int.reduceEq, Int.reduceNeg, reduceCtorEq, decide_true, decide_false, Bool.false_eq_true, ty3, ty4, ty5, ty9, ty22, ty23, ty24, ty38, ty40, ty43, ty27, ty28, ty74, ty75, ty52, eq24, pG, nG, fld0, fld2, f1, rl]
      refine Lwp.seq ?_
      refine Lwp.seq (Lwp.regI hT ?_)
      simp only [L39r2, go_sem, List.isEmpty_nil, isC, eq_self, reduceIte, Nat.reduceAdd, Nat.reduceMul, Nat.reduceSub, Nat.reduceLT, Nat.reduceLeDiff, Nat.reduceEqDiff, Nat.reduceDiv, Nat.reduceMod, Nat.reducePow, Nat.reduceBEq, Nat.reduceBNe, Int.reduceLT, Int.reduceLE, Int.reduceGT, Int.reduceGE, Int.reduceBEq, Int.reduceBNe, Int.reduceToNat, Int.reduceAdd, Int.reduceSub, Int.reduceMul, Int.reduceEq, Int.reduceNeg, reduceCtorEq, decide_true, decide_false, Bool.false_eq_true, ty3, ty4, ty5, ty9, ty22, ty23, ty24, ty38, ty40, ty43, ty27, ty28, ty74, ty75, ty52, eq24, pG, nG, fld0, fld2]
      refine Lwp.cond rfl (fun _ => ?_) (fun h => by cases h)
      refine Lwp.seq (Lwp.regI hT ?_)
      simp only [L39r3, go_sem, List.isEmpty_nil, isC, eq_self, reduceIte, Nat.reduceAdd, Nat.reduceMul, Nat.reduceSub, Nat.reduceLT, Nat.reduceLeDiff, Nat.reduceEqDiff, Nat.reduceDiv, Nat.reduceMod, Nat.reducePow, Nat.reduceBEq, Nat.reduceBNe, Int.reduceLT, Int.reduceLE, Int.reduceGT, Int.reduceGE, Int.reduceBEq, Int.reduceBNe, Int.reduceToNat, Int.reduceAdd, Int.reduceSub, Int.reduceMul, Int.reduceEq, Int.reduceNeg, reduceCtorEq, decide_true, decide_false, Bool.false_eq_true, ty3, ty4, ty5, ty9, ty22, ty23, ty24, ty38, ty40, ty43, ty27, ty28, ty74, ty75, ty52, eq24, pG, nG, fld0, fld2, rl]
      refine Lwp.ret (post_val (v := .tup [AG (List.replicate 6 0), .iface 43 (.int .i64 8)]) ?_ ?_)
      · simp only [go_sem, List.isEmpty_nil, isC, eq_self, reduceIte, Nat.reduceAdd, Nat.reduceMul, Nat.reduceSub, Nat.reduceLT, Nat.reduceLeDiff, Nat.reduceEqDiff, Nat.reduceDiv, Nat.reduceMod, Nat.reducePow, Nat.reduceBEq, Nat.reduceBNe, Int.reduceLT, Int.reduceLE, Int.reduceGT, Int.reduceGE, Int.reduceBEq, Int.reduceBNe, Int.reduceToNat, Int.reduceAdd, Int.reduceSub, Int.reduceMul, Int.reduceEq, Int.reduceNeg, reduceCtorEq, decide_true, decide_false, Bool.false_eq_true, ty24, rl]
      · simp only [go_sem, List.isEmpty_nil, isC, eq_self, reduceIte, Nat.reduceAdd, Nat.reduceMul, Nat.reduceSub, Nat.reduceLT, Nat.reduceLeDiff, Nat.reduceEqDiff, Nat.reduceDiv, Nat.reduceMod, Nat.reducePow, Nat.reduceBEq, Nat.reduceBNe, Int.reduceLT, Int.reduceLE, Int.reduceGT, Int.reduceGE, Int.reduceBEq, Int.reduceBNe, Int.reduceToNat, Int.reduceAdd, Int.reduceSub, Int.reduceMul, Int.reduceEq, Int.reduceNeg, reduceCtorEq, decide_true, decide_false, Bool.false_eq_true]
    · have hl : b.length = 48 := by omega
      have e1 : fromL b = lim6 (bev b) := by unfold fromL; rw [if_pos hl]
      have e2 : fromE b = .nili := by unfold fromE; rw [if_neg c1, if_neg c2]
      have e3 : digN b = lim6 (bev b % nN) := by unfold digN; rw [if_pos hl]
      rw [e1, e2] at f1
      rw [e3, e2]
      have lt := bev48 hd0 hl
      have f2 := S23_eq (lim6 (bev b)) (U6_lim _)
      rw [v64_lim6 lt] at f2
      have l1 := lim6_len (bev b)
      have l2 := lim6_len (bev b % nN)
      generalize lim6 (bev b) = o at *
      generalize lim6 (bev b % nN) = o2 at *
      refine Lwp.seq (Lwp.regI hT ?_)
      simp only [L39r0, go_sem, List.isEmpty_nil, isC, eq_self, reduceIte, Nat.reduceAdd, Nat.reduceMul, Nat.reduceSub, Nat.reduceLT, Nat.reduceLeDiff, Nat.reduceEqDiff, Nat.reduceDiv, Nat.reduceMod, Nat.reducePow, Nat.reduceBEq, Nat.reduceBNe, Int.reduceLT, Int.reduceLE, Int.reduceGT, Int.reduceGE, Int.reduceBEq, Int.reduceBNe, Int.reduceToNat, Int.reduceAdd, Int.reduceSub, Int.reduceMul, Int.reduceEq, Int.reduceNeg, reduceCtorEq, decide_true, decide_false, Bool.false_eq_true, ty3, ty4, ty5, ty9, ty22, ty23, ty24, ty38, ty40, ty43, ty27, ty28, ty74, ty75, ty52, eq24, pG, nG, fld0, fld2]
      refine Lwp.seq (Lwp.regI hT ?_)
      simp only [L39r1, go_sem, List.isEmpty_nil, isC, eq_self, reduceIte, Nat.reduceAdd, Nat.reduceMul, Nat.reduceSub, Nat.reduceLT, Nat.reduceLeDiff, Nat.reduceEqDiff, Nat.reduceDiv, Nat.reduceMod, Nat.reducePow, Nat.reduceBEq, Nat.reduceBNe, Int.reduceLT, Int.reduceLE, Int.reduceGT, Int.reduceGE, Int.reduceBEq, Int.reduceBNe, Int.reduceToNat, Int.reduceAdd, Int.reduceSub, Int.reduceMul, Int.reduceEq, Int.reduceNeg, reduceCtorEq, decide_true, decide_false, Bool.false_eq_true, ty3, ty4, ty5, ty9, ty22, ty23, ty24, ty38, ty40, ty43, ty27, ty28, ty74, ty75, ty52, eq24, pG, nG, fld0, fld2, f1, l1]
      refine Lwp.seq ?_
      refine Lwp.seq (Lwp.regI hT ?_)
      simp only [L39r2, go_sem, List.isEmpty_nil, isC, eq_self, reduceIte, Nat.reduceAdd, Nat.reduceMul, Nat.reduceSub, Nat.reduceLT, Nat.reduceLeDiff, Nat.reduceEqDiff, Nat.reduceDiv, Nat.reduceMod, Nat.reducePow, Nat.reduceBEq, Nat.reduceBNe, Int.reduceLT, Int.reduceLE, Int.reduceGT, Int.reduceGE, Int.reduceBEq, Int.reduceBNe, Int.reduceToNat, Int.reduceAdd, Int.reduceSub, Int.reduceMul, Int.reduceEq, Int.reduceNeg, reduceCtorEq, decide_true, decide_false, Bool.false_eq_true, ty3, ty4, ty5, ty9, ty22, ty23, ty24, ty38, ty40, ty43, ty27, ty28, ty74, ty75, ty52, eq24, pG, nG, fld0, fld2]
      refine Lwp.cond rfl (fun h => by cases h) (fun _ => Lwp.skip ?_)
      simp only [go_sem, List.isEmpty_nil, isC, eq_self, reduceIte, Nat.reduceAdd, Nat.reduceMul, Nat.reduceSub, Nat.reduceLT, Nat.reduceLeDiff, Nat.reduceEqDiff, Nat.reduceDiv, Nat.reduceMod, Nat.reducePow, Nat.reduceBEq, Nat.reduceBNe, Int.reduceLT, Int.reduceLE, Int.reduceGT, Int.reduceGE, Int.reduceBEq, Int.reduceBNe, Int.reduceToNat, Int.reduceAdd, Int.reduceSub, Int.reduceMul, Int.reduceEq, Int.reduceNeg, reduceCtorEq, decide_true, decide_false, Bool.false_eq_true]
      refine Lwp.seq (Lwp.regI hT ?_)
      simp only [L39r4, go_sem, List.isEmpty_nil, isC, eq_self, reduceIte, Nat.reduceAdd, Nat.reduceMul, Nat.reduceSub, Nat.reduceLT, Nat.reduceLeDiff, Nat.reduceEqDiff, Nat.reduceDiv, Nat.reduceMod, Nat.reducePow, Nat.reduceBEq, Nat.reduceBNe, Int.reduceLT, Int.reduceLE, Int.reduceGT, Int.reduceGE, Int.reduceBEq, Int.reduceBNe, Int.reduceToNat, Int.reduceAdd, Int.reduceSub, Int.reduceMul, Int.reduceEq, Int.reduceNeg, reduceCtorEq, decide_true, decide_false, Bool.false_eq_true, ty3, ty4, ty5, ty9, ty22, ty23, ty24, ty38, ty40, ty43, ty27, ty28, ty74, ty75, ty52, eq24, pG, nG, fld0, fld2, l1, l2, f2, rl]
      refine Lwp.ret (post_val (v := .tup [AG o2, .nili]) ?_ ?_)
      · simp only [go_sem, List.isEmpty_nil, isC, eq_self, reduceIte, Nat.reduceAdd, Nat.reduceMul, Nat.reduceSub, Nat.reduceLT, Nat.reduceLeDiff, Nat.reduceEqDiff, Nat.reduceDiv, Nat.reduceMod, Nat.reducePow, Nat.reduceBEq, Nat.reduceBNe, Int.reduceLT, Int.reduceLE, Int.reduceGT, Int.reduceGE, Int.reduceBEq, Int.reduceBNe, Int.reduceToNat, Int.reduceAdd, Int.reduceSub, Int.reduceMul, Int.reduceEq, Int.reduceNeg, reduceCtorEq, decide_true, decide_false, Bool.false_eq_true, ty24, l2]
      · simp only [go_sem, List.isEmpty_nil, isC, eq_self, reduceIte, Nat.reduceAdd, Nat.reduceMul, Nat.reduceSub, Nat.reduceLT, Nat.reduceLeDiff, Nat.reduceEqDiff, Nat.reduceDiv, Nat.reduceMod, Nat.reducePow, Nat.reduceBEq, Nat.reduceBNe, Int.reduceLT, Int.reduceLE, Int.reduceGT, Int.reduceGE, Int.reduceBEq, Int.reduceBNe, Int.reduceToNat, Int.reduceAdd, Int.reduceSub, Int.reduceMul, Int.reduceEq, Int.reduceNeg, reduceCtorEq, decide_true, decide_false, Bool.false_eq_true]
end Eng


namespace Eng
open Go Go.Proofs
set_option linter.unusedSimpArgs false
set_option linter.unusedVariables false
noncomputable def S7 : List AV → Option Ret := nz (sumOf (fun p : List Int => match p with | b => (U8L b) ∧ (b.length ≤ 9223372036854775807)) (fun p : List Int => match p with | b => [.slc b.length (ints .u8 b)]) (fun p : List Int => match p with | b => ⟨.bool true, none⟩))
theorem S7_eq (b : List Int) (h0 : U8L b) (h1 : b.length ≤ 9223372036854775807) : S7 [.slc b.length (ints .u8 b)] = some ⟨.bool true, none⟩ :=
  sumOf_eq (dom := (fun p : List Int => match p with | b => (U8L b) ∧ (b.length ≤ 9223372036854775807))) (enc := (fun p : List Int => match p with | b => [.slc b.length (ints .u8 b)])) (out := (fun p : List Int => match p with | b => ⟨.bool true, none⟩)) b ⟨h0, h1⟩ (fun y _ e => by
    simp only [List.cons.injEq, AV.agg.injEq, AV.int.injEq, AV.slc.injEq, AV.iptr.injEq, AV.bool.injEq, AV.str.injEq, ints_injEq, dig_injEq,  Int.ofNat_inj, BitVec.toNat_inj, true_and, and_true] at e
    first | with_reducible rfl | simp only [e] | rfl)
theorem S7_inv {args : List AV} {r : Ret} (h : sumOf (fun p : List Int => match p with | b => (U8L b) ∧ (b.length ≤ 9223372036854775807)) (fun p : List Int => match p with | b => [.slc b.length (ints .u8 b)]) (fun p : List Int => match p with | b => ⟨.bool true, none⟩) args = some r) : ∃ (b : List Int), ((U8L b) ∧ (b.length ≤ 9223372036854775807)) ∧ args = [.slc b.length (ints .u8 b)] ∧ r = ⟨.bool true, none⟩ := by
  obtain ⟨x, h1, h2, h3⟩ := sumOf_inv h
  exact ⟨x, h1, h2.symm, h3⟩

set_option maxRecDepth 100000 in
theorem snd7 : SndG Tryd.prog nG 7 S7 := by
  refine snd_nz (sndG_by (gl := nG) [(20, S20), (22, S22), (24, S24), (28, S28), (36, S36), (37, S37), (38, S38), (39, S39)] [] Tryd.func7 (by kernel_rfl) lite7 nt7 rs7 ⟨(by first | exact snd20 | exact snd20.toG), (by first | exact snd22 | exact snd22.toG), (by first | exact snd24 | exact snd24.toG), (by first | exact snd28 | exact snd28.toG), (by first | exact snd36 | exact snd36.toG), (by first | exact snd37 | exact snd37.toG), (by first | exact snd38 | exact snd38.toG), (by first | exact snd39 | exact snd39.toG), trivial⟩ trivial (fun hT args r h => ?_))
  obtain ⟨b, ⟨hd0, hd1⟩, rfl, rfl⟩ := S7_inv h
  clear h
  have hM := hM0
  refine ⟨Nat.le_of_ble_eq_true rfl, fun F => ?_⟩
  unfold L7
  have f0 := S28_eq
  have f1 := S38_eq b hd0 hd1
  have g1 := S39_eq b hd0 hd1
  have rl : (List.replicate 6 (0 : Int)).length = 6 := rfl
  by_cases c1 : b.length < 48
  · have e3 : decN b = List.replicate 6 0 := by unfold decN; rw [if_neg (by omega)]
    have e4 : decF b = .iface 43 (.int .i64 6) := by unfold decF; rw [if_pos c1]
    have e5 : digN b = List.replicate 6 0 := by unfold digN; rw [if_neg (by omega)]
    have e6 : fromE b = .iface 43 (.int .i64 6) := by unfold fromE; rw [if_pos c1]
    have a1 : ((b.length : Nat) : Int) < 48 := by omega
    rw [e3, e4] at f1
    rw [e5, e6] at g1
    refine Lwp.seq (Lwp.regI hT ?_)
    simp only [L7r0, go_sem, List.isEmpty_nil, isC, eq_self, reduceIte, Nat.reduceAdd, Nat.reduceMul, Nat.reduceSub, Nat.reduceLT, Nat.reduceLeDiff, Nat.reduceEqDiff, Nat.reduceDiv, Nat.reduceMod, Nat.reducePow, Nat.reduceBEq, Nat.reduceBNe, Int.reduceLT, Int.reduceLE, Int.reduceGT, Int.reduceGE, Int.reduceBEq, Int.reduceBNe, Int.reduceToNat, Int.reduceAdd, Int.reduceSub, Int.reduceMul, Int.reduceEq, Int.reduceNeg, reduceCtorEq, decide_true, decide_false, Bool.false_eq_true, ty3, ty4, ty5, ty9, ty22, ty23, ty24, ty38, ty40, ty43, ty27, ty28, ty74, ty75, ty52, eq24, pG, nG, fld0, fld2]
    refine Lwp.seq (Lwp.regI hT ?_)
    simp only [L7r1, go_sem, List.isEmpty_nil, isC, eq_self, reduceIte, Nat.reduceAdd, Nat.reduceMul, Nat.reduceSub, Nat.reduceLT, Nat.reduceLeDiff, Nat.reduceEqDiff, Nat.reduceDiv, Nat.reduceMod, Nat.reducePow, Nat.reduceBEq, Nat.reduceBNe, Int.reduceLT, Int.reduceLE, Int.reduceGT, Int.reduceGE, Int.reduceBEq, Int.reduceBNe, Int.reduceToNat, Int.reduceAdd, Int.reduceSub, Int.reduceMul, Int.reduceEq, Int.reduceNeg, reduceCtorEq, decide_true, decide_false, Bool.false_eq_true, ty3, ty4, ty5, ty9, ty22, ty23, ty24, ty38, ty40, ty43, ty27, ty28, ty74, ty75, ty52, eq24, pG, nG, fld0, fld2, f1, rl]
    refine Lwp.seq (Lwp.regI hT ?_)
    simp only [L7r2, go_sem, List.isEmpty_nil, isC, eq_self, reduceIte, Nat.reduceAdd, Nat.reduceMul, Nat.reduceSub, Nat.reduceLT, Nat.reduceLeDiff, Nat.reduceEqDiff, Nat.reduceDiv, Nat.reduceMod, Nat.reducePow, Nat.reduceBEq, Nat.reduceBNe, Int.reduceLT, Int.reduceLE, Int.reduceGT, Int.reduceGE, Int.reduceBEq, Int.reduceBNe, Int.reduceToNat, Int.reduceAdd, Int.reduceSub, Int.reduceMul, Int.reduceEq, Int.reduceNeg, reduceCtorEq, decide_true, decide_false, Bool.false_eq_true, ty3, ty4, ty5, ty9, ty22, ty23, ty24, ty38, ty40, ty43, ty27, ty28, ty74, ty75, ty52, eq24, pG, nG, fld0, fld2, g1, rl]
    refine Lwp.seq ?_
    refine Lwp.seq (Lwp.regI hT ?_)
    simp only [L7r3, go_sem, List.isEmpty_nil, isC, eq_self, reduceIte, Nat.reduceAdd, Nat.reduceMul, Nat.reduceSub, Nat.reduceLT, Nat.reduceLeDiff, Nat.reduceEqDiff, Nat.reduceDiv, Nat.reduceMod, Nat.reducePow, Nat.reduceBEq, Nat.reduceBNe, Int.reduceLT, Int.reduceLE, Int.reduceGT, Int.reduceGE, Int.reduceBEq, Int.reduceBNe, Int.reduceToNat, Int.reduceAdd, Int.reduceSub, Int.reduceMul, Int.reduceEq, Int.reduceNeg, reduceCtorEq, decide_true, decide_false, Bool.false_eq_true, ty3, ty4, ty5, ty9, ty22, ty23, ty24, ty38, ty40, ty43, ty27, ty28, ty74, ty75, ty52, eq24, pG, nG, fld0, fld2, a1]
    refine Lwp.cond rfl (fun _ => ?_) (fun h => by cases h)
    refine Lwp.seq (Lwp.regI hT ?_)
    simp only [L7r4, go_sem, List.isEmpty_nil, isC, eq_self, reduceIte, Nat.reduceAdd, Nat.reduceMul, Nat.reduceSub, Nat.reduceLT, Nat.reduceLeDiff, Nat.reduceEqDiff, Nat.reduceDiv, Nat.reduceMod, Nat.reducePow, Nat.reduceBEq, Nat.reduceBNe, Int.reduceLT, Int.reduceLE, Int.reduceGT, Int.reduceGE, Int.reduceBEq, Int.reduceBNe, Int.reduceToNat, Int.reduceAdd, Int.reduceSub, Int.reduceMul, Int.reduceEq, Int.reduceNeg, reduceCtorEq, decide_true, decide_false, Bool.false_eq_true, ty3, ty4, ty5, ty9, ty22, ty23, ty24, ty38, ty40, ty43, ty27, ty28, ty74, ty75, ty52, eq24, pG, nG, fld0, fld2, f0, rl]
    refine Lwp.ret (post_val (v := .bool true) ?_ ?_)
    · simp only [go_sem, List.isEmpty_nil, isC, eq_self, reduceIte, Nat.reduceAdd, Nat.reduceMul, Nat.reduceSub, Nat.reduceLT, Nat.reduceLeDiff, Nat.reduceEqDiff, Nat.reduceDiv, Nat.reduceMod, Nat.reducePow, Nat.reduceBEq, Nat.reduceBNe, Int.reduceLT, Int.reduceLE, Int.reduceGT, Int.reduceGE, Int.reduceBEq, Int.reduceBNe, Int.reduceToNat, Int.reduceAdd, Int.reduceSub, Int.reduceMul, Int.reduceEq, Int.reduceNeg, reduceCtorEq, decide_true, decide_false, Bool.false_eq_true]
    · simp only [go_sem, List.isEmpty_nil, isC, eq_self, reduceIte, Nat.reduceAdd, Nat.reduceMul, Nat.reduceSub, Nat.reduceLT, Nat.reduceLeDiff, Nat.reduceEqDiff, Nat.reduceDiv, Nat.reduceMod, Nat.reducePow, Nat.reduceBEq, Nat.reduceBNe, Int.reduceLT, Int.reduceLE, Int.reduceGT, Int.reduceGE, Int.reduceBEq, Int.reduceBNe, Int.reduceToNat, Int.reduceAdd, Int.reduceSub, Int.reduceMul, Int.reduceEq, Int.reduceNeg, reduceCtorEq, decide_true, decide_false, Bool.false_eq_true]
  · have a1 : ¬ ((b.length : Nat) : Int) < 48 := by omega
    by_cases c2 : b.length > 48
    · have e3 : decN b = List.replicate 6 0 := by unfold decN; rw [if_neg (by omega)]
      have e4 : decF b = .iface 43 (.int .i64 8) := by unfold decF; rw [if_neg c1, if_pos c2]
      have e5 : digN b = List.replicate 6 0 := by unfold digN; rw [if_neg (by omega)]
      have e6 : fromE b = .iface 43 (.int .i64 8) := by unfold fromE; rw [if_neg c1, if_pos c2]
      have a2 : ((b.length : Nat) : Int) > 48 := by omega
      rw [e3, e4] at f1
      rw [e5, e6] at g1
      refine Lwp.seq (Lwp.regI hT ?_)
      simp only [L7r0, go_sem, List.isEmpty_nil, isC, eq_self, reduceIte, Nat.reduceAdd, Nat.reduceMul, Nat.reduceSub, Nat.reduceLT, Nat.reduceLeDiff, Nat.reduceEqDiff, Nat.reduceDiv, Nat.reduceMod, Nat.reducePow, Nat.reduceBEq, Nat.reduceBNe, Int.reduceLT, Int.reduceLE, Int.reduceGT, Int.reduceGE, Int.reduceBEq, Int.reduceBNe, Int.reduceToNat, Int.reduceAdd, Int.reduceSub, Int.reduceMul, Int.reduceEq, Int.reduceNeg, reduceCtorEq, decide_true, decide_false, Bool.false_eq_true, ty3, ty4, ty5, ty9, ty22, ty23, ty24, ty38, ty40, ty43, ty27, ty28, ty74, ty75, ty52, eq24, pG, nG, fld0, fld2]
      refine Lwp.seq (Lwp.regI hT ?_)
      simp only [L7r1, go_sem, List.isEmpty_nil, isC, eq_self, reduceIte, Nat.reduceAdd, Nat.reduceMul, Nat.reduceSub, Nat.reduceLT, Nat.reduceLeDiff, Nat.reduceEqDiff, Nat.reduceDiv, Nat.reduceMod, Nat.reducePow, Nat.reduceBEq, Nat.reduceBNe, Int.reduceLT, Int.reduceLE, Int.reduceGT, Int.reduceGE, Int.reduceBEq, Int.reduceBNe, Int.reduceToNat, Int.reduceAdd, Int.reduceSub, Int.reduceMul, Int.reduceEq, Int.reduceNeg, reduceCtorEq, decide_true, decide_false, Bool.false_eq_true, ty3, ty4, ty5, ty9, ty22, ty23, ty24, ty38, ty40, ty43, ty27, ty28, ty74, ty75, ty52, eq24, pG, nG, fld0, fld2, f1, rl]
      refine Lwp.seq (Lwp.regI hT ?_)
      simp only [L7r2, go_sem, List.isEmpty_nil, isC, eq_self, reduceIte, Nat.reduceAdd, Nat.reduceMul, Nat.reduceSub, Nat.reduceLT, Nat.reduceLeDiff, Nat.reduceEqDiff, Nat.reduceDiv, Nat.reduceMod, Nat.reducePow, Nat.reduceBEq, Nat.reduceBNe, Int.reduceLT, Int.reduceLE, Int.reduceGT, Int.reduceGE, Int.reduceBEq, Int.reduceBNe, Int.reduceToNat, Int.reduceAdd, Int.reduceSub, Int.reduceMul, Int.reduceEq, Int.reduceNeg, reduceCtorEq, decide_true, decide_false, Bool.false_eq_true, ty3, ty4, ty5, ty9, ty22, ty23, ty24, ty38, ty40, ty43, ty27, ty28, ty74, ty75, ty52, eq24, pG, nG, fld0, fld2, g1, rl]
      refine Lwp.seq ?_
      refine Lwp.seq (Lwp.regI hT ?_)
      simp only [L7r3, go_sem, List.isEmpty_nil, isC, eq_self, reduceIte, Nat.reduceAdd, Nat.reduceMul, Nat.reduceSub, Nat.reduceLT, Nat.reduceLeDiff, Nat.reduceEqDiff, Nat.reduceDiv, Nat.reduceMod, Nat.reducePow, Nat.reduceBEq, Nat.reduceBNe, Int.reduceLT, Int.reduceLE, Int.reduceGT, Int.reduceGE, Int.reduceBEq, Int.reduceBNe, Int.reduceToNat, Int.reduceAdd, Int.reduceSub, Int.reduceMul, Int.reduceEq, Int.reduceNeg, reduceCtorEq, decide_true, decide_false, Bool.false_eq_true, ty3, ty4, ty5, ty9, ty22, ty23, ty24, ty38, ty40, ty43, ty27, ty28, ty74, ty75, ty52, eq24, pG, nG, fld0, fld2, a1]
      refine Lwp.cond rfl (fun h => by cases h) (fun _ => Lwp.skip ?_)
      simp only [go_sem, List.isEmpty_nil, isC, eq_self, reduceIte, Nat.reduceAdd, Nat.reduceMul, Nat.reduceSub, Nat.reduceLT, Nat.reduceLeDiff, Nat.reduceEqDiff, Nat.reduceDiv, Nat.reduceMod, Nat.reducePow, Nat.reduceBEq, Nat.reduceBNe, Int.reduceLT, Int.reduceLE, Int.reduceGT, Int.reduceGE, Int.reduceBEq, Int.reduceBNe, Int.reduceToNat, Int.reduceAdd, Int.reduceSub, Int.reduceMul, Int.reduceEq, Int.reduceNeg, reduceCtorEq, decide_true, decide_false, Bool.false_eq_true]
      refine Lwp.seq ?_
      refine Lwp.seq (Lwp.regI hT ?_)
      simp only [L7r5, go_sem, List.isEmpty_nil, isC, eq_self, reduceIte, Nat.reduceAdd, Nat.reduceMul, Nat.reduceSub, Nat.reduceLT, Nat.reduceLeDiff, Nat.reduceEqDiff, Nat.reduceDiv, Nat.reduceMod, Nat.reducePow, Nat.reduceBEq, Nat.reduceBNe, Int.reduceLT, Int.reduceLE, Int.reduceGT, Int.reduceGE, Int.reduceBEq, Int.reduceBNe, Int.reduceToNat, Int.reduceAdd, Int.reduceSub, Int.reduceMul, Int.reduceEq, Int.reduceNeg, reduceCtorEq, decide_true, decide_false, Bool.false_eq_true, ty3, ty4, ty5, ty9, ty22, ty23, ty24, ty38, ty40, ty43, ty27, ty28, ty74, ty75, ty52, eq24, pG, nG, fld0, fld2, a2]
      refine Lwp.cond rfl (fun _ => ?_) (fun h => by cases h)
      refine Lwp.seq (Lwp.regI hT ?_)
      simp only [L7r6, go_sem, List.isEmpty_nil, isC, eq_self, reduceIte, Nat.reduceAdd, Nat.reduceMul, Nat.reduceSub, Nat.reduceLT, Nat.reduceLeDiff, Nat.reduceEqDiff, Nat.reduceDiv, Nat.reduceMod, Nat.reducePow, Nat.reduceBEq, Nat.reduceBNe, Int.reduceLT, Int.reduceLE, Int.reduceGT, Int.reduceGE, Int.reduceBEq, Int.reduceBNe, Int.reduceToNat, Int.reduceAdd, Int.reduceSub, Int.reduceMul, Int.reduceEq, Int.reduceNeg, reduceCtorEq, decide_true, decide_false, Bool.false_eq_true, ty3, ty4, ty5, ty9, ty22, ty23, ty24, ty38, ty40, ty43, ty27, ty28, ty74, ty75, ty52, eq24, pG, nG, fld0, fld2, f0, rl]
      refine Lwp.ret (post_val (v := .bool true) ?_ ?_)
      · simp only [go_sem, List.isEmpty_nil, isC, eq_self, reduceIte, Nat.reduceAdd, Nat.reduceMul, Nat.reduceSub, Nat.reduceLT, Nat.reduceLeDiff, Nat.reduceEqDiff, Nat.reduceDiv, Nat.reduceMod, Nat.reducePow, Nat.reduceBEq, Nat.reduceBNe, Int.reduceLT, Int.reduceLE, Int.reduceGT, Int.reduceGE, Int.reduceBEq, Int.reduceBNe, Int.reduceToNat, Int.reduceAdd, Int.reduceSub, Int.reduceMul, Int.reduceEq, Int.reduceNeg, reduceCtorEq, decide_true, decide_false, Bool.false_eq_true]
      · simp only [go_sem, List.isEmpty_nil, isC, eq_self, reduceIte, Nat.reduceAdd, Nat.reduceMul, Nat.reduceSub, Nat.reduceLT, Nat.reduceLeDiff, Nat.reduceEqDiff, Nat.reduceDiv, Nat.reduceMod, Nat.reducePow, Nat.reduceBEq, Nat.reduceBNe, Int.reduceLT, Int.reduceLE, Int.reduceGT, Int.reduceGE, Int.reduceBEq, Int.reduceBNe, Int.reduceToNat, Int.reduceAdd, Int.reduceSub, Int.reduceMul, Int.reduceEq, Int.reduceNeg, reduceCtorEq, decide_true, decide_false, Bool.false_eq_true]
    · have a2 : ¬ ((b.length : Nat) : Int) > 48 := by omega
      have hl : b.length = 48 := by omega
      have lt := bev48 hd0 hl
      have f2 := S36_eq b hd0 (by omega)
      have f3 := S22_eq
      have f4 := S37_eq (bev b) nN (Nat.le_trans (dig12 lt) (by decide)) (Nat.le_trans (dig12 nN_ltR) (by decide))
      have e5 : digN b = lim6 (bev b % nN) := by unfold digN; rw [if_pos hl]
      have e6 : fromE b = .nili := by unfold fromE; rw [if_neg c1, if_neg c2]
      rw [e5, e6] at g1
      have g2 := S24_eq (bev b) (dlR lt)
      have g3 := S20_eq (lim6 (bev b % nN)) (bev b % nN) (U6_lim _) (le6 (dlR (nN_mod_lt _)))
      have l2 := lim6_len (bev b % nN)
      generalize lim6 (bev b % nN) = o2 at *
      generalize dig (bev b % nN) = d2 at *
      by_cases c4 : bev b = 0
      · have e3 : decN b = List.replicate 6 0 := by unfold decN; rw [if_neg (fun h => h.2.2 c4)]
        have e4 : decF b = .iface 43 (.int .i64 3) := by unfold decF; rw [if_neg c1, if_neg c2, if_neg (fun h => h.2 c4)]
        rw [e3, e4] at f1
        have dn : dig (bev b) = [] := by rw [c4, dig_nil]
        rw [dn] at f2 g2
        simp only [DS, List.length_nil, ints_nil] at f2 g2
        refine Lwp.seq (Lwp.regI hT ?_)
        simp only [L7r0, go_sem, List.isEmpty_nil, isC, eq_self, reduceIte, Nat.reduceAdd, Nat.reduceMul, Nat.reduceSub, Nat.reduceLT, Nat.reduceLeDiff, Nat.reduceEqDiff, Nat.reduceDiv, Nat.reduceMod, Nat.reducePow, Nat.reduceBEq, Nat.reduceBNe, Int.reduceLT, Int.reduceLE, Int.reduceGT, Int.reduceGE, Int.reduceBEq, Int.reduceBNe, Int.reduceToNat, Int.reduceAdd, Int.reduceSub, Int.reduceMul, Int.reduceEq, Int.reduceNeg, reduceCtorEq, decide_true, decide_false, Bool.false_eq_true, ty3, ty4, ty5, ty9, ty22, ty23, ty24, ty38, ty40, ty43, ty27, ty28, ty74, ty75, ty52, eq24, pG, nG, fld0, fld2]
        refine Lwp.seq (Lwp.regI hT ?_)
        simp only [L7r1, go_sem, List.isEmpty_nil, isC, eq_self, reduceIte, Nat.reduceAdd, Nat.reduceMul, Nat.reduceSub, Nat.reduceLT, Nat.reduceLeDiff, Nat.reduceEqDiff, Nat.reduceDiv, Nat.reduceMod, Nat.reducePow, Nat.reduceBEq, Nat.reduceBNe, Int.reduceLT, Int.reduceLE, Int.reduceGT, Int.reduceGE, Int.reduceBEq, Int.reduceBNe, Int.reduceToNat, Int.reduceAdd, Int.reduceSub, Int.reduceMul, Int.reduceEq, Int.reduceNeg, reduceCtorEq, decide_true, decide_false, Bool.false_eq_true, ty3, ty4, ty5, ty9, ty22, ty23, ty24, ty38, ty40, ty43, ty27, ty28, ty74, ty75, ty52, eq24, pG, nG, fld0, fld2, f1, rl]
        refine Lwp.seq (Lwp.regI hT ?_)
        simp only [L7r2, go_sem, List.isEmpty_nil, isC, eq_self, reduceIte, Nat.reduceAdd, Nat.reduceMul, Nat.reduceSub, Nat.reduceLT, Nat.reduceLeDiff, Nat.reduceEqDiff, Nat.reduceDiv, Nat.reduceMod, Nat.reducePow, Nat.reduceBEq, Nat.reduceBNe, Int.reduceLT, Int.reduceLE, Int.reduceGT, Int.reduceGE, Int.reduceBEq, Int.reduceBNe, Int.reduceToNat, Int.reduceAdd, Int.reduceSub, Int.reduceMul, Int.reduceEq, Int.reduceNeg, reduceCtorEq, decide_true, decide_false, Bool.false_eq_true, ty3, ty4, ty5, ty9, ty22, ty23, ty24, ty38, ty40, ty43, ty27, ty28, ty74, ty75, ty52, eq24, pG, nG, fld0, fld2, g1, l2, rl]
        refine Lwp.seq ?_
        refine Lwp.seq (Lwp.regI hT ?_)
        simp only [L7r3, go_sem, List.isEmpty_nil, isC, eq_self, reduceIte, Nat.reduceAdd, Nat.reduceMul, Nat.reduceSub, Nat.reduceLT, Nat.reduceLeDiff, Nat.reduceEqDiff, Nat.reduceDiv, Nat.reduceMod, Nat.reducePow, Nat.reduceBEq, Nat.reduceBNe, Int.reduceLT, Int.reduceLE, Int.reduceGT, Int.reduceGE, Int.reduceBEq, Int.reduceBNe, Int.reduceToNat, Int.reduceAdd, Int.reduceSub, Int.reduceMul, Int.reduceEq, Int.reduceNeg, reduceCtorEq, decide_true, decide_false, Bool.false_eq_true, ty3, ty4, ty5, ty9, ty22, ty23, ty24, ty38, ty40, ty43, ty27, ty28, ty74, ty75, ty52, eq24, pG, nG, fld0, fld2, a1]
        refine Lwp.cond rfl (fun h => by cases h) (fun _ => Lwp.skip ?_)
        simp only [go_sem, List.isEmpty_nil, isC, eq_self, reduceIte, Nat.reduceAdd, Nat.reduceMul, Nat.reduceSub, Nat.reduceLT, Nat.reduceLeDiff, Nat.reduceEqDiff, Nat.reduceDiv, Nat.reduceMod, Nat.reducePow, Nat.reduceBEq, Nat.reduceBNe, Int.reduceLT, Int.reduceLE, Int.reduceGT, Int.reduceGE, Int.reduceBEq, Int.reduceBNe, Int.reduceToNat, Int.reduceAdd, Int.reduceSub, Int.reduceMul, Int.reduceEq, Int.reduceNeg, reduceCtorEq, decide_true, decide_false, Bool.false_eq_true]
        refine Lwp.seq ?_
        refine Lwp.seq (Lwp.regI hT ?_)
        simp only [L7r5, go_sem, List.isEmpty_nil, isC, eq_self, reduceIte, Nat.reduceAdd, Nat.reduceMul, Nat.reduceSub, Nat.reduceLT, Nat.reduceLeDiff, Nat.reduceEqDiff, Nat.reduceDiv, Nat.reduceMod, Nat.reducePow, Nat.reduceBEq, Nat.reduceBNe, Int.reduceLT, Int.reduceLE, Int.reduceGT, Int.reduceGE, Int.reduceBEq, Int.reduceBNe, Int.reduceToNat, Int.reduceAdd, Int.reduceSub, Int.reduceMul, Int.reduceEq, Int.reduceNeg, reduceCtorEq, decide_true, decide_false, Bool.false_eq_true, ty3, ty4, ty5, ty9, ty22, ty23, ty24, ty38, ty40, ty43, ty27, ty28, ty74, ty75, ty52, eq24, pG, nG, fld0, fld2, a2]
        refine Lwp.cond rfl (fun h => by cases h) (fun _ => Lwp.skip ?_)
        simp only [go_sem, List.isEmpty_nil, isC, eq_self, reduceIte, Nat.reduceAdd, Nat.reduceMul, Nat.reduceSub, Nat.reduceLT, Nat.reduceLeDiff, Nat.reduceEqDiff, Nat.reduceDiv, Nat.reduceMod, Nat.reducePow, Nat.reduceBEq, Nat.reduceBNe, Int.reduceLT, Int.reduceLE, Int.reduceGT, Int.reduceGE, Int.reduceBEq, Int.reduceBNe, Int.reduceToNat, Int.reduceAdd, Int.reduceSub, Int.reduceMul, Int.reduceEq, Int.reduceNeg, reduceCtorEq, decide_true, decide_false, Bool.false_eq_true]
        refine Lwp.seq (Lwp.regI hT ?_)
        simp only [L7r7, go_sem, List.isEmpty_nil, isC, eq_self, reduceIte, Nat.reduceAdd, Nat.reduceMul, Nat.reduceSub, Nat.reduceLT, Nat.reduceLeDiff, Nat.reduceEqDiff, Nat.reduceDiv, Nat.reduceMod, Nat.reducePow, Nat.reduceBEq, Nat.reduceBNe, Int.reduceLT, Int.reduceLE, Int.reduceGT, Int.reduceGE, Int.reduceBEq, Int.reduceBNe, Int.reduceToNat, Int.reduceAdd, Int.reduceSub, Int.reduceMul, Int.reduceEq, Int.reduceNeg, reduceCtorEq, decide_true, decide_false, Bool.false_eq_true, ty3, ty4, ty5, ty9, ty22, ty23, ty24, ty38, ty40, ty43, ty27, ty28, ty74, ty75, ty52, eq24, pG, nG, fld0, fld2, f2]
        refine Lwp.seq (Lwp.regD hT hM ?_)
        simp only [L7r8, go_sem, List.isEmpty_nil, isC, eq_self, reduceIte, Nat.reduceAdd, Nat.reduceMul, Nat.reduceSub, Nat.reduceLT, Nat.reduceLeDiff, Nat.reduceEqDiff, Nat.reduceDiv, Nat.reduceMod, Nat.reducePow, Nat.reduceBEq, Nat.reduceBNe, Int.reduceLT, Int.reduceLE, Int.reduceGT, Int.reduceGE, Int.reduceBEq, Int.reduceBNe, Int.reduceToNat, Int.reduceAdd, Int.reduceSub, Int.reduceMul, Int.reduceEq, Int.reduceNeg, reduceCtorEq, decide_true, decide_false, Bool.false_eq_true, ty3, ty4, ty5, ty9, ty22, ty23, ty24, ty38, ty40, ty43, ty27, ty28, ty74, ty75, ty52, eq24, pG, nG, fld0, fld2, g2, g3, l2, rl]
        refine Lwp.seq ?_
        refine Lwp.seq (Lwp.regI hT ?_)
        simp only [L7r9, go_sem, List.isEmpty_nil, isC, eq_self, reduceIte, Nat.reduceAdd, Nat.reduceMul, Nat.reduceSub, Nat.reduceLT, Nat.reduceLeDiff, Nat.reduceEqDiff, Nat.reduceDiv, Nat.reduceMod, Nat.reducePow, Nat.reduceBEq, Nat.reduceBNe, Int.reduceLT, Int.reduceLE, Int.reduceGT, Int.reduceGE, Int.reduceBEq, Int.reduceBNe, Int.reduceToNat, Int.reduceAdd, Int.reduceSub, Int.reduceMul, Int.reduceEq, Int.reduceNeg, reduceCtorEq, decide_true, decide_false, Bool.false_eq_true, ty3, ty4, ty5, ty9, ty22, ty23, ty24, ty38, ty40, ty43, ty27, ty28, ty74, ty75, ty52, eq24, pG, nG, fld0, fld2]
        refine Lwp.cond rfl (fun h => by cases h) (fun _ => Lwp.skip ?_)
        simp only [go_sem, List.isEmpty_nil, isC, eq_self, reduceIte, Nat.reduceAdd, Nat.reduceMul, Nat.reduceSub, Nat.reduceLT, Nat.reduceLeDiff, Nat.reduceEqDiff, Nat.reduceDiv, Nat.reduceMod, Nat.reducePow, Nat.reduceBEq, Nat.reduceBNe, Int.reduceLT, Int.reduceLE, Int.reduceGT, Int.reduceGE, Int.reduceBEq, Int.reduceBNe, Int.reduceToNat, Int.reduceAdd, Int.reduceSub, Int.reduceMul, Int.reduceEq, Int.reduceNeg, reduceCtorEq, decide_true, decide_false, Bool.false_eq_true]
        refine Lwp.seq ?_
        refine Lwp.seq (Lwp.regI hT ?_)
        simp only [L7r11, go_sem, List.isEmpty_nil, isC, eq_self, reduceIte, Nat.reduceAdd, Nat.reduceMul, Nat.reduceSub, Nat.reduceLT, Nat.reduceLeDiff, Nat.reduceEqDiff, Nat.reduceDiv, Nat.reduceMod, Nat.reducePow, Nat.reduceBEq, Nat.reduceBNe, Int.reduceLT, Int.reduceLE, Int.reduceGT, Int.reduceGE, Int.reduceBEq, Int.reduceBNe, Int.reduceToNat, Int.reduceAdd, Int.reduceSub, Int.reduceMul, Int.reduceEq, Int.reduceNeg, reduceCtorEq, decide_true, decide_false, Bool.false_eq_true, ty3, ty4, ty5, ty9, ty22, ty23, ty24, ty38, ty40, ty43, ty27, ty28, ty74, ty75, ty52, eq24, pG, nG, fld0, fld2, Int.natCast_zero]
        refine Lwp.cond rfl (fun _ => ?_) (fun h => by cases h)
        refine Lwp.seq (Lwp.regI hT ?_)
        simp only [L7r12, go_sem, List.isEmpty_nil, isC, eq_self, reduceIte, Nat.reduceAdd, Nat.reduceMul, Nat.reduceSub, Nat.reduceLT, Nat.reduceLeDiff, Nat.reduceEqDiff, Nat.reduceDiv, Nat.reduceMod, Nat.reducePow, Nat.reduceBEq, Nat.reduceBNe, Int.reduceLT, Int.reduceLE, Int.reduceGT, Int.reduceGE, Int.reduceBEq, Int.reduceBNe, Int.reduceToNat, Int.reduceAdd, Int.reduceSub, Int.reduceMul, Int.reduceEq, Int.reduceNeg, reduceCtorEq, decide_true, decide_false, Bool.false_eq_true, ty3, ty4, ty5, ty9, ty22, ty23, ty24, ty38, ty40, ty43, ty27, ty28, ty74, ty75, ty52, eq24, pG, nG, fld0, fld2, f0, rl]
        refine Lwp.ret (post_val (v := .bool true) ?_ ?_)
        · simp only [go_sem, List.isEmpty_nil, isC, eq_self, reduceIte, Nat.reduceAdd, Nat.reduceMul, Nat.reduceSub, Nat.reduceLT, Nat.reduceLeDiff, Nat.reduceEqDiff, Nat.reduceDiv, Nat.reduceMod, Nat.reducePow, Nat.reduceBEq, Nat.reduceBNe, Int.reduceLT, Int.reduceLE, Int.reduceGT, Int.reduceGE, Int.reduceBEq, Int.reduceBNe, Int.reduceToNat, Int.reduceAdd, Int.reduceSub, Int.reduceMul, Int.reduceEq, Int.reduceNeg, reduceCtorEq, decide_true, decide_false, Bool.false_eq_true]
        · simp only [go_sem, List.isEmpty_nil, isC, eq_self, reduceIte, Nat.reduceAdd, Nat.reduceMul, Nat.reduceSub, Nat.reduceLT, Nat.reduceLeDiff, Nat.reduceEqDiff, Nat.reduceDiv, Nat.reduceMod, Nat.reducePow, Nat.reduceBEq, Nat.reduceBNe, Int.reduceLT, Int.reduceLE, Int.reduceGT, Int.reduceGE, Int.reduceBEq, Int.reduceBNe, Int.reduceToNat, Int.reduceAdd, Int.reduceSub, Int.reduceMul, Int.reduceEq, Int.reduceNeg, reduceCtorEq, decide_true, decide_false, Bool.false_eq_true]
      · have dl : ((((dig (bev b)).length : Nat) : Int) == 0) = false := by
          have : (dig (bev b)).length ≠ 0 := by
            intro e
            have h0 := (dig_len_le (bev b) 0).1 (by omega)
            simp at h0
            exact c4 h0
          simp only [beq_eq_false_iff_ne, ne_eq]; omega
        by_cases c3 : bev b < nN
        · have e3 : decN b = lim6 (bev b) := by unfold decN; rw [if_pos ⟨hl, c3, c4⟩]
          have e4 : decF b = .nili := by unfold decF; rw [if_neg c1, if_neg c2, if_pos ⟨c3, c4⟩]
          have l1 := lim6_len (bev b)
          have f5 := S20_eq (lim6 (bev b)) (bev b) (U6_lim _) (le6 (dlR lt))
          rw [e3, e4] at f1
          rw [if_pos c3] at f4
          generalize lim6 (bev b) = o at *
          generalize dig (bev b) = d at *
          generalize dig nN = dp at *
          refine Lwp.seq (Lwp.regI hT ?_)
          simp only [L7r0, go_sem, List.isEmpty_nil, isC, eq_self, reduceIte, Nat.reduceAdd, Nat.reduceMul, Nat.reduceSub, Nat.reduceLT, Nat.reduceLeDiff, Nat.reduceEqDiff, Nat.reduceDiv, Nat.reduceMod, Nat.reducePow, Nat.reduceBEq, Nat.reduceBNe, Int.reduceLT, Int.reduceLE, Int.reduceGT, Int.reduceGE, Int.reduceBEq, Int.reduceBNe, Int.reduceToNat, Int.reduceAdd, Int.reduceSub, Int.reduceMul, Int.reduceEq, Int.reduceNeg, reduceCtorEq, decide_true, decide_false, Bool.false_eq_true, ty3, ty4, ty5, ty9, ty22, ty23, ty24, ty38, ty40, ty43, ty27, ty28, ty74, ty75, ty52, eq24, pG, nG, fld0, fld2]
          refine Lwp.seq (Lwp.regI hT ?_)
          simp only [L7r1, go_sem, List.isEmpty_nil, isC, eq_self, reduceIte, Nat.reduceAdd, Nat.reduceMul, Nat.reduceSub, Nat.reduceLT, Nat.reduceLeDiff, Nat.reduceEqDiff, Nat.reduceDiv, Nat.reduceMod, Nat.reducePow, Nat.reduceBEq, Nat.reduceBNe, Int.reduceLT, Int.reduceLE, Int.reduceGT, Int.reduceGE, Int.reduceBEq, Int.reduceBNe, Int.reduceToNat, Int.reduceAdd, Int.reduceSub, Int.reduceMul, Int.reduceEq, Int.reduceNeg, reduceCtorEq, decide_true, decide_false, Bool.false_eq_true, ty3, ty4, ty5, ty9, ty22, ty23, ty24, ty38, ty40, ty43, ty27, ty28, ty74, ty75, ty52, eq24, pG, nG, fld0, fld2, f1, l1]
          refine Lwp.seq (Lwp.regI hT ?_)
          simp only [L7r2, go_sem, List.isEmpty_nil, isC, eq_self, reduceIte, Nat.reduceAdd, Nat.reduceMul, Nat.reduceSub, Nat.reduceLT, Nat.reduceLeDiff, Nat.reduceEqDiff, Nat.reduceDiv, Nat.reduceMod, Nat.reducePow, Nat.reduceBEq, Nat.reduceBNe, Int.reduceLT, Int.reduceLE, Int.reduceGT, Int.reduceGE, Int.reduceBEq, Int.reduceBNe, Int.reduceToNat, Int.reduceAdd, Int.reduceSub, Int.reduceMul, Int.reduceEq, Int.reduceNeg, reduceCtorEq, decide_true, decide_false, Bool.false_eq_true, ty3, ty4, ty5, ty9, ty22, ty23, ty24, ty38, ty40, ty43, ty27, ty28, ty74, ty75, ty52, eq24, pG, nG, fld0, fld2, g1, l2, l1]
          refine Lwp.seq ?_
          refine Lwp.seq (Lwp.regI hT ?_)
          simp only [L7r3, go_sem, List.isEmpty_nil, isC, eq_self, reduceIte, Nat.reduceAdd, Nat.reduceMul, Nat.reduceSub, Nat.reduceLT, Nat.reduceLeDiff, Nat.reduceEqDiff, Nat.reduceDiv, Nat.reduceMod, Nat.reducePow, Nat.reduceBEq, Nat.reduceBNe, Int.reduceLT, Int.reduceLE, Int.reduceGT, Int.reduceGE, Int.reduceBEq, Int.reduceBNe, Int.reduceToNat, Int.reduceAdd, Int.reduceSub, Int.reduceMul, Int.reduceEq, Int.reduceNeg, reduceCtorEq, decide_true, decide_false, Bool.false_eq_true, ty3, ty4, ty5, ty9, ty22, ty23, ty24, ty38, ty40, ty43, ty27, ty28, ty74, ty75, ty52, eq24, pG, nG, fld0, fld2, a1]
          refine Lwp.cond rfl (fun h => by cases h) (fun _ => Lwp.skip ?_)
          simp only [go_sem, List.isEmpty_nil, isC, eq_self, reduceIte, Nat.reduceAdd, Nat.reduceMul, Nat.reduceSub, Nat.reduceLT, Nat.reduceLeDiff, Nat.reduceEqDiff, Nat.reduceDiv, Nat.reduceMod, Nat.reducePow, Nat.reduceBEq, Nat.reduceBNe, Int.reduceLT, Int.reduceLE, Int.reduceGT, Int.reduceGE, Int.reduceBEq, Int.reduceBNe, Int.reduceToNat, Int.reduceAdd, Int.reduceSub, Int.reduceMul, Int.reduceEq, Int.reduceNeg, reduceCtorEq, decide_true, decide_false, Bool.false_eq_true]
          refine Lwp.seq ?_
          refine Lwp.seq (Lwp.regI hT ?_)
          simp only [L7r5, go_sem, List.isEmpty_nil, isC, eq_self, reduceIte, Nat.reduceAdd, Nat.reduceMul, Nat.reduceSub, Nat.reduceLT, Nat.reduceLeDiff, Nat.reduceEqDiff, Nat.reduceDiv, Nat.reduceMod, Nat.reducePow, Nat.reduceBEq, Nat.reduceBNe, Int.reduceLT, Int.reduceLE, Int.reduceGT, Int.reduceGE, Int.reduceBEq, Int.reduceBNe, Int.reduceToNat, Int.reduceAdd, Int.reduceSub, Int.reduceMul, Int.reduceEq, Int.reduceNeg, reduceCtorEq, decide_true, decide_false, Bool.false_eq_true, ty3, ty4, ty5, ty9, ty22, ty23, ty24, ty38, ty40, ty43, ty27, ty28, ty74, ty75, ty52, eq24, pG, nG, fld0, fld2, a2]
          refine Lwp.cond rfl (fun h => by cases h) (fun _ => Lwp.skip ?_)
          simp only [go_sem, List.isEmpty_nil, isC, eq_self, reduceIte, Nat.reduceAdd, Nat.reduceMul, Nat.reduceSub, Nat.reduceLT, Nat.reduceLeDiff, Nat.reduceEqDiff, Nat.reduceDiv, Nat.reduceMod, Nat.reducePow, Nat.reduceBEq, Nat.reduceBNe, Int.reduceLT, Int.reduceLE, Int.reduceGT, Int.reduceGE, Int.reduceBEq, Int.reduceBNe, Int.reduceToNat, Int.reduceAdd, Int.reduceSub, Int.reduceMul, Int.reduceEq, Int.reduceNeg, reduceCtorEq, decide_true, decide_false, Bool.false_eq_true]
          refine Lwp.seq (Lwp.regI hT ?_)
          simp only [L7r7, go_sem, List.isEmpty_nil, isC, eq_self, reduceIte, Nat.reduceAdd, Nat.reduceMul, Nat.reduceSub, Nat.reduceLT, Nat.reduceLeDiff, Nat.reduceEqDiff, Nat.reduceDiv, Nat.reduceMod, Nat.reducePow, Nat.reduceBEq, Nat.reduceBNe, Int.reduceLT, Int.reduceLE, Int.reduceGT, Int.reduceGE, Int.reduceBEq, Int.reduceBNe, Int.reduceToNat, Int.reduceAdd, Int.reduceSub, Int.reduceMul, Int.reduceEq, Int.reduceNeg, reduceCtorEq, decide_true, decide_false, Bool.false_eq_true, ty3, ty4, ty5, ty9, ty22, ty23, ty24, ty38, ty40, ty43, ty27, ty28, ty74, ty75, ty52, eq24, pG, nG, fld0, fld2, f2]
          refine Lwp.seq (Lwp.regD hT hM ?_)
          simp only [L7r8, go_sem, List.isEmpty_nil, isC, eq_self, reduceIte, Nat.reduceAdd, Nat.reduceMul, Nat.reduceSub, Nat.reduceLT, Nat.reduceLeDiff, Nat.reduceEqDiff, Nat.reduceDiv, Nat.reduceMod, Nat.reducePow, Nat.reduceBEq, Nat.reduceBNe, Int.reduceLT, Int.reduceLE, Int.reduceGT, Int.reduceGE, Int.reduceBEq, Int.reduceBNe, Int.reduceToNat, Int.reduceAdd, Int.reduceSub, Int.reduceMul, Int.reduceEq, Int.reduceNeg, reduceCtorEq, decide_true, decide_false, Bool.false_eq_true, ty3, ty4, ty5, ty9, ty22, ty23, ty24, ty38, ty40, ty43, ty27, ty28, ty74, ty75, ty52, eq24, pG, nG, fld0, fld2, g2, g3, l2, l1]
          refine Lwp.seq ?_
          refine Lwp.seq (Lwp.regI hT ?_)
          simp only [L7r9, go_sem, List.isEmpty_nil, isC, eq_self, reduceIte, Nat.reduceAdd, Nat.reduceMul, Nat.reduceSub, Nat.reduceLT, Nat.reduceLeDiff, Nat.reduceEqDiff, Nat.reduceDiv, Nat.reduceMod, Nat.reducePow, Nat.reduceBEq, Nat.reduceBNe, Int.reduceLT, Int.reduceLE, Int.reduceGT, Int.reduceGE, Int.reduceBEq, Int.reduceBNe, Int.reduceToNat, Int.reduceAdd, Int.reduceSub, Int.reduceMul, Int.reduceEq, Int.reduceNeg, reduceCtorEq, decide_true, decide_false, Bool.false_eq_true, ty3, ty4, ty5, ty9, ty22, ty23, ty24, ty38, ty40, ty43, ty27, ty28, ty74, ty75, ty52, eq24, pG, nG, fld0, fld2]
          refine Lwp.cond rfl (fun h => by cases h) (fun _ => Lwp.skip ?_)
          simp only [go_sem, List.isEmpty_nil, isC, eq_self, reduceIte, Nat.reduceAdd, Nat.reduceMul, Nat.reduceSub, Nat.reduceLT, Nat.reduceLeDiff, Nat.reduceEqDiff, Nat.reduceDiv, Nat.reduceMod, Nat.reducePow, Nat.reduceBEq, Nat.reduceBNe, Int.reduceLT, Int.reduceLE, Int.reduceGT, Int.reduceGE, Int.reduceBEq, Int.reduceBNe, Int.reduceToNat, Int.reduceAdd, Int.reduceSub, Int.reduceMul, Int.reduceEq, Int.reduceNeg, reduceCtorEq, decide_true, decide_false, Bool.false_eq_true]
          refine Lwp.seq ?_
          refine Lwp.seq (Lwp.regI hT ?_)
          simp only [L7r11, go_sem, List.isEmpty_nil, isC, eq_self, reduceIte, Nat.reduceAdd, Nat.reduceMul, Nat.reduceSub, Nat.reduceLT, Nat.reduceLeDiff, Nat.reduceEqDiff, Nat.reduceDiv, Nat.reduceMod, Nat.reducePow, Nat.reduceBEq, Nat.reduceBNe, Int.reduceLT, Int.reduceLE, Int.reduceGT, Int.reduceGE, Int.reduceBEq, Int.reduceBNe, Int.reduceToNat, Int.reduceAdd, Int.reduceSub, Int.reduceMul, Int.reduceEq, Int.reduceNeg, reduceCtorEq, decide_true, decide_false, Bool.false_eq_true, ty3, ty4, ty5, ty9, ty22, ty23, ty24, ty38, ty40, ty43, ty27, ty28, ty74, ty75, ty52, eq24, pG, nG, fld0, fld2, dl, f3, f4]
          refine Lwp.cond rfl (fun h => by cases h) (fun _ => Lwp.skip ?_)
          simp only [go_sem, List.isEmpty_nil, isC, eq_self, reduceIte, Nat.reduceAdd, Nat.reduceMul, Nat.reduceSub, Nat.reduceLT, Nat.reduceLeDiff, Nat.reduceEqDiff, Nat.reduceDiv, Nat.reduceMod, Nat.reducePow, Nat.reduceBEq, Nat.reduceBNe, Int.reduceLT, Int.reduceLE, Int.reduceGT, Int.reduceGE, Int.reduceBEq, Int.reduceBNe, Int.reduceToNat, Int.reduceAdd, Int.reduceSub, Int.reduceMul, Int.reduceEq, Int.reduceNeg, reduceCtorEq, decide_true, decide_false, Bool.false_eq_true]
          refine Lwp.seq (Lwp.regI hT ?_)
          simp only [L7r13, go_sem, List.isEmpty_nil, isC, eq_self, reduceIte, Nat.reduceAdd, Nat.reduceMul, Nat.reduceSub, Nat.reduceLT, Nat.reduceLeDiff, Nat.reduceEqDiff, Nat.reduceDiv, Nat.reduceMod, Nat.reducePow, Nat.reduceBEq, Nat.reduceBNe, Int.reduceLT, Int.reduceLE, Int.reduceGT, Int.reduceGE, Int.reduceBEq, Int.reduceBNe, Int.reduceToNat, Int.reduceAdd, Int.reduceSub, Int.reduceMul, Int.reduceEq, Int.reduceNeg, reduceCtorEq, decide_true, decide_false, Bool.false_eq_true, ty3, ty4, ty5, ty9, ty22, ty23, ty24, ty38, ty40, ty43, ty27, ty28, ty74, ty75, ty52, eq24, pG, nG, fld0, fld2, f0, l1, l2, f5]
          refine Lwp.ret (post_val (v := .bool true) ?_ ?_)
          · simp only [go_sem, List.isEmpty_nil, isC, eq_self, reduceIte, Nat.reduceAdd, Nat.reduceMul, Nat.reduceSub, Nat.reduceLT, Nat.reduceLeDiff, Nat.reduceEqDiff, Nat.reduceDiv, Nat.reduceMod, Nat.reducePow, Nat.reduceBEq, Nat.reduceBNe, Int.reduceLT, Int.reduceLE, Int.reduceGT, Int.reduceGE, Int.reduceBEq, Int.reduceBNe, Int.reduceToNat, Int.reduceAdd, Int.reduceSub, Int.reduceMul, Int.reduceEq, Int.reduceNeg, reduceCtorEq, decide_true, decide_false, Bool.false_eq_true]
          · simp only [go_sem, List.isEmpty_nil, isC, eq_self, reduceIte, Nat.reduceAdd, Nat.reduceMul, Nat.reduceSub, Nat.reduceLT, Nat.reduceLeDiff, Nat.reduceEqDiff, Nat.reduceDiv, Nat.reduceMod, Nat.reducePow, Nat.reduceBEq, Nat.reduceBNe, Int.reduceLT, Int.reduceLE, Int.reduceGT, Int.reduceGE, Int.reduceBEq, Int.reduceBNe, Int.reduceToNat, Int.reduceAdd, Int.reduceSub, Int.reduceMul, Int.reduceEq, Int.reduceNeg, reduceCtorEq, decide_true, decide_false, Bool.false_eq_true]
        · have e3 : decN b = List.replicate 6 0 := by unfold decN; rw [if_neg (fun h => c3 h.2.1)]
          have e4 : decF b = .iface 43 (.int .i64 3) := by unfold decF; rw [if_neg c1, if_neg c2, if_neg (fun h => c3 h.1)]
          rw [e3, e4] at f1
          rw [if_neg c3] at f4
          have ge : (if nN < bev b then (1 : Int) else 0) ≥ 0 := by split <;> decide
          generalize dig (bev b) = d at *
          generalize dig nN = dp at *
          generalize (if nN < bev b then (1 : Int) else 0) = cmp at *
          refine Lwp.seq (Lwp.regI hT ?_)
          simp only [L7r0, go_sem, List.isEmpty_nil, isC, eq_self, reduceIte, Nat.reduceAdd, Nat.reduceMul, Nat.reduceSub, Nat.reduceLT, Nat.reduceLeDiff, Nat.reduceEqDiff, Nat.reduceDiv, Nat.reduceMod, Nat.reducePow, Nat.reduceBEq, Nat.reduceBNe, Int.reduceLT, Int.reduceLE, Int.reduceGT, Int.reduceGE, Int.reduceBEq, Int.reduceBNe, Int.reduceToNat, Int.reduceAdd, Int.reduceSub, Int.reduceMul, Int.reduceEq, Int.reduceNeg, reduceCtorEq, decide_true, decide_false, Bool.false_eq_true, ty3, ty4, ty5, ty9, ty22, ty23, ty24, ty38, ty40, ty43, ty27, ty28, ty74, ty75, ty52, eq24, pG, nG, fld0, fld2]
          refine Lwp.seq (Lwp.regI hT ?_)
          simp only [L7r1, go_sem, List.isEmpty_nil, isC, eq_self, reduceIte, Nat.reduceAdd, Nat.reduceMul, Nat.reduceSub, Nat.reduceLT, Nat.reduceLeDiff, Nat.reduceEqDiff, Nat.reduceDiv, Nat.reduceMod, Nat.reducePow, Nat.reduceBEq, Nat.reduceBNe, Int.reduceLT, Int.reduceLE, Int.reduceGT, Int.reduceGE, Int.reduceBEq, Int.reduceBNe, Int.reduceToNat, Int.reduceAdd, Int.reduceSub, Int.reduceMul, Int.reduceEq, Int.reduceNeg, reduceCtorEq, decide_true, decide_false, Bool.false_eq_true, ty3, ty4, ty5, ty9, ty22, ty23, ty24, ty38, ty40, ty43, ty27, ty28, ty74, ty75, ty52, eq24, pG, nG, fld0, fld2, f1, rl]
          refine Lwp.seq (Lwp.regI hT ?_)
          simp only [L7r2, go_sem, List.isEmpty_nil, isC, eq_self, reduceIte, Nat.reduceAdd, Nat.reduceMul, Nat.reduceSub, Nat.reduceLT, Nat.reduceLeDiff, Nat.reduceEqDiff, Nat.reduceDiv, Nat.reduceMod, Nat.reducePow, Nat.reduceBEq, Nat.reduceBNe, Int.reduceLT, Int.reduceLE, Int.reduceGT, Int.reduceGE, Int.reduceBEq, Int.reduceBNe, Int.reduceToNat, Int.reduceAdd, Int.reduceSub, Int.reduceMul, Int.reduceEq, Int.reduceNeg, reduceCtorEq, decide_true, decide_false, Bool.false_eq_true, ty3, ty4, ty5, ty9, ty22, ty23, ty24, ty38, ty40, ty43, ty27, ty28, ty74, ty75, ty52, eq24, pG, nG, fld0, fld2, g1, l2, rl]
          refine Lwp.seq ?_
          refine Lwp.seq (Lwp.regI hT ?_)
          simp only [L7r3, go_sem, List.isEmpty_nil, isC, eq_self, reduceIte, Nat.reduceAdd, Nat.reduceMul, Nat.reduceSub, Nat.reduceLT, Nat.reduceLeDiff, Nat.reduceEqDiff, Nat.reduceDiv, Nat.reduceMod, Nat.reducePow, Nat.reduceBEq, Nat.reduceBNe, Int.reduceLT, Int.reduceLE, Int.reduceGT, Int.reduceGE, Int.reduceBEq, Int.reduceBNe, Int.reduceToNat, Int.reduceAdd, Int.reduceSub, Int.reduceMul, Int.reduceEq, Int.reduceNeg, reduceCtorEq, decide_true, decide_false, Bool.false_eq_true, ty3, ty4, ty5, ty9, ty22, ty23, ty24, ty38, ty40, ty43, ty27, ty28, ty74, ty75, ty52, eq24, pG, nG, fld0, fld2, a1]
          refine Lwp.cond rfl (fun h => by cases h) (fun _ => Lwp.skip ?_)
          simp only [go_sem, List.isEmpty_nil, isC, eq_self, reduceIte, Nat.reduceAdd, Nat.reduceMul, Nat.reduceSub, Nat.reduceLT, Nat.reduceLeDiff, Nat.reduceEqDiff, Nat.reduceDiv, Nat.reduceMod, Nat.reducePow, Nat.reduceBEq, Nat.reduceBNe, Int.reduceLT, Int.reduceLE, Int.reduceGT, Int.reduceGE, Int.reduceBEq, Int.reduceBNe, Int.reduceToNat, Int.reduceAdd, Int.reduceSub, Int.reduceMul, Int.reduceEq, Int.reduceNeg, reduceCtorEq, decide_true, decide_false, Bool.false_eq_true]
          refine Lwp.seq ?_
          refine Lwp.seq (Lwp.regI hT ?_)
          simp only [L7r5, go_sem, List.isEmpty_nil, isC, eq_self, reduceIte, Nat.reduceAdd, Nat.reduceMul, Nat.reduceSub, Nat.reduceLT, Nat.reduceLeDiff, Nat.reduceEqDiff, Nat.reduceDiv, Nat.reduceMod, Nat.reducePow, Nat.reduceBEq, Nat.reduceBNe, Int.reduceLT, Int.reduceLE, Int.reduceGT, Int.reduceGE, Int.reduceBEq, Int.reduceBNe, Int.reduceToNat, Int.reduceAdd, Int.reduceSub, Int.reduceMul, Int.reduceEq, Int.reduceNeg, reduceCtorEq, decide_true, decide_false, Bool.false_eq_true, ty3, ty4, ty5, ty9, ty22, ty23, ty24, ty38, ty40, ty43, ty27, ty28, ty74, ty75, ty52, eq24, pG, nG, fld0, fld2, a2]
          refine Lwp.cond rfl (fun h => by cases h) (fun _ => Lwp.skip ?_)
          simp only [go_sem, List.isEmpty_nil, isC, eq_self, reduceIte, Nat.reduceAdd, Nat.reduceMul, Nat.reduceSub, Nat.reduceLT, Nat.reduceLeDiff, Nat.reduceEqDiff, Nat.reduceDiv, Nat.reduceMod, Nat.reducePow, Nat.reduceBEq, Nat.reduceBNe, Int.reduceLT, Int.reduceLE, Int.reduceGT, Int.reduceGE, Int.reduceBEq, Int.reduceBNe, Int.reduceToNat, Int.reduceAdd, Int.reduceSub, Int.reduceMul, Int.reduceEq, Int.reduceNeg, reduceCtorEq, decide_true, decide_false, Bool.false_eq_true]
          refine Lwp.seq (Lwp.regI hT ?_)
          simp only [L7r7, go_sem, List.isEmpty_nil, isC, eq_self, reduceIte, Nat.reduceAdd, Nat.reduceMul, Nat.reduceSub, Nat.reduceLT, Nat.reduceLeDiff, Nat.reduceEqDiff, Nat.reduceDiv, Nat.reduceMod, Nat.reducePow, Nat.reduceBEq, Nat.reduceBNe, Int.reduceLT, Int.reduceLE, Int.reduceGT, Int.reduceGE, Int.reduceBEq, Int.reduceBNe, Int.reduceToNat, Int.reduceAdd, Int.reduceSub, Int.reduceMul, Int.reduceEq, Int.reduceNeg, reduceCtorEq, decide_true, decide_false, Bool.false_eq_true, ty3, ty4, ty5, ty9, ty22, ty23, ty24, ty38, ty40, ty43, ty27, ty28, ty74, ty75, ty52, eq24, pG, nG, fld0, fld2, f2]
          refine Lwp.seq (Lwp.regD hT hM ?_)
          simp only [L7r8, go_sem, List.isEmpty_nil, isC, eq_self, reduceIte, Nat.reduceAdd, Nat.reduceMul, Nat.reduceSub, Nat.reduceLT, Nat.reduceLeDiff, Nat.reduceEqDiff, Nat.reduceDiv, Nat.reduceMod, Nat.reducePow, Nat.reduceBEq, Nat.reduceBNe, Int.reduceLT, Int.reduceLE, Int.reduceGT, Int.reduceGE, Int.reduceBEq, Int.reduceBNe, Int.reduceToNat, Int.reduceAdd, Int.reduceSub, Int.reduceMul, Int.reduceEq, Int.reduceNeg, reduceCtorEq, decide_true, decide_false, Bool.false_eq_true, ty3, ty4, ty5, ty9, ty22, ty23, ty24, ty38, ty40, ty43, ty27, ty28, ty74, ty75, ty52, eq24, pG, nG, fld0, fld2, g2, g3, l2, rl]
          refine Lwp.seq ?_
          refine Lwp.seq (Lwp.regI hT ?_)
          simp only [L7r9, go_sem, List.isEmpty_nil, isC, eq_self, reduceIte, Nat.reduceAdd, Nat.reduceMul, Nat.reduceSub, Nat.reduceLT, Nat.reduceLeDiff, Nat.reduceEqDiff, Nat.reduceDiv, Nat.reduceMod, Nat.reducePow, Nat.reduceBEq, Nat.reduceBNe, Int.reduceLT, Int.reduceLE, Int.reduceGT, Int.reduceGE, Int.reduceBEq, Int.reduceBNe, Int.reduceToNat, Int.reduceAdd, Int.reduceSub, Int.reduceMul, Int.reduceEq, Int.reduceNeg, reduceCtorEq, decide_true, decide_false, Bool.false_eq_true, ty3, ty4, ty5, ty9, ty22, ty23, ty24, ty38, ty40, ty43, ty27, ty28, ty74, ty75, ty52, eq24, pG, nG, fld0, fld2]
          refine Lwp.cond rfl (fun h => by cases h) (fun _ => Lwp.skip ?_)
          simp only [go_sem, List.isEmpty_nil, isC, eq_self, reduceIte, Nat.reduceAdd, Nat.reduceMul, Nat.reduceSub, Nat.reduceLT, Nat.reduceLeDiff, Nat.reduceEqDiff, Nat.reduceDiv, Nat.reduceMod, Nat.reducePow, Nat.reduceBEq, Nat.reduceBNe, Int.reduceLT, Int.reduceLE, Int.reduceGT, Int.reduceGE, Int.reduceBEq, Int.reduceBNe, Int.reduceToNat, Int.reduceAdd, Int.reduceSub, Int.reduceMul, Int.reduceEq, Int.reduceNeg, reduceCtorEq, decide_true, decide_false, Bool.false_eq_true]
          refine Lwp.seq ?_
          refine Lwp.seq (Lwp.regI hT ?_)
          simp only [L7r11, go_sem, List.isEmpty_nil, isC, eq_self, reduceIte, Nat.reduceAdd, Nat.reduceMul, Nat.reduceSub, Nat.reduceLT, Nat.reduceLeDiff, Nat.reduceEqDiff, Nat.reduceDiv, Nat.reduceMod, Nat.reducePow, Nat.reduceBEq, Nat.reduceBNe, Int.reduceLT, Int.reduceLE, Int.reduceGT, Int.reduceGE, Int.reduceBEq, Int.reduceBNe, Int.reduceToNat, Int.reduceAdd, Int.reduceSub, Int.reduceMul, Int.reduceEq, Int.reduceNeg, reduceCtorEq, decide_true, decide_false, Bool.false_eq_true, ty3, ty4, ty5, ty9, ty22, ty23, ty24, ty38, ty40, ty43, ty27, ty28, ty74, ty75, ty52, eq24, pG, nG, fld0, fld2, dl, f3, f4, ge]
          refine Lwp.cond rfl (fun _ => ?_) (fun h => by cases h)
          refine Lwp.seq (Lwp.regI hT ?_)
          simp only [L7r12, go_sem, List.isEmpty_nil, isC, eq_self, reduceIte, Nat.reduceAdd, Nat.reduceMul, Nat.reduceSub, Nat.reduceLT, Nat.reduceLeDiff, Nat.reduceEqDiff, Nat.reduceDiv, Nat.reduceMod, Nat.reducePow, Nat.reduceBEq, Nat.reduceBNe, Int.reduceLT, Int.reduceLE, Int.reduceGT, Int.reduceGE, Int.reduceBEq, Int.reduceBNe, Int.reduceToNat, Int.reduceAdd, Int.reduceSub, Int.reduceMul, Int.reduceEq, Int.reduceNeg, reduceCtorEq, decide_true, decide_false, Bool.false_eq_true, ty3, ty4, ty5, ty9, ty22, ty23, ty24, ty38, ty40, ty43, ty27, ty28, ty74, ty75, ty52, eq24, pG, nG, fld0, fld2, f0, rl, l2]
          refine Lwp.ret (post_val (v := .bool true) ?_ ?_)
          · simp only [go_sem, List.isEmpty_nil, isC, eq_self, reduceIte, Nat.reduceAdd, Nat.reduceMul, Nat.reduceSub, Nat.reduceLT, Nat.reduceLeDiff, Nat.reduceEqDiff, Nat.reduceDiv, Nat.reduceMod, Nat.reducePow, Nat.reduceBEq, Nat.reduceBNe, Int.reduceLT, Int.reduceLE, Int.reduceGT, Int.reduceGE, Int.reduceBEq, Int.reduceBNe, Int.reduceToNat, Int.reduceAdd, Int.reduceSub, Int.reduceMul, Int.reduceEq, Int.reduceNeg, reduceCtorEq, decide_true, decide_false, Bool.false_eq_true]
          · simp only [go_sem, List.isEmpty_nil, isC, eq_self, reduceIte, Nat.reduceAdd, Nat.reduceMul, Nat.reduceSub, Nat.reduceLT, Nat.reduceLeDiff, Nat.reduceEqDiff, Nat.reduceDiv, Nat.reduceMod, Nat.reducePow, Nat.reduceBEq, Nat.reduceBNe, Int.reduceLT, Int.reduceLE, Int.reduceGT, Int.reduceGE, Int.reduceBEq, Int.reduceBNe, Int.reduceToNat, Int.reduceAdd, Int.reduceSub, Int.reduceMul, Int.reduceEq, Int.reduceNeg, reduceCtorEq, decide_true, decide_false, Bool.false_eq_true]
end Eng


namespace Eng
open Go Go.Proofs
/- The words of the start, sign by sign. -/
def ioL : List Char := [104, 97, 114, 110, 101, 115, 115, 32, 49, 50, 49, 56, 97, 102, 98, 97, 49, 99, 55, 97, 52, 57, 101, 100, 97, 54, 52, 54, 49, 55, 48, 49, 56, 98, 97, 55, 99, 56, 48, 101, 53, 51, 52, 57, 99, 99, 49, 56, 101, 57, 98, 51, 53, 51, 48, 100, 56, 54, 53, 99, 56, 53, 98, 54, 101, 102, 99, 48, 101, 100, 98, 53, 32, 99, 117, 116, 32, 97, 116, 32, 101, 115, 99, 117, 116, 99, 104, 101, 111, 110, 47, 101, 115, 99, 117, 116, 99, 104, 101, 111, 110, 108, 97, 119, 48, 51, 46, 70, 105, 101, 108, 100, 80, 114, 105, 109, 101, 32, 101, 115, 99, 117, 116, 99, 104, 101, 111, 110, 47, 101, 115, 99, 117, 116, 99, 104, 101, 111, 110, 108, 97, 119, 48, 52, 46, 79, 114, 100, 101, 114, 83, 117, 109, 115, 32, 101, 115, 99, 117, 116, 99, 104, 101, 111, 110, 47, 101, 115, 99, 117, 116, 99, 104, 101, 111, 110, 108, 97, 119, 48, 51, 46, 70, 105, 101, 108, 100, 83, 117, 109, 115, 32, 101, 115, 99, 117, 116, 99, 104, 101, 111, 110, 47, 101, 115, 99, 117, 116, 99, 104, 101, 111, 110, 108, 97, 119, 48, 51, 46, 70, 105, 101, 108, 100, 68, 101, 99, 111, 100, 101, 115, 32, 101, 115, 99, 117, 116, 99, 104, 101, 111, 110, 47, 101, 115, 99, 117, 116, 99, 104, 101, 111, 110, 108, 97, 119, 48, 52, 46, 79, 114, 100, 101, 114, 68, 101, 99, 111, 100, 101, 115, 32, 101, 115, 99, 117, 116, 99, 104, 101, 111, 110, 47, 101, 115, 99, 117, 116, 99, 104, 101, 111, 110, 108, 97, 119, 48, 51, 46, 70, 105, 101, 108, 100, 77, 117, 108, 115, 32, 101, 115, 99, 117, 116, 99, 104, 101, 111, 110, 47, 101, 115, 99, 117, 116, 99, 104, 101, 111, 110, 108, 97, 119, 48, 52, 46, 79, 114, 100, 101, 114, 77, 117, 108, 115, 32, 101, 115, 99, 117, 116, 99, 104, 101, 111, 110, 47, 101, 115, 99, 117, 116, 99, 104, 101, 111, 110, 108, 97, 119, 48, 51, 46, 70, 105, 101, 108, 100, 76, 97, 119, 115, 32, 101, 115, 99, 117, 116, 99, 104, 101, 111, 110, 47, 101, 115, 99, 117, 116, 99, 104, 101, 111, 110, 108, 97, 119, 48, 51, 46, 70, 105, 101, 108, 100, 73, 110, 118, 115, 32, 101, 115, 99, 117, 116, 99, 104, 101, 111, 110, 47, 101, 115, 99, 117, 116, 99, 104, 101, 111, 110, 108, 97, 119, 48, 52, 46, 79, 114, 100, 101, 114, 73, 110, 118, 115, 32, 101, 115, 99, 117, 116, 99, 104, 101, 111, 110, 47, 101, 115, 99, 117, 116, 99, 104, 101, 111, 110, 108, 97, 119, 48, 51, 46, 70, 105, 101, 108, 100, 82, 111, 111, 116, 115].map Char.ofNat
theorem ioS : Tryd.prog.initOrder = String.ofList ioL := by kernel_rfl
theorem ioT : Tryd.prog.initOrder.toList = ioL := by rw [ioS, String.toList_ofList]
def ioW : List (List Char) := [[97, 116].map Char.ofNat, [101, 115, 99, 117, 116, 99, 104, 101, 111, 110, 47, 101, 115, 99, 117, 116, 99, 104, 101, 111, 110, 108, 97, 119, 48, 51, 46, 70, 105, 101, 108, 100, 80, 114, 105, 109, 101].map Char.ofNat, [101, 115, 99, 117, 116, 99, 104, 101, 111, 110, 47, 101, 115, 99, 117, 116, 99, 104, 101, 111, 110, 108, 97, 119, 48, 52, 46, 79, 114, 100, 101, 114, 83, 117, 109, 115].map Char.ofNat, [101, 115, 99, 117, 116, 99, 104, 101, 111, 110, 47, 101, 115, 99, 117, 116, 99, 104, 101, 111, 110, 108, 97, 119, 48, 51, 46, 70, 105, 101, 108, 100, 83, 117, 109, 115].map Char.ofNat, [101, 115, 99, 117, 116, 99, 104, 101, 111, 110, 47, 101, 115, 99, 117, 116, 99, 104, 101, 111, 110, 108, 97, 119, 48, 51, 46, 70, 105, 101, 108, 100, 68, 101, 99, 111, 100, 101, 115].map Char.ofNat, [101, 115, 99, 117, 116, 99, 104, 101, 111, 110, 47, 101, 115, 99, 117, 116, 99, 104, 101, 111, 110, 108, 97, 119, 48, 52, 46, 79, 114, 100, 101, 114, 68, 101, 99, 111, 100, 101, 115].map Char.ofNat, [101, 115, 99, 117, 116, 99, 104, 101, 111, 110, 47, 101, 115, 99, 117, 116, 99, 104, 101, 111, 110, 108, 97, 119, 48, 51, 46, 70, 105, 101, 108, 100, 77, 117, 108, 115].map Char.ofNat, [101, 115, 99, 117, 116, 99, 104, 101, 111, 110, 47, 101, 115, 99, 117, 116, 99, 104, 101, 111, 110, 108, 97, 119, 48, 52, 46, 79, 114, 100, 101, 114, 77, 117, 108, 115].map Char.ofNat, [101, 115, 99, 117, 116, 99, 104, 101, 111, 110, 47, 101, 115, 99, 117, 116, 99, 104, 101, 111, 110, 108, 97, 119, 48, 51, 46, 70, 105, 101, 108, 100, 76, 97, 119, 115].map Char.ofNat, [101, 115, 99, 117, 116, 99, 104, 101, 111, 110, 47, 101, 115, 99, 117, 116, 99, 104, 101, 111, 110, 108, 97, 119, 48, 51, 46, 70, 105, 101, 108, 100, 73, 110, 118, 115].map Char.ofNat, [101, 115, 99, 117, 116, 99, 104, 101, 111, 110, 47, 101, 115, 99, 117, 116, 99, 104, 101, 111, 110, 108, 97, 119, 48, 52, 46, 79, 114, 100, 101, 114, 73, 110, 118, 115].map Char.ofNat, [101, 115, 99, 117, 116, 99, 104, 101, 111, 110, 47, 101, 115, 99, 117, 116, 99, 104, 101, 111, 110, 108, 97, 119, 48, 51, 46, 70, 105, 101, 108, 100, 82, 111, 111, 116, 115].map Char.ofNat]
def ioC : List Char := [99, 117, 116].map Char.ofNat
theorem ioB : behindMainWord (wordsSigns ioL) = ioC :: ioW := by kernel_rfl
theorem ioB' : behindMainWord (wordsSigns Tryd.prog.initOrder.toList) = ioC :: ioW := (congrArg (fun l => behindMainWord (wordsSigns l)) ioT).trans ioB
theorem jGc : (ioC == "gc".toList) = false := by kernel_rfl
theorem jSpec : (ioC == "spec".toList) = false := by kernel_rfl
theorem jCar : (ioC == "carried".toList) = false := by kernel_rfl
theorem jCut : (ioC == "cut".toList) = true := by kernel_rfl
theorem jStrip : stripLifts liftWords (ioC :: ioW) = ([], ioC :: ioW) := by kernel_rfl
theorem jLater : Tryd.prog.laysLater = false := by kernel_rfl
theorem jRefl : Tryd.prog.bearsReflect = false := by kernel_rfl
theorem jDoor : Tryd.prog.doorFits [] = true := by kernel_rfl
theorem jLifts : Tryd.prog.headLifts = [] := lifts_of ioB' jStrip
theorem jMay : Tryd.prog.mayEnter = true := mayEnter_of ioB' jGc jSpec jStrip jCut jLater jRefl jDoor
theorem jFinal : Tryd.prog.liftsFinal = false := final_of ioB' jCar jLifts
theorem jMake : Tryd.prog.make = some .cut := make_of ioB' jGc jSpec jCut
end Eng


namespace Eng
open Go Go.Proofs Go.Proofs.YtmpebojnnlghiaaDoor Go.ChangeShapes Go.WideShapes Go.ChangeAt Go.RowKit

theorem own' : ownKnob Tryd.prog.godebug = none := by kernel_rfl
theorem gGroup : Tryd.prog.globalNamed "escutcheon/order.group" = some 1 := by kernel_rfl
theorem tGroup : (Tryd.prog.globals[1]?).map (·.type) = some 52 := by kernel_rfl
theorem c52 : Tryd.prog.cellsOf 52 = 13 := by kernel_rfl
theorem c24 : Tryd.prog.cellsOf 24 = 6 := by kernel_rfl
theorem c22 : Tryd.prog.cellsOf 22 = 1 := by kernel_rfl

theorem group_glob {W : World} (h : laidMetH Tryd.prog [("escutcheon/order.group", Rows.laid_escutcheon_order_group)] W) : GlobOk (fun g => find nG g) W := by
  rw [MakeChecks.laidMetH_plain _ _ _ (by kernel_rfl)] at h
  obtain ⟨ps, ⟨g0, t0, cs0, f0, p0, q0, hg0, ht0, hv0, hd0, _, _⟩, _, _⟩ := h
  obtain rfl := Option.some.inj (gGroup.symm.trans hg0)
  obtain rfl := Option.some.inj (tGroup.symm.trans ht0)
  have hc := mod_trod Tryd.underlying52 rfl rfl rfl rfl rfl rfl Tryd.underlying24 Tryd.underlying22 c24 c22 c52 (ds0 := _) (d1 := _) (ds2 := _) hd0
  have hc2 : cs0.toList = nD.map (Value.int .u64) := by rw [hc, nD_eq, nL_eq, n_mod]; rfl
  intro g c hgc
  unfold nG at hgc
  simp only [find] at hgc
  split at hgc
  · rename_i e; subst e; cases hgc
    exact glob_one gGroup hv0 hc2 (by rw [nD_len]; decide)
  · cases hgc
theorem group_met (os : Os) (args : Array Value) : laidMetH Tryd.prog [("escutcheon/order.group", Rows.laid_escutcheon_order_group)] ((World.doorLaid Tryd.prog 23 os).forCall (fun _ _ => 0) ⟨#[], args, []⟩).memory :=
  laidMetH_of_parts3 (fuel := 8) (laidMet_of_run' 8 (by kernel_rfl) (by kernel_rfl)) (by kernel_rfl) (by kernel_rfl)
end Eng

