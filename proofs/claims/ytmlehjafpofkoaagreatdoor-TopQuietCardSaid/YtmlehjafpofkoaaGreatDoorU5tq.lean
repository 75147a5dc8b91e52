/- Contracts of the program's functions, and laws over them. There is no further condition. -/
import Derived.Test.YtmlehjafpofkoaaGreatDoorU4tq
import Derived.Test.YtmlehjafpofkoaaGreatDoorEngGn
import Derived.Test.YtmlehjafpofkoaaGreatDoorU1tq
import Derived.Test.YtmlehjafpofkoaaGreatDoorU0tq
import Derived.Test.YtmlehjafpofkoaaGreatDoorED
import Derived.Test.YtmlehjafpofkoaaGreatDoorRows
import Derived.LaidMore
import Derived.LaidSub
import Derived.LaidLaws
import Derived.LaidHandle
import Derived.OpenShut
import Derived.Stop.Joined
set_option linter.unusedVariables false
set_option linter.unusedSimpArgs false
set_option linter.unusedSectionVars false
set_option exponentiation.threshold 2000
namespace Eng
open Go Go.Proofs
set_option linter.unusedSimpArgs false
set_option linter.unusedVariables false
set_option maxHeartbeats 4000000
theorem sndP54 (l : List Int) (k : Int) (n : Nat) (hn : n = l.length) (hb : n < 1000000) (l' : List (Nat × (List AV → Option Ret))) (x' : List (Nat × (List AV → Option AV))) :
    SndP (tbG Tryz.prog gC l' x') 12 [.int .i64 k, .own PIN 0] [.osl 0 0 n 1] (ints .i64 l) (.tup []) [.osl 0 0 (n + 1) 1] (ints .i64 (l ++ [k])) := by
  refine sndP_by [] [] Tryz.func12 (by kernel_rfl) lite12 nt12 rs12 trivial trivial (Nat.le_of_ble_eq_true rfl) (fun hT F => ?_) l' x'
  have hM := hM0
  have h1 : (n + 1) * 8 ≤ 140737488355328 := by omega
  unfold L12
  refine Lwp.regI hT ?_
  simp only [L12r0, go_sem, List.isEmpty_nil, isC, eq_self, reduceIte, Nat.reduceAdd, Nat.reduceMul, Nat.reduceSub, Nat.reduceLT, Nat.reduceLeDiff, Nat.reduceEqDiff, Nat.reduceDiv, Nat.reduceMod, Nat.reducePow, Nat.reduceBEq, Nat.reduceBNe, Int.reduceLT, Int.reduceLE, Int.reduceGT, Int.reduceGE, Int.reduceBEq, Int.reduceBNe, Int.reduceToNat, Int.reduceAdd, Int.reduceSub, Int.reduceMul, Int.reduceEq, Int.reduceNeg, reduceCtorEq, decide_true, decide_false, Bool.false_eq_true, g30, g31, g32, sa3, sb3, st30, st31, st32, sv31, sv32, ln3, ty3, ty4, ty5, ty9, ty22, ty23, ty24, ty27, ty158, ty30, ty38, ty28, ty52, ty81, ty121, eq24, gC1, gC2, gC3, gC4, gC5, fld0, fld2, fP0, fP1, fP2, fT0, fT1, fT2, eq27, es27, entryP, entryEnv, PIN, Nat.mul_one, ints_len, hn.symm, h1, List.getD_cons_zero]
  refine ⟨rfl, rfl, rfl, rfl, ?_⟩
  simp only [go_sem, List.isEmpty_nil, isC, eq_self, reduceIte, Nat.reduceAdd, Nat.reduceMul, Nat.reduceSub, Nat.reduceLT, Nat.reduceLeDiff, Nat.reduceEqDiff, Nat.reduceDiv, Nat.reduceMod, Nat.reducePow, Nat.reduceBEq, Nat.reduceBNe, Int.reduceLT, Int.reduceLE, Int.reduceGT, Int.reduceGE, Int.reduceBEq, Int.reduceBNe, Int.reduceToNat, Int.reduceAdd, Int.reduceSub, Int.reduceMul, Int.reduceEq, Int.reduceNeg, reduceCtorEq, decide_true, decide_false, Bool.false_eq_true, PIN, ints_ids, List.append_nil]

/-- A step that is noted. -/
theorem note_ok {l' : List (Nat × (List AV → Option Ret))} {x' : List (Nat × (List AV → Option AV))} {F : Fr} {st : AState} {c : Go.Call} {g : Operand} (l : List Int) (k : Int) (n : Nat) (hn : n = l.length) (hb : n < 1000000)
    (hc : c.callee = .value g) (hg : st.ev g = .fn 12 [.own PIN 0]) (hL : find st.mem PIN = some [.osl 0 0 n 1]) (hM : find st.mem 0 = some (ints .i64 l)) (ha : st.evL c.args.toList = [.int .i64 k]) :
    PinOk (tbG Tryz.prog gC l' x') F st (.call c) (.tup []) { st with env := killEnv 0 st.env, mem := memSet (memSet (killMem 0 st.mem) PIN [.osl 0 0 (n + 1) 1]) 0 (ints .i64 (l ++ [k])) } := by
  have h := pinOk_of (F := F) hc PIN 0 hg (sndP54 l k n hn hb l' x') (by decide) (by decide) (by rw [hL]; rfl) (by simp) (by rw [hM, mapIdL_ints]) (by rw [ha]; rfl)
    (by intro id h; simp [AV.idsL, AV.ids] at h; exact .inl h) (by intro id h; simp [AV.idsL, AV.ids] at h; exact .inr h) (ids_onlyP_ints _ _) (by intro id h; simp [AV.idsL, AV.ids] at h; exact .inr h) (ids_onlyP_ints _ _) rfl
  rw [mapIdL_ints] at h
  exact h

/-- The steps that are noted. -/
def nts : Nat → List Int
  | 0 => []
  | j + 1 => nts j ++ [1] ++ [2] ++ [3]
theorem nts_len : ∀ j, (nts j).length = 3 * j
  | 0 => rfl
  | j + 1 => by simp only [nts, List.length_append, nts_len j, List.length_singleton]; omega
noncomputable def LdStP (a : List Int) (p acc : Pq) (n : Nat) : AState := { nt := 35, env := [(2, .fn 12 [.own PIN 0]), (3, .own 1 0), (4, .own 2 0), (6, .own 3 0), (7, .own 6 0), (8, .int .i64 ((n : Int) - 1))], mem := [(6, ints .u64 (pcl acc)), (3, ints .u64 (List.replicate 18 0)), (2, ints .u64 (pcl p)), (1, ints .u64 a), (PIN, [.osl 0 0 (3 * (384 - n)) 1]), (0, ints .i64 (nts (384 - n)))], next := 100 }
theorem weak_rflT {T : Tab} {F : Fr} {st : AState} : Weak T F st st := fun σ _ _ h => ⟨σ, h⟩
set_option maxRecDepth 100000 in
theorem sndP37 (a : List Int) (p : Pq) (hd0 : U6 a) (l' : List (Nat × (List AV → Option Ret))) (x' : List (Nat × (List AV → Option AV))) :
    SndP (tbG Tryz.prog gC l' x') 10 [AG a, AG (pcl p), .fn 12 [.own PIN 0]] [.osl 0 0 0 1] [] (AG (pcl (ladP (v64 a) p 384))) [.osl 0 0 1152 1] (ints .i64 (nts 384)) := by
  refine sndP_by [(11, S11), (31, S31), (33, S33), (32, S32)] [] Tryz.func10 (by kernel_rfl) lite10 nt10 rs10 ⟨(by first | exact snd11 | exact snd11.toG | exact SndE.mono up_C snd11 | exact SndE.mono up_D snd11 | exact SndE.mono up_N snd11), (by first | exact snd31 | exact snd31.toG | exact SndE.mono up_C snd31 | exact SndE.mono up_D snd31 | exact SndE.mono up_N snd31), (by first | exact snd33 | exact snd33.toG | exact SndE.mono up_C snd33 | exact SndE.mono up_D snd33 | exact SndE.mono up_N snd33), (by first | exact snd32 | exact snd32.toG | exact SndE.mono up_C snd32 | exact SndE.mono up_D snd32 | exact SndE.mono up_N snd32), trivial⟩ trivial (Nat.le_of_ble_eq_true rfl) (fun hT F => ?_) l' x'
  have hM := hM0
  unfold L10
  have hl := hd0.1
  have f38 := S11_eq none
  refine Lwp.seq (Lwp.regI hT ?_)
  simp only [L10r0, go_sem, List.isEmpty_nil, isC, eq_self, reduceIte, Nat.reduceAdd, Nat.reduceMul, Nat.reduceSub, Nat.reduceLT, Nat.reduceLeDiff, Nat.reduceEqDiff, Nat.reduceDiv, Nat.reduceMod, Nat.reducePow, Nat.reduceBEq, Nat.reduceBNe, Int.reduceLT, Int.reduceLE, Int.reduceGT, Int.reduceGE, Int.reduceBEq, Int.reduceBNe, Int.reduceToNat, Int.reduceAdd, Int.reduceSub, Int.reduceMul, Int.reduceEq, Int.reduceNeg, reduceCtorEq, decide_true, decide_false, Bool.false_eq_true, g30, g31, g32, sa3, sb3, st30, st31, st32, sv31, sv32, ln3, ty3, ty4, ty5, ty9, ty22, ty23, ty24, ty27, ty158, ty30, ty38, ty28, ty52, ty81, ty121, eq24, gC1, gC2, gC3, gC4, gC5, fld0, fld2, fP0, fP1, fP2, fT0, fT1, fT2, eq27, es27, entryP, entryEnv, PIN, hl, pcl_len]
  refine Lwp.seq (Lwp.regI hT ?_)
  simp only [L10r1, go_sem, List.isEmpty_nil, isC, eq_self, reduceIte, Nat.reduceAdd, Nat.reduceMul, Nat.reduceSub, Nat.reduceLT, Nat.reduceLeDiff, Nat.reduceEqDiff, Nat.reduceDiv, Nat.reduceMod, Nat.reducePow, Nat.reduceBEq, Nat.reduceBNe, Int.reduceLT, Int.reduceLE, Int.reduceGT, Int.reduceGE, Int.reduceBEq, Int.reduceBNe, Int.reduceToNat, Int.reduceAdd, Int.reduceSub, Int.reduceMul, Int.reduceEq, Int.reduceNeg, reduceCtorEq, decide_true, decide_false, Bool.false_eq_true, g30, g31, g32, sa3, sb3, st30, st31, st32, sv31, sv32, ln3, ty3, ty4, ty5, ty9, ty22, ty23, ty24, ty27, ty158, ty30, ty38, ty28, ty52, ty81, ty121, eq24, gC1, gC2, gC3, gC4, gC5, fld0, fld2, fP0, fP1, fP2, fT0, fT1, fT2, eq27, es27, none27', f38, pcl_len]
  refine Lwp.seq ?_
  refine Lwp.seq (Lwp.regI hT ?_)
  simp only [L10r2, go_sem, List.isEmpty_nil, isC, eq_self, reduceIte, Nat.reduceAdd, Nat.reduceMul, Nat.reduceSub, Nat.reduceLT, Nat.reduceLeDiff, Nat.reduceEqDiff, Nat.reduceDiv, Nat.reduceMod, Nat.reducePow, Nat.reduceBEq, Nat.reduceBNe, Int.reduceLT, Int.reduceLE, Int.reduceGT, Int.reduceGE, Int.reduceBEq, Int.reduceBNe, Int.reduceToNat, Int.reduceAdd, Int.reduceSub, Int.reduceMul, Int.reduceEq, Int.reduceNeg, reduceCtorEq, decide_true, decide_false, Bool.false_eq_true, g30, g31, g32, sa3, sb3, st30, st31, st32, sv31, sv32, ln3, ty3, ty4, ty5, ty9, ty22, ty23, ty24, ty27, ty158, ty30, ty38, ty28, ty52, ty81, ty121, eq24, gC1, gC2, gC3, gC4, gC5, fld0, fld2, fP0, fP1, fP2, fT0, fT1, fT2, eq27, es27]
  refine Lwp.block (Lwp.whl (fun n : Nat => LdStP a p (ladP (v64 a) p (384 - n)) n) (fun n => n ≤ 384) (fun n => n) 384 (Nat.le_refl _) ?_ ?_)
  · have z0 : ladP (v64 a) p 0 = bas none := rfl
    have z1 : ((384 : Nat) : Int) - 1 = 383 := rfl
    have z2 : ints .i64 (nts 0) = [] := rfl
    refine weak_of rfl ?_ ?_ ?_
    · (simp only [go_sem, List.isEmpty_nil, isC, eq_self, reduceIte, Nat.reduceAdd, Nat.reduceMul, Nat.reduceSub, Nat.reduceLT, Nat.reduceLeDiff, Nat.reduceEqDiff, Nat.reduceDiv, Nat.reduceMod, Nat.reducePow, Nat.reduceBEq, Nat.reduceBNe, Int.reduceLT, Int.reduceLE, Int.reduceGT, Int.reduceGE, Int.reduceBEq, Int.reduceBNe, Int.reduceToNat, Int.reduceAdd, Int.reduceSub, Int.reduceMul, Int.reduceEq, Int.reduceNeg, reduceCtorEq, decide_true, decide_false, Bool.false_eq_true, LdStP, z0, z1, z2, PIN]; try rfl)
    · (simp only [go_sem, List.isEmpty_nil, isC, eq_self, reduceIte, Nat.reduceAdd, Nat.reduceMul, Nat.reduceSub, Nat.reduceLT, Nat.reduceLeDiff, Nat.reduceEqDiff, Nat.reduceDiv, Nat.reduceMod, Nat.reducePow, Nat.reduceBEq, Nat.reduceBNe, Int.reduceLT, Int.reduceLE, Int.reduceGT, Int.reduceGE, Int.reduceBEq, Int.reduceBNe, Int.reduceToNat, Int.reduceAdd, Int.reduceSub, Int.reduceMul, Int.reduceEq, Int.reduceNeg, reduceCtorEq, decide_true, decide_false, Bool.false_eq_true, LdStP, z0, z1, z2, PIN]; try rfl)
    · (simp only [go_sem, List.isEmpty_nil, isC, eq_self, reduceIte, Nat.reduceAdd, Nat.reduceMul, Nat.reduceSub, Nat.reduceLT, Nat.reduceLeDiff, Nat.reduceEqDiff, Nat.reduceDiv, Nat.reduceMod, Nat.reducePow, Nat.reduceBEq, Nat.reduceBNe, Int.reduceLT, Int.reduceLE, Int.reduceGT, Int.reduceGE, Int.reduceBEq, Int.reduceBNe, Int.reduceToNat, Int.reduceAdd, Int.reduceSub, Int.reduceMul, Int.reduceEq, Int.reduceNeg, reduceCtorEq, decide_true, decide_false, Bool.false_eq_true, LdStP, z0, z1, z2, PIN]; try rfl)
  · intro n hn
    simp only [LdStP]
    refine Lwp.seq (Lwp.seq (Lwp.regI hT ?_))
    by_cases h0 : n = 0
    · subst h0
      have b1 : ¬ (((0 : Nat) : Int) - 1) ≥ 0 := by omega
      simp only [L10r3, go_sem, List.isEmpty_nil, isC, eq_self, reduceIte, Nat.reduceAdd, Nat.reduceMul, Nat.reduceSub, Nat.reduceLT, Nat.reduceLeDiff, Nat.reduceEqDiff, Nat.reduceDiv, Nat.reduceMod, Nat.reducePow, Nat.reduceBEq, Nat.reduceBNe, Int.reduceLT, Int.reduceLE, Int.reduceGT, Int.reduceGE, Int.reduceBEq, Int.reduceBNe, Int.reduceToNat, Int.reduceAdd, Int.reduceSub, Int.reduceMul, Int.reduceEq, Int.reduceNeg, reduceCtorEq, decide_true, decide_false, Bool.false_eq_true, ty3, b1]
      refine Lwp.cond rfl (fun h => by cases h) (fun _ => Lwp.exit ?_)
      simp only [go_sem, List.isEmpty_nil, isC, eq_self, reduceIte, Nat.reduceAdd, Nat.reduceMul, Nat.reduceSub, Nat.reduceLT, Nat.reduceLeDiff, Nat.reduceEqDiff, Nat.reduceDiv, Nat.reduceMod, Nat.reducePow, Nat.reduceBEq, Nat.reduceBNe, Int.reduceLT, Int.reduceLE, Int.reduceGT, Int.reduceGE, Int.reduceBEq, Int.reduceBNe, Int.reduceToNat, Int.reduceAdd, Int.reduceSub, Int.reduceMul, Int.reduceEq, Int.reduceNeg, reduceCtorEq, decide_true, decide_false, Bool.false_eq_true]
      refine Lwp.seq (Lwp.regI hT ?_)
      simp only [L10r11, go_sem, List.isEmpty_nil, isC, eq_self, reduceIte, Nat.reduceAdd, Nat.reduceMul, Nat.reduceSub, Nat.reduceLT, Nat.reduceLeDiff, Nat.reduceEqDiff, Nat.reduceDiv, Nat.reduceMod, Nat.reducePow, Nat.reduceBEq, Nat.reduceBNe, Int.reduceLT, Int.reduceLE, Int.reduceGT, Int.reduceGE, Int.reduceBEq, Int.reduceBNe, Int.reduceToNat, Int.reduceAdd, Int.reduceSub, Int.reduceMul, Int.reduceEq, Int.reduceNeg, reduceCtorEq, decide_true, decide_false, Bool.false_eq_true, g30, g31, g32, sa3, sb3, st30, st31, st32, sv31, sv32, ln3, ty3, ty4, ty5, ty9, ty22, ty23, ty24, ty27, ty158, ty30, ty38, ty28, ty52, ty81, ty121, eq24, gC1, gC2, gC3, gC4, gC5, fld0, fld2, fP0, fP1, fP2, fT0, fT1, fT2, eq27, es27, pcl_len]
      refine Lwp.ret ⟨?_, ?_, ?_, ?_, ?_⟩
      · simp only [go_sem, List.isEmpty_nil, isC, eq_self, reduceIte, Nat.reduceAdd, Nat.reduceMul, Nat.reduceSub, Nat.reduceLT, Nat.reduceLeDiff, Nat.reduceEqDiff, Nat.reduceDiv, Nat.reduceMod, Nat.reducePow, Nat.reduceBEq, Nat.reduceBNe, Int.reduceLT, Int.reduceLE, Int.reduceGT, Int.reduceGE, Int.reduceBEq, Int.reduceBNe, Int.reduceToNat, Int.reduceAdd, Int.reduceSub, Int.reduceMul, Int.reduceEq, Int.reduceNeg, reduceCtorEq, decide_true, decide_false, Bool.false_eq_true, ty52, pcl_len]
      · simp only [go_sem, List.isEmpty_nil, isC, eq_self, reduceIte, Nat.reduceAdd, Nat.reduceMul, Nat.reduceSub, Nat.reduceLT, Nat.reduceLeDiff, Nat.reduceEqDiff, Nat.reduceDiv, Nat.reduceMod, Nat.reducePow, Nat.reduceBEq, Nat.reduceBNe, Int.reduceLT, Int.reduceLE, Int.reduceGT, Int.reduceGE, Int.reduceBEq, Int.reduceBNe, Int.reduceToNat, Int.reduceAdd, Int.reduceSub, Int.reduceMul, Int.reduceEq, Int.reduceNeg, reduceCtorEq, decide_true, decide_false, Bool.false_eq_true]
      · simp only [go_sem, List.isEmpty_nil, isC, eq_self, reduceIte, Nat.reduceAdd, Nat.reduceMul, Nat.reduceSub, Nat.reduceLT, Nat.reduceLeDiff, Nat.reduceEqDiff, Nat.reduceDiv, Nat.reduceMod, Nat.reducePow, Nat.reduceBEq, Nat.reduceBNe, Int.reduceLT, Int.reduceLE, Int.reduceGT, Int.reduceGE, Int.reduceBEq, Int.reduceBNe, Int.reduceToNat, Int.reduceAdd, Int.reduceSub, Int.reduceMul, Int.reduceEq, Int.reduceNeg, reduceCtorEq, decide_true, decide_false, Bool.false_eq_true, PIN]
      · simp only [go_sem, List.isEmpty_nil, isC, eq_self, reduceIte, Nat.reduceAdd, Nat.reduceMul, Nat.reduceSub, Nat.reduceLT, Nat.reduceLeDiff, Nat.reduceEqDiff, Nat.reduceDiv, Nat.reduceMod, Nat.reducePow, Nat.reduceBEq, Nat.reduceBNe, Int.reduceLT, Int.reduceLE, Int.reduceGT, Int.reduceGE, Int.reduceBEq, Int.reduceBNe, Int.reduceToNat, Int.reduceAdd, Int.reduceSub, Int.reduceMul, Int.reduceEq, Int.reduceNeg, reduceCtorEq, decide_true, decide_false, Bool.false_eq_true, PIN]
      · simp only [go_sem, List.isEmpty_nil, isC, eq_self, reduceIte, Nat.reduceAdd, Nat.reduceMul, Nat.reduceSub, Nat.reduceLT, Nat.reduceLeDiff, Nat.reduceEqDiff, Nat.reduceDiv, Nat.reduceMod, Nat.reducePow, Nat.reduceBEq, Nat.reduceBNe, Int.reduceLT, Int.reduceLE, Int.reduceGT, Int.reduceGE, Int.reduceBEq, Int.reduceBNe, Int.reduceToNat, Int.reduceAdd, Int.reduceSub, Int.reduceMul, Int.reduceEq, Int.reduceNeg, reduceCtorEq, decide_true, decide_false, Bool.false_eq_true, PIN, ints_ids, List.append_nil]
    · obtain ⟨i, rfl⟩ : ∃ i, n = i + 1 := ⟨n - 1, by omega⟩
      have b0 : ((i + 1 : Nat) : Int) - 1 = (i : Int) := by omega
      have b1 : (i : Int) ≥ 0 := by omega
      have b2 : IntKind.i64.wrap ((i : Int) - 1) = (i : Int) - 1 := wrap_i64 (by omega) (by omega)
      have e : ladP (v64 a) p (384 - i) = if v64 a / 2 ^ i % 2 = 1 then addP bQ (addP bQ (ladP (v64 a) p (384 - (i + 1))) (ladP (v64 a) p (384 - (i + 1)))) p else addP bQ (ladP (v64 a) p (384 - (i + 1))) (ladP (v64 a) p (384 - (i + 1))) := by
        rw [show 384 - i = (384 - (i + 1)) + 1 by omega, ladP, show 383 - (384 - (i + 1)) = i by omega]
      generalize ladP (v64 a) p (384 - (i + 1)) = acc at *
      have k1 := S31_eq acc acc
      have k2 := S31_eq (addP bQ acc acc) p
      have k3 := S33_nat hd0 (i := i) (by omega)
      have k4 := S32_eq ((v64 a / 2 ^ i % 2 : Nat) : Int) (addP bQ acc acc) (addP bQ (addP bQ acc acc) p) (by omega)
      have e4 : (if ((v64 a / 2 ^ i % 2 : Nat) : Int) = 1 then addP bQ (addP bQ acc acc) p else addP bQ acc acc) = ladP (v64 a) p (384 - i) := by
        rw [e]
        by_cases hb : v64 a / 2 ^ i % 2 = 1
        · rw [if_pos hb, if_pos (by omega)]
        · rw [if_neg hb, if_neg (by omega)]
      rw [e4] at k4
      have m1 : 384 - i = (384 - (i + 1)) + 1 := by omega
      have m2 : 3 * (384 - i) = 3 * (384 - (i + 1)) + 1 + 1 + 1 := by omega
      have m3 : nts (384 - i) = nts (384 - (i + 1)) ++ [1] ++ [2] ++ [3] := by rw [m1]; rfl
      have m4 := nts_len (384 - (i + 1))
      have m5 : 3 * (384 - (i + 1)) < 2000 := by omega
      clear e e4 m1
      generalize hnx : ladP (v64 a) p (384 - i) = nx at *
      generalize addP bQ (addP bQ acc acc) p = s2 at *
      generalize addP bQ acc acc = s1 at *
      generalize ((v64 a / 2 ^ i % 2 : Nat) : Int) = bt at *
      generalize 3 * (384 - (i + 1)) = m at *
      generalize nts (384 - (i + 1)) = l at *
      simp only [b0]
      simp only [L10r3, go_sem, List.isEmpty_nil, isC, eq_self, reduceIte, Nat.reduceAdd, Nat.reduceMul, Nat.reduceSub, Nat.reduceLT, Nat.reduceLeDiff, Nat.reduceEqDiff, Nat.reduceDiv, Nat.reduceMod, Nat.reducePow, Nat.reduceBEq, Nat.reduceBNe, Int.reduceLT, Int.reduceLE, Int.reduceGT, Int.reduceGE, Int.reduceBEq, Int.reduceBNe, Int.reduceToNat, Int.reduceAdd, Int.reduceSub, Int.reduceMul, Int.reduceEq, Int.reduceNeg, reduceCtorEq, decide_true, decide_false, Bool.false_eq_true, ty3, b1]
      refine Lwp.cond rfl (fun _ => Lwp.skip ?_) (fun h => by cases h)
      simp only [go_sem, List.isEmpty_nil, isC, eq_self, reduceIte, Nat.reduceAdd, Nat.reduceMul, Nat.reduceSub, Nat.reduceLT, Nat.reduceLeDiff, Nat.reduceEqDiff, Nat.reduceDiv, Nat.reduceMod, Nat.reducePow, Nat.reduceBEq, Nat.reduceBNe, Int.reduceLT, Int.reduceLE, Int.reduceGT, Int.reduceGE, Int.reduceBEq, Int.reduceBNe, Int.reduceToNat, Int.reduceAdd, Int.reduceSub, Int.reduceMul, Int.reduceEq, Int.reduceNeg, reduceCtorEq, decide_true, decide_false, Bool.false_eq_true]
      refine Lwp.seq (Lwp.block ?_)
      refine Lwp.seq (Lwp.regionP hT 1 rfl rfl ?_)
      simp only [L10r5, opsA, List.take_succ_cons, List.take_zero, List.drop_succ_cons, List.drop_zero, go_sem, List.isEmpty_nil, isC, eq_self, reduceIte, Nat.reduceAdd, Nat.reduceMul, Nat.reduceSub, Nat.reduceLT, Nat.reduceLeDiff, Nat.reduceEqDiff, Nat.reduceDiv, Nat.reduceMod, Nat.reducePow, Nat.reduceBEq, Nat.reduceBNe, Int.reduceLT, Int.reduceLE, Int.reduceGT, Int.reduceGE, Int.reduceBEq, Int.reduceBNe, Int.reduceToNat, Int.reduceAdd, Int.reduceSub, Int.reduceMul, Int.reduceEq, Int.reduceNeg, reduceCtorEq, decide_true, decide_false, Bool.false_eq_true]
      refine ⟨_, _, _, weak_rflT, note_ok l 1 m m4.symm (by omega) rfl rfl rfl rfl rfl, ?_, rfl, ?_⟩
      · simp only [go_sem, List.isEmpty_nil, isC, eq_self, reduceIte, Nat.reduceAdd, Nat.reduceMul, Nat.reduceSub, Nat.reduceLT, Nat.reduceLeDiff, Nat.reduceEqDiff, Nat.reduceDiv, Nat.reduceMod, Nat.reducePow, Nat.reduceBEq, Nat.reduceBNe, Int.reduceLT, Int.reduceLE, Int.reduceGT, Int.reduceGE, Int.reduceBEq, Int.reduceBNe, Int.reduceToNat, Int.reduceAdd, Int.reduceSub, Int.reduceMul, Int.reduceEq, Int.reduceNeg, reduceCtorEq, decide_true, decide_false, Bool.false_eq_true]
      simp only [opsA, PIN, go_sem, List.isEmpty_nil, isC, eq_self, reduceIte, Nat.reduceAdd, Nat.reduceMul, Nat.reduceSub, Nat.reduceLT, Nat.reduceLeDiff, Nat.reduceEqDiff, Nat.reduceDiv, Nat.reduceMod, Nat.reducePow, Nat.reduceBEq, Nat.reduceBNe, Int.reduceLT, Int.reduceLE, Int.reduceGT, Int.reduceGE, Int.reduceBEq, Int.reduceBNe, Int.reduceToNat, Int.reduceAdd, Int.reduceSub, Int.reduceMul, Int.reduceEq, Int.reduceNeg, reduceCtorEq, decide_true, decide_false, Bool.false_eq_true]
      refine Lwp.seq (Lwp.regI hT ?_)
      simp only [L10r6, go_sem, List.isEmpty_nil, isC, eq_self, reduceIte, Nat.reduceAdd, Nat.reduceMul, Nat.reduceSub, Nat.reduceLT, Nat.reduceLeDiff, Nat.reduceEqDiff, Nat.reduceDiv, Nat.reduceMod, Nat.reducePow, Nat.reduceBEq, Nat.reduceBNe, Int.reduceLT, Int.reduceLE, Int.reduceGT, Int.reduceGE, Int.reduceBEq, Int.reduceBNe, Int.reduceToNat, Int.reduceAdd, Int.reduceSub, Int.reduceMul, Int.reduceEq, Int.reduceNeg, reduceCtorEq, decide_true, decide_false, Bool.false_eq_true, g30, g31, g32, sa3, sb3, st30, st31, st32, sv31, sv32, ln3, ty3, ty4, ty5, ty9, ty22, ty23, ty24, ty27, ty158, ty30, ty38, ty28, ty52, ty81, ty121, eq24, gC1, gC2, gC3, gC4, gC5, fld0, fld2, fP0, fP1, fP2, fT0, fT1, fT2, eq27, es27, pcl_len, k1]
      refine Lwp.seq (Lwp.regionP hT 1 rfl rfl ?_)
      simp only [L10r7, opsA, List.take_succ_cons, List.take_zero, List.drop_succ_cons, List.drop_zero, go_sem, List.isEmpty_nil, isC, eq_self, reduceIte, Nat.reduceAdd, Nat.reduceMul, Nat.reduceSub, Nat.reduceLT, Nat.reduceLeDiff, Nat.reduceEqDiff, Nat.reduceDiv, Nat.reduceMod, Nat.reducePow, Nat.reduceBEq, Nat.reduceBNe, Int.reduceLT, Int.reduceLE, Int.reduceGT, Int.reduceGE, Int.reduceBEq, Int.reduceBNe, Int.reduceToNat, Int.reduceAdd, Int.reduceSub, Int.reduceMul, Int.reduceEq, Int.reduceNeg, reduceCtorEq, decide_true, decide_false, Bool.false_eq_true]
      refine ⟨_, _, _, weak_rflT, note_ok (l ++ [1]) 2 (m + 1) (by simp [m4]) (by omega) rfl rfl rfl rfl rfl, ?_, rfl, ?_⟩
      · simp only [go_sem, List.isEmpty_nil, isC, eq_self, reduceIte, Nat.reduceAdd, Nat.reduceMul, Nat.reduceSub, Nat.reduceLT, Nat.reduceLeDiff, Nat.reduceEqDiff, Nat.reduceDiv, Nat.reduceMod, Nat.reducePow, Nat.reduceBEq, Nat.reduceBNe, Int.reduceLT, Int.reduceLE, Int.reduceGT, Int.reduceGE, Int.reduceBEq, Int.reduceBNe, Int.reduceToNat, Int.reduceAdd, Int.reduceSub, Int.reduceMul, Int.reduceEq, Int.reduceNeg, reduceCtorEq, decide_true, decide_false, Bool.false_eq_true]
      simp only [opsA, PIN, go_sem, List.isEmpty_nil, isC, eq_self, reduceIte, Nat.reduceAdd, Nat.reduceMul, Nat.reduceSub, Nat.reduceLT, Nat.reduceLeDiff, Nat.reduceEqDiff, Nat.reduceDiv, Nat.reduceMod, Nat.reducePow, Nat.reduceBEq, Nat.reduceBNe, Int.reduceLT, Int.reduceLE, Int.reduceGT, Int.reduceGE, Int.reduceBEq, Int.reduceBNe, Int.reduceToNat, Int.reduceAdd, Int.reduceSub, Int.reduceMul, Int.reduceEq, Int.reduceNeg, reduceCtorEq, decide_true, decide_false, Bool.false_eq_true]
      refine Lwp.seq (Lwp.regI hT ?_)
      simp only [L10r8, go_sem, List.isEmpty_nil, isC, eq_self, reduceIte, Nat.reduceAdd, Nat.reduceMul, Nat.reduceSub, Nat.reduceLT, Nat.reduceLeDiff, Nat.reduceEqDiff, Nat.reduceDiv, Nat.reduceMod, Nat.reducePow, Nat.reduceBEq, Nat.reduceBNe, Int.reduceLT, Int.reduceLE, Int.reduceGT, Int.reduceGE, Int.reduceBEq, Int.reduceBNe, Int.reduceToNat, Int.reduceAdd, Int.reduceSub, Int.reduceMul, Int.reduceEq, Int.reduceNeg, reduceCtorEq, decide_true, decide_false, Bool.false_eq_true, g30, g31, g32, sa3, sb3, st30, st31, st32, sv31, sv32, ln3, ty3, ty4, ty5, ty9, ty22, ty23, ty24, ty27, ty158, ty30, ty38, ty28, ty52, ty81, ty121, eq24, gC1, gC2, gC3, gC4, gC5, fld0, fld2, fP0, fP1, fP2, fT0, fT1, fT2, eq27, es27, pcl_len, k2]
      refine Lwp.seq (Lwp.regionP hT 1 rfl rfl ?_)
      simp only [L10r9, opsA, List.take_succ_cons, List.take_zero, List.drop_succ_cons, List.drop_zero, go_sem, List.isEmpty_nil, isC, eq_self, reduceIte, Nat.reduceAdd, Nat.reduceMul, Nat.reduceSub, Nat.reduceLT, Nat.reduceLeDiff, Nat.reduceEqDiff, Nat.reduceDiv, Nat.reduceMod, Nat.reducePow, Nat.reduceBEq, Nat.reduceBNe, Int.reduceLT, Int.reduceLE, Int.reduceGT, Int.reduceGE, Int.reduceBEq, Int.reduceBNe, Int.reduceToNat, Int.reduceAdd, Int.reduceSub, Int.reduceMul, Int.reduceEq, Int.reduceNeg, reduceCtorEq, decide_true, decide_false, Bool.false_eq_true]
      refine ⟨_, _, _, weak_rflT, note_ok (l ++ [1] ++ [2]) 3 (m + 1 + 1) (by simp [m4]) (by omega) rfl rfl rfl rfl rfl, ?_, rfl, ?_⟩
      · simp only [go_sem, List.isEmpty_nil, isC, eq_self, reduceIte, Nat.reduceAdd, Nat.reduceMul, Nat.reduceSub, Nat.reduceLT, Nat.reduceLeDiff, Nat.reduceEqDiff, Nat.reduceDiv, Nat.reduceMod, Nat.reducePow, Nat.reduceBEq, Nat.reduceBNe, Int.reduceLT, Int.reduceLE, Int.reduceGT, Int.reduceGE, Int.reduceBEq, Int.reduceBNe, Int.reduceToNat, Int.reduceAdd, Int.reduceSub, Int.reduceMul, Int.reduceEq, Int.reduceNeg, reduceCtorEq, decide_true, decide_false, Bool.false_eq_true]
      simp only [opsA, PIN, go_sem, List.isEmpty_nil, isC, eq_self, reduceIte, Nat.reduceAdd, Nat.reduceMul, Nat.reduceSub, Nat.reduceLT, Nat.reduceLeDiff, Nat.reduceEqDiff, Nat.reduceDiv, Nat.reduceMod, Nat.reducePow, Nat.reduceBEq, Nat.reduceBNe, Int.reduceLT, Int.reduceLE, Int.reduceGT, Int.reduceGE, Int.reduceBEq, Int.reduceBNe, Int.reduceToNat, Int.reduceAdd, Int.reduceSub, Int.reduceMul, Int.reduceEq, Int.reduceNeg, reduceCtorEq, decide_true, decide_false, Bool.false_eq_true]
      refine Lwp.regD hT hM ?_
      simp only [L10r10, go_sem, List.isEmpty_nil, isC, eq_self, reduceIte, Nat.reduceAdd, Nat.reduceMul, Nat.reduceSub, Nat.reduceLT, Nat.reduceLeDiff, Nat.reduceEqDiff, Nat.reduceDiv, Nat.reduceMod, Nat.reducePow, Nat.reduceBEq, Nat.reduceBNe, Int.reduceLT, Int.reduceLE, Int.reduceGT, Int.reduceGE, Int.reduceBEq, Int.reduceBNe, Int.reduceToNat, Int.reduceAdd, Int.reduceSub, Int.reduceMul, Int.reduceEq, Int.reduceNeg, reduceCtorEq, decide_true, decide_false, Bool.false_eq_true, g30, g31, g32, sa3, sb3, st30, st31, st32, sv31, sv32, ln3, ty3, ty4, ty5, ty9, ty22, ty23, ty24, ty27, ty158, ty30, ty38, ty28, ty52, ty81, ty121, eq24, gC1, gC2, gC3, gC4, gC5, fld0, fld2, fP0, fP1, fP2, fT0, fT1, fT2, eq27, es27, pcl_len, hl, k3, k4]
      refine Lwp.regI hT ?_
      simp only [L10r4, go_sem, List.isEmpty_nil, isC, eq_self, reduceIte, Nat.reduceAdd, Nat.reduceMul, Nat.reduceSub, Nat.reduceLT, Nat.reduceLeDiff, Nat.reduceEqDiff, Nat.reduceDiv, Nat.reduceMod, Nat.reducePow, Nat.reduceBEq, Nat.reduceBNe, Int.reduceLT, Int.reduceLE, Int.reduceGT, Int.reduceGE, Int.reduceBEq, Int.reduceBNe, Int.reduceToNat, Int.reduceAdd, Int.reduceSub, Int.reduceMul, Int.reduceEq, Int.reduceNeg, reduceCtorEq, decide_true, decide_false, Bool.false_eq_true, g30, g31, g32, sa3, sb3, st30, st31, st32, sv31, sv32, ln3, ty3, ty4, ty5, ty9, ty22, ty23, ty24, ty27, ty158, ty30, ty38, ty28, ty52, ty81, ty121, eq24, gC1, gC2, gC3, gC4, gC5, fld0, fld2, fP0, fP1, fP2, fT0, fT1, fT2, eq27, es27, b2]
      refine ⟨i, by omega, by omega, ?_⟩
      refine weak_of rfl ?_ ?_ ?_
      · (simp only [go_sem, List.isEmpty_nil, isC, eq_self, reduceIte, Nat.reduceAdd, Nat.reduceMul, Nat.reduceSub, Nat.reduceLT, Nat.reduceLeDiff, Nat.reduceEqDiff, Nat.reduceDiv, Nat.reduceMod, Nat.reducePow, Nat.reduceBEq, Nat.reduceBNe, Int.reduceLT, Int.reduceLE, Int.reduceGT, Int.reduceGE, Int.reduceBEq, Int.reduceBNe, Int.reduceToNat, Int.reduceAdd, Int.reduceSub, Int.reduceMul, Int.reduceEq, Int.reduceNeg, reduceCtorEq, decide_true, decide_false, Bool.false_eq_true, LdStP, hnx, m2, m3, PIN]; try rfl)
      · (simp only [go_sem, List.isEmpty_nil, isC, eq_self, reduceIte, Nat.reduceAdd, Nat.reduceMul, Nat.reduceSub, Nat.reduceLT, Nat.reduceLeDiff, Nat.reduceEqDiff, Nat.reduceDiv, Nat.reduceMod, Nat.reducePow, Nat.reduceBEq, Nat.reduceBNe, Int.reduceLT, Int.reduceLE, Int.reduceGT, Int.reduceGE, Int.reduceBEq, Int.reduceBNe, Int.reduceToNat, Int.reduceAdd, Int.reduceSub, Int.reduceMul, Int.reduceEq, Int.reduceNeg, reduceCtorEq, decide_true, decide_false, Bool.false_eq_true, LdStP, hnx, m2, m3, PIN]; try rfl)
      · (simp only [go_sem, List.isEmpty_nil, isC, eq_self, reduceIte, Nat.reduceAdd, Nat.reduceMul, Nat.reduceSub, Nat.reduceLT, Nat.reduceLeDiff, Nat.reduceEqDiff, Nat.reduceDiv, Nat.reduceMod, Nat.reducePow, Nat.reduceBEq, Nat.reduceBNe, Int.reduceLT, Int.reduceLE, Int.reduceGT, Int.reduceGE, Int.reduceBEq, Int.reduceBNe, Int.reduceToNat, Int.reduceAdd, Int.reduceSub, Int.reduceMul, Int.reduceEq, Int.reduceNeg, reduceCtorEq, decide_true, decide_false, Bool.false_eq_true, LdStP, hnx, m2, m3, PIN]; try rfl)
end Eng


namespace Eng
open Go Go.Proofs
set_option linter.unusedSimpArgs false
set_option linter.unusedVariables false
set_option maxHeartbeats 4000000
theorem v64_384 {a : List Int} (h : U6 a) : v64 a < 2 ^ 384 := by
  have := h.v64_lt
  rwa [show (18446744073709551616 : Nat) ^ 6 = 2 ^ 384 by decide] at this
noncomputable def S6 : List AV → Option Ret := nz (sumOf (fun p : List Int => match p with | a => (U6 a)) (fun p : List Int => match p with | a => [AG a]) (fun p : List Int => match p with | a => ⟨.agg (pta (smul gQ (v64 a))), none⟩))
theorem S6_eq (a : List Int) (h0 : U6 a) : S6 [AG a] = some ⟨.agg (pta (smul gQ (v64 a))), none⟩ :=
  sumOf_eq (dom := (fun p : List Int => match p with | a => (U6 a))) (enc := (fun p : List Int => match p with | a => [AG a])) (out := (fun p : List Int => match p with | a => ⟨.agg (pta (smul gQ (v64 a))), none⟩)) a h0 (fun y _ e => by
    simp only [List.cons.injEq, AV.agg.injEq, ints_injEq, and_true] at e
    first | with_reducible rfl | simp only [e] | rfl)
theorem S6_inv {args : List AV} {r : Ret} (h : sumOf (fun p : List Int => match p with | a => (U6 a)) (fun p : List Int => match p with | a => [AG a]) (fun p : List Int => match p with | a => ⟨.agg (pta (smul gQ (v64 a))), none⟩) args = some r) : ∃ (a : List Int), ((U6 a)) ∧ args = [AG a] ∧ r = ⟨.agg (pta (smul gQ (v64 a))), none⟩ := by
  obtain ⟨x, h1, h2, h3⟩ := sumOf_inv h
  exact ⟨x, h1, h2.symm, h3⟩

set_option maxRecDepth 100000 in
theorem snd6 : SndG Tryz.prog gC 6 S6 := by
  refine snd_nz (sndG_by (gl := gC) [(10, S10), (11, S11), (14, S14), (13, S13)] [] Tryz.func6 (by kernel_rfl) lite6 nt6 rs6 ⟨(by first | exact snd10 | exact snd10.toG | exact SndE.mono up_C snd10 | exact SndE.mono up_D snd10 | exact SndE.mono up_N snd10), (by first | exact snd11 | exact snd11.toG | exact SndE.mono up_C snd11 | exact SndE.mono up_D snd11 | exact SndE.mono up_N snd11), (by first | exact snd14 | exact snd14.toG | exact SndE.mono up_C snd14 | exact SndE.mono up_D snd14 | exact SndE.mono up_N snd14), (by first | exact snd13 | exact snd13.toG | exact SndE.mono up_C snd13 | exact SndE.mono up_D snd13 | exact SndE.mono up_N snd13), trivial⟩ trivial (fun hT args r h => ?_))
  obtain ⟨a, hd0, rfl, rfl⟩ := S6_inv h
  clear h
  have hM := hM0
  refine ⟨Nat.le_of_ble_eq_true rfl, fun F => ?_⟩
  unfold L6
  have hl := hd0.1
  have f1 := S14_eq
  have f2 := S11_eq gQ
  have f3 := S10_eq a (bas gQ) hd0
  have f4 := S13_eq (ladP (v64 a) (bas gQ) 384)
  rw [ladP_all (v64_384 hd0) gQ_on] at f4
  have l := pta_len (smul gQ (v64 a))
  generalize smul gQ (v64 a) = R at *
  generalize ladP (v64 a) (bas gQ) 384 = T at *
  refine Lwp.seq (Lwp.regI hT ?_)
  simp only [L6r0, go_sem, eq_self, Nat.reduceAdd, Nat.reduceLT, reduceCtorEq, decide_true, ty27]
  refine Lwp.seq (Lwp.regD hT hM ?_)
  simp only [L6r1, go_sem, List.isEmpty_nil, eq_self, Nat.reduceAdd, Nat.reduceSub, Nat.reduceLT, Nat.reduceLeDiff, Nat.reduceEqDiff, Nat.reduceDiv, Nat.reduceMod, Nat.reducePow, reduceCtorEq, decide_true, decide_false, Bool.false_eq_true, ln3, ty24, ty27, hl, f1, f2, f3, f4, l, set13c]
  refine Lwp.ret (post_val (v := .agg (pta R)) ?_ ?_)
  · simp only [go_sem, eq_self, Nat.reduceLT, Nat.reduceLeDiff, Nat.reduceEqDiff, reduceCtorEq, ty27, l]
  · simp only [go_sem, eq_self]

end Eng


namespace Eng
open Go Go.Proofs
def L5r0 : List AOp := [
  ⟨(some 2), .box 24 (.tmp 0), none, 0⟩,
  ⟨(some 3), .box 27 (.tmp 1), none, 0⟩,
  ⟨(some 4), .alloc 27, none, 0⟩,
  ⟨(some 5), .assign (.const (.slice none 0 0)), none, 0⟩,
  ⟨(some 6), .assign (.const .nilIface), none, 0⟩]
def L5r1 : List AOp := [
  ⟨(some 9), .load 27 (.tmp 3), none, 0⟩,
  ⟨(some 10), .call { callee := .value (.func 9), args := #[.tmp 9], argTypes := #[27] }, none, 0⟩,
  ⟨(some 11), .unOp .not 4 (.tmp 10), none, 0⟩]
def L5r2 : List AOp := [
  ⟨(some 12), .build 27 #[], none, 0⟩,
  ⟨(some 13), .makeInterface 38 (.const (.int .i64 4)), none, 0⟩,
  ⟨none, .store 27 (.tmp 4) (.tmp 12), none, 0⟩,
  ⟨(some 5), .assign (.const (.slice none 0 0)), none, 0⟩,
  ⟨(some 6), .assign (.tmp 13), none, 0⟩]
def L5r3 : List AOp := [
  ⟨(some 7), .alloc 28, none, 0⟩]
def L5r4 : List AOp := [
  ⟨(some 14), .load 24 (.tmp 2), none, 0⟩,
  ⟨(some 15), .load 27 (.tmp 3), none, 0⟩,
  ⟨(some 16), .call { callee := .value (.func 11), args := #[.tmp 15], argTypes := #[27] }, none, 2⟩,
  ⟨(some 17), .makeFunc (.func 12) #[] #[.tmp 7], none, 0⟩,
  ⟨(some 18), .call { callee := .value (.func 10), args := #[.tmp 14, .tmp 16, .tmp 17], argTypes := #[24, 52, 55] }, none, 15⟩,
  ⟨(some 8), .alloc 52, none, 0⟩,
  ⟨none, .store 52 (.tmp 8) (.tmp 18), none, 1267650600228229401496703205439⟩]
def L5r5 : List AOp := [
  ⟨(some 19), .load 52 (.tmp 8), none, 0⟩,
  ⟨(some 20), .call { callee := .value (.func 13), args := #[.tmp 19], argTypes := #[52] }, none, 1⟩,
  ⟨(some 21), .load 28 (.tmp 7), none, 0⟩,
  ⟨none, .store 27 (.tmp 4) (.tmp 20), none, 3⟩,
  ⟨(some 5), .assign (.tmp 21), none, 1267650600228229401496703205391⟩,
  ⟨(some 6), .assign (.const .nilIface), none, 1267650600228229401496703205407⟩]
def L5 : LC := (.seq (.region L5r0) (.seq (.seq (.region L5r1) (.cond (.tmp 11) (.seq (.region L5r2) .ret) .skip)) (.seq (.region L5r3) (.seq (.regionD L5r4) (.seq (.regionD L5r5) .ret)))))
theorem nt5 : Tryz.f5.ntmps = 22 := by kernel_rfl
theorem rs5 : Tryz.f5.results.toList = [.cell 4 27, .tmp 5, .tmp 6] := by kernel_rfl
theorem lite5 : Tryz.f5.body.map (lite okEdge) = some L5 := by kernel_rfl
end Eng


namespace Eng
open Go Go.Proofs
set_option linter.unusedSimpArgs false
set_option linter.unusedVariables false
set_option maxHeartbeats 4000000
theorem o5r4_0 : opsAt L5r4 0 = ⟨(some 14), .load 24 (.tmp 2), none, 0⟩ := rfl
theorem o5r4_1 : opsAt L5r4 1 = ⟨(some 15), .load 27 (.tmp 3), none, 0⟩ := rfl
theorem o5r4_2 : opsAt L5r4 2 = ⟨(some 16), .call { callee := .value (.func 11), args := #[.tmp 15], argTypes := #[27] }, none, 2⟩ := rfl
theorem o5r4_3 : opsAt L5r4 3 = ⟨(some 17), .makeFunc (.func 12) #[] #[.tmp 7], none, 0⟩ := rfl
theorem o5r4_4 : opsAt L5r4 4 = ⟨(some 18), .call { callee := .value (.func 10), args := #[.tmp 14, .tmp 16, .tmp 17], argTypes := #[24, 52, 55] }, none, 15⟩ := rfl
theorem o5r4_5 : opsAt L5r4 5 = ⟨(some 8), .alloc 52, none, 0⟩ := rfl
theorem o5r4_6 : opsAt L5r4 6 = ⟨none, .store 52 (.tmp 8) (.tmp 18), none, 1267650600228229401496703205439⟩ := rfl
theorem o5r5_0 : opsAt L5r5 0 = ⟨(some 19), .load 52 (.tmp 8), none, 0⟩ := rfl
theorem o5r5_1 : opsAt L5r5 1 = ⟨(some 20), .call { callee := .value (.func 13), args := #[.tmp 19], argTypes := #[52] }, none, 1⟩ := rfl
theorem o5r5_2 : opsAt L5r5 2 = ⟨(some 21), .load 28 (.tmp 7), none, 0⟩ := rfl
theorem o5r5_3 : opsAt L5r5 3 = ⟨none, .store 27 (.tmp 4) (.tmp 20), none, 3⟩ := rfl
theorem o5r5_4 : opsAt L5r5 4 = ⟨(some 5), .assign (.tmp 21), none, 1267650600228229401496703205391⟩ := rfl
theorem o5r5_5 : opsAt L5r5 5 = ⟨(some 6), .assign (.const .nilIface), none, 1267650600228229401496703205407⟩ := rfl

/-- The call of 'times' with the closure. -/
theorem times_ok {a : List Int} {p : Pq} (hd0 : U6 a) {l' : List (Nat × (List AV → Option Ret))} {x' : List (Nat × (List AV → Option AV))} {F : Fr} {st : AState} {c : Go.Call} (L M : Nat) (hLM : L ≠ M) (hMP : M < PIN)
    (hc : c.callee = .value (.func 10)) (hL : find st.mem L = some [.osl M 0 0 1]) (hM : find st.mem M = some []) (ha : st.evL c.args.toList = [AG a, AG (pcl p), .fn 12 [.own L 0]]) :
    PinOk (tbG Tryz.prog gC l' x') F st (.call c) (AG (pcl (ladP (v64 a) p 384))) { st with env := killEnv M st.env, mem := memSet (memSet (killMem M st.mem) L [.osl M 0 1152 1]) M (ints .i64 (nts 384)) } := by
  have g0 : gLM L M 0 = M := gLM_zero L M
  have g1 : gLM L M PIN = L := gLM_pin L M
  have h := pinOk_of (F := F) (cap := []) hc L M rfl (sndP37 a p hd0 l' x') hLM hMP (by rw [hL]; simp only [AV.mapIdL, AV.mapId, g0]) (by simp) (by rw [hM]; rfl) (by rw [ha]; simp only [AV.mapIdL, AV.mapId, g1, mapIdL_ints, List.append_nil])
    (by intro id h; simp [AV.idsL, AV.ids, ints_ids] at h; exact .inl h) (by intro id h; simp [AV.idsL, AV.ids] at h; exact .inr h) (by intro id h; simp [AV.idsL] at h) (by intro id h; simp [AV.idsL, AV.ids] at h; exact .inr h) (ids_onlyP_ints _ _) (by simp [AV.ids, ints_ids])
  simp only [AV.mapIdL, AV.mapId, g0, mapIdL_ints] at h
  exact h

noncomputable def trV (a : List Int) (c : List AV) : AV := open Classical in if OnC c then .tup [.agg (pta (smul (affC c) (v64 a))), .slc 1152 (ints .i64 (nts 384)), .nili] else .tup [.agg (ptc z6 z6 false), .nils, errP]
theorem trV_on (a : List Int) {A : Aq} (h : OnA bQ A) : trV a (pta A) = .tup [.agg (pta (smul A (v64 a))), .slc 1152 (ints .i64 (nts 384)), .nili] := by
  unfold trV; rw [if_pos ⟨A, h, rfl⟩, affC_pta h]
theorem trV_off (a : List Int) {c : List AV} (h : ¬ OnC c) : trV a c = .tup [.agg (ptc z6 z6 false), .nils, errP] := by
  unfold trV; rw [if_neg h]
theorem ints_frzC (k : IntKind) (l : List Int) (id : Nat) (c : List AV) : AV.frzL id c (ints k l) = ints k l := by
  induction l with
  | nil => rfl
  | cons x l ih => show AV.frz id c (.int k x) :: AV.frzL id c (ints k l) = _; rw [ih]; rfl
noncomputable def TrSt (p : Pq) : AState := { nt := 22, env := [(4, .own 2 0), (7, .own 8 0), (8, .own 55 0)], mem := [(55, ints .u64 (pcl p)), (9, ints .i64 (nts 384)), (8, [.osl 9 0 1152 1]), (2, [.int .u64 0, .int .u64 0, .int .u64 0, .int .u64 0, .int .u64 0, .int .u64 0, .int .u64 0, .int .u64 0, .int .u64 0, .int .u64 0, .int .u64 0, .int .u64 0, .bool false])], next := 100 }
theorem nts384 : (nts 384).length = 1152 := nts_len 384
set_option maxRecDepth 100000 in
theorem tr_end {F : Fr} (hT : (tbG Tryz.prog gC [(9, S9), (11, S11), (13, S13)] []).Ok) (hM : Tryz.prog.follows Departure.mixedOrders = true) {p : Pq} {R : Aq} (f4 : S13 [AG (pcl p)] = some ⟨.agg (pta R), none⟩) :
    Lwp okEdge (tbG Tryz.prog gC [(9, S9), (11, S11), (13, S13)] []) F ((LC.regionD L5r5).seq LC.ret) (Post (tbG Tryz.prog gC [(9, S9), (11, S11), (13, S13)] []) [ResultVar.cell 4 27, ResultVar.tmp 5, ResultVar.tmp 6] ⟨.tup [.agg (pta R), .slc 1152 (ints .i64 (nts 384)), .nili], none⟩) (TrSt p) := by
  have l := pta_len R
  have hn : (ints .i64 (nts 384)).length = 1152 := by rw [ints_len]; exact nts384
  have hs : sub (ints .i64 (nts 384)) 0 1152 = ints .i64 (nts 384) := by rw [← hn]; simp [sub]
  refine Lwp.weaken (weak_frz (k := 9) (c := ints .i64 (nts 384)) rfl (by simp only [go_sem, eq_self])) ?_
  simp only [TrSt, go_sem, eq_self, Nat.reduceLeDiff, Nat.reduceEqDiff, frzEnv, frzMem, AV.frz, AV.frzL, ints_frzC, hn, hs]
  generalize ints .i64 (nts 384) = nn at *
  refine Lwp.seq (Lwp.regionG hT hM fun ed ops' hsz hD => ?_)
  have hsz' : ops'.size = 6 := hsz
  show Goes _ _ _ _ ops' [0, 1, 2, 3, 4, 5] _
  have hi : ∀ i, i < 6 → i < ops'.size := fun i h => by omega
  refine Goes.sel hD [0, 2] (by simp) (by rfl) ⟨one_D (r' := [1, 2, 3, 4, 5]) hD (hi 0 (by omega)) o5r5_0 (by rfl) ?_, one_D (r' := [0, 1, 3, 4, 5]) hD (hi 2 (by omega)) o5r5_2 (by rfl) ?_, trivial⟩
  · simp only [go_sem, eq_self, Nat.reduceSub, Nat.reduceLT, Nat.reduceLeDiff, Nat.reduceEqDiff, Nat.reduceDiv, Nat.reduceMod, Nat.reducePow, reduceCtorEq, decide_true, decide_false, Bool.false_eq_true, ty52, stepD, pcl_len]
    refine Goes.sel hD [1, 2] (by simp) (by rfl) ⟨one_D (r' := [2, 3, 4, 5]) hD (hi 1 (by omega)) o5r5_1 (by rfl) ?_, one_D (r' := [1, 3, 4, 5]) hD (hi 2 (by omega)) o5r5_2 (by rfl) ?_, trivial⟩
    · simp only [go_sem, List.isEmpty_nil, eq_self, Nat.reduceLT, Nat.reduceLeDiff, Nat.reduceEqDiff, decide_true, decide_false, Bool.false_eq_true, stepD, f4]
      refine Goes.sel hD [2, 3] (by simp) (by rfl) ⟨one_D (r' := [3, 4, 5]) hD (hi 2 (by omega)) o5r5_2 (by rfl) ?_, one_D (r' := [2, 4, 5]) hD (hi 3 (by omega)) o5r5_3 (by rfl) ?_, trivial⟩
      · simp only [go_sem, eq_self, Nat.reduceSub, Nat.reduceLT, Nat.reduceLeDiff, Nat.reduceEqDiff, Nat.reduceDiv, Nat.reduceMod, Nat.reducePow, reduceCtorEq, decide_true, decide_false, Bool.false_eq_true, ty28, stepD, List.getD_cons_zero]
        refine Goes.sel hD [3] (by simp) (by rfl) ⟨one_D (r' := [4, 5]) hD (hi 3 (by omega)) o5r5_3 (by rfl) ?_, trivial⟩
        simp only [go_sem, eq_self, Nat.reduceAdd, Nat.reduceSub, Nat.reduceLT, Nat.reduceLeDiff, Nat.reduceEqDiff, Nat.reduceDiv, Nat.reduceMod, Nat.reducePow, decide_true, decide_false, Bool.false_eq_true, ln3, ty27, stepD, l, set13c]
        refine Goes.sel hD [4] (by simp) (by rfl) ⟨one_D (r' := [5]) hD (hi 4 (by omega)) o5r5_4 (by rfl) ?_, trivial⟩
        simp only [go_sem, eq_self, Nat.reduceLT, Nat.reduceLeDiff, Nat.reduceEqDiff, decide_true, stepD]
        refine Goes.sel hD [5] (by simp) (by rfl) ⟨one_D (r' := []) hD (hi 5 (by omega)) o5r5_5 (by rfl) ?_, trivial⟩
        simp only [go_sem, eq_self, Nat.reduceLT, Nat.reduceLeDiff, decide_true, stepD]
        refine Goes.nil ?_
        refine Lwp.ret (post_val (v := .tup [.agg (pta R), .slc 1152 nn, .nili]) ?_ ?_)
        · simp only [go_sem, eq_self, Nat.reduceLT, Nat.reduceLeDiff, Nat.reduceEqDiff, ty27, l]
        · simp only [go_sem, eq_self]
      · simp only [go_sem, eq_self, Nat.reduceAdd, Nat.reduceSub, Nat.reduceLT, Nat.reduceLeDiff, Nat.reduceEqDiff, Nat.reduceDiv, Nat.reduceMod, Nat.reducePow, decide_true, decide_false, Bool.false_eq_true, ln3, ty27, stepD, l, set13c]
        refine Goes.sel hD [2] (by simp) (by rfl) ⟨one_D (r' := [4, 5]) hD (hi 2 (by omega)) o5r5_2 (by rfl) ?_, trivial⟩
        simp only [go_sem, eq_self, Nat.reduceSub, Nat.reduceLT, Nat.reduceLeDiff, Nat.reduceEqDiff, Nat.reduceDiv, Nat.reduceMod, Nat.reducePow, reduceCtorEq, decide_true, decide_false, Bool.false_eq_true, ty28, stepD, List.getD_cons_zero]
        refine Goes.sel hD [4] (by simp) (by rfl) ⟨one_D (r' := [5]) hD (hi 4 (by omega)) o5r5_4 (by rfl) ?_, trivial⟩
        simp only [go_sem, eq_self, Nat.reduceLT, Nat.reduceLeDiff, Nat.reduceEqDiff, decide_true, stepD]
        refine Goes.sel hD [5] (by simp) (by rfl) ⟨one_D (r' := []) hD (hi 5 (by omega)) o5r5_5 (by rfl) ?_, trivial⟩
        simp only [go_sem, eq_self, Nat.reduceLT, Nat.reduceLeDiff, decide_true, stepD]
        refine Goes.nil ?_
        refine Lwp.ret (post_val (v := .tup [.agg (pta R), .slc 1152 nn, .nili]) ?_ ?_)
        · simp only [go_sem, eq_self, Nat.reduceLT, Nat.reduceLeDiff, Nat.reduceEqDiff, ty27, l]
        · simp only [go_sem, eq_self]
    · simp only [go_sem, eq_self, Nat.reduceSub, Nat.reduceLT, Nat.reduceLeDiff, Nat.reduceEqDiff, Nat.reduceDiv, Nat.reduceMod, Nat.reducePow, reduceCtorEq, decide_true, decide_false, Bool.false_eq_true, ty28, stepD, List.getD_cons_zero]
      refine Goes.sel hD [1] (by simp) (by rfl) ⟨one_D (r' := [3, 4, 5]) hD (hi 1 (by omega)) o5r5_1 (by rfl) ?_, trivial⟩
      simp only [go_sem, List.isEmpty_nil, eq_self, Nat.reduceLT, Nat.reduceLeDiff, Nat.reduceEqDiff, decide_true, decide_false, Bool.false_eq_true, stepD, f4]
      refine Goes.sel hD [3] (by simp) (by rfl) ⟨one_D (r' := [4, 5]) hD (hi 3 (by omega)) o5r5_3 (by rfl) ?_, trivial⟩
      simp only [go_sem, eq_self, Nat.reduceAdd, Nat.reduceSub, Nat.reduceLT, Nat.reduceLeDiff, Nat.reduceEqDiff, Nat.reduceDiv, Nat.reduceMod, Nat.reducePow, decide_true, decide_false, Bool.false_eq_true, ln3, ty27, stepD, l, set13c]
      refine Goes.sel hD [4] (by simp) (by rfl) ⟨one_D (r' := [5]) hD (hi 4 (by omega)) o5r5_4 (by rfl) ?_, trivial⟩
      simp only [go_sem, eq_self, Nat.reduceLT, Nat.reduceLeDiff, Nat.reduceEqDiff, decide_true, stepD]
      refine Goes.sel hD [5] (by simp) (by rfl) ⟨one_D (r' := []) hD (hi 5 (by omega)) o5r5_5 (by rfl) ?_, trivial⟩
      simp only [go_sem, eq_self, Nat.reduceLT, Nat.reduceLeDiff, decide_true, stepD]
      refine Goes.nil ?_
      refine Lwp.ret (post_val (v := .tup [.agg (pta R), .slc 1152 nn, .nili]) ?_ ?_)
      · simp only [go_sem, eq_self, Nat.reduceLT, Nat.reduceLeDiff, Nat.reduceEqDiff, ty27, l]
      · simp only [go_sem, eq_self]
  · simp only [go_sem, eq_self, Nat.reduceSub, Nat.reduceLT, Nat.reduceLeDiff, Nat.reduceEqDiff, Nat.reduceDiv, Nat.reduceMod, Nat.reducePow, reduceCtorEq, decide_true, decide_false, Bool.false_eq_true, ty28, stepD, List.getD_cons_zero]
    refine Goes.sel hD [0] (by simp) (by rfl) ⟨one_D (r' := [1, 3, 4, 5]) hD (hi 0 (by omega)) o5r5_0 (by rfl) ?_, trivial⟩
    simp only [go_sem, eq_self, Nat.reduceSub, Nat.reduceLT, Nat.reduceLeDiff, Nat.reduceEqDiff, Nat.reduceDiv, Nat.reduceMod, Nat.reducePow, reduceCtorEq, decide_true, decide_false, Bool.false_eq_true, ty52, stepD, pcl_len]
    refine Goes.sel hD [1] (by simp) (by rfl) ⟨one_D (r' := [3, 4, 5]) hD (hi 1 (by omega)) o5r5_1 (by rfl) ?_, trivial⟩
    simp only [go_sem, List.isEmpty_nil, eq_self, Nat.reduceLT, Nat.reduceLeDiff, Nat.reduceEqDiff, decide_true, decide_false, Bool.false_eq_true, stepD, f4]
    refine Goes.sel hD [3] (by simp) (by rfl) ⟨one_D (r' := [4, 5]) hD (hi 3 (by omega)) o5r5_3 (by rfl) ?_, trivial⟩
    simp only [go_sem, eq_self, Nat.reduceAdd, Nat.reduceSub, Nat.reduceLT, Nat.reduceLeDiff, Nat.reduceEqDiff, Nat.reduceDiv, Nat.reduceMod, Nat.reducePow, decide_true, decide_false, Bool.false_eq_true, ln3, ty27, stepD, l, set13c]
    refine Goes.sel hD [4] (by simp) (by rfl) ⟨one_D (r' := [5]) hD (hi 4 (by omega)) o5r5_4 (by rfl) ?_, trivial⟩
    simp only [go_sem, eq_self, Nat.reduceLT, Nat.reduceLeDiff, Nat.reduceEqDiff, decide_true, stepD]
    refine Goes.sel hD [5] (by simp) (by rfl) ⟨one_D (r' := []) hD (hi 5 (by omega)) o5r5_5 (by rfl) ?_, trivial⟩
    simp only [go_sem, eq_self, Nat.reduceLT, Nat.reduceLeDiff, decide_true, stepD]
    refine Goes.nil ?_
    refine Lwp.ret (post_val (v := .tup [.agg (pta R), .slc 1152 nn, .nili]) ?_ ?_)
    · simp only [go_sem, eq_self, Nat.reduceLT, Nat.reduceLeDiff, Nat.reduceEqDiff, ty27, l]
    · simp only [go_sem, eq_self]

noncomputable def S5 : List AV → Option Ret := nz (sumOf (fun p : List Int × List AV => match p with | (a, c) => (U6 a) ∧ (Pt c)) (fun p : List Int × List AV => match p with | (a, c) => [AG a, .agg c]) (fun p : List Int × List AV => match p with | (a, c) => ⟨trV a c, none⟩))
theorem S5_eq (a : List Int) (c : List AV) (h0 : U6 a) (h1 : Pt c) : S5 [AG a, .agg c] = some ⟨trV a c, none⟩ :=
  sumOf_eq (dom := (fun p : List Int × List AV => match p with | (a, c) => (U6 a) ∧ (Pt c))) (enc := (fun p : List Int × List AV => match p with | (a, c) => [AG a, .agg c])) (out := (fun p : List Int × List AV => match p with | (a, c) => ⟨trV a c, none⟩)) (a, c) ⟨h0, h1⟩ (fun y _ e => by
    obtain ⟨y0, y1⟩ := y
    simp only [List.cons.injEq, AV.agg.injEq, ints_injEq, and_true] at e
    first | with_reducible rfl | simp only [e] | rfl)
theorem S5_inv {args : List AV} {r : Ret} (h : sumOf (fun p : List Int × List AV => match p with | (a, c) => (U6 a) ∧ (Pt c)) (fun p : List Int × List AV => match p with | (a, c) => [AG a, .agg c]) (fun p : List Int × List AV => match p with | (a, c) => ⟨trV a c, none⟩) args = some r) : ∃ (a : List Int) (c : List AV), ((U6 a) ∧ (Pt c)) ∧ args = [AG a, .agg c] ∧ r = ⟨trV a c, none⟩ := by
  obtain ⟨x, h1, h2, h3⟩ := sumOf_inv h
  obtain ⟨a, c⟩ := x
  exact ⟨a, c, h1, h2.symm, h3⟩

set_option maxRecDepth 100000 in
theorem snd5 : SndG Tryz.prog gC 5 S5 := by
  refine snd_nz (sndG_byE (gl := gC) [(9, S9), (11, S11), (13, S13)] [] Tryz.func5 (by kernel_rfl) lite5 nt5 rs5 ⟨(by first | exact snd9 | exact snd9.toG | exact SndE.mono up_C snd9 | exact SndE.mono up_D snd9 | exact SndE.mono up_N snd9), (by first | exact snd11 | exact snd11.toG | exact SndE.mono up_C snd11 | exact SndE.mono up_D snd11 | exact SndE.mono up_N snd11), (by first | exact snd13 | exact snd13.toG | exact SndE.mono up_C snd13 | exact SndE.mono up_D snd13 | exact SndE.mono up_N snd13), trivial⟩ trivial (fun hT args r h => ?_))
  obtain ⟨a, c, ⟨hd0, hd1⟩, rfl, rfl⟩ := S5_inv h
  clear h
  have hM := hM0
  refine ⟨Nat.le_of_ble_eq_true rfl, fun F => ?_⟩
  unfold L5
  have hl := hd0.1
  have lc := pt_len hd1
  have lz := z6_len
  have f1 := S9_eq c hd1
  by_cases ho : OnC c
  · rw [onB_true ho] at f1
    obtain ⟨h1, h2⟩ := affC_spec ho
    generalize affC c = A at *
    subst h2
    rw [trV_on a h1]
    have f2 := S11_eq A
    have f4 := S13_eq (ladP (v64 a) (bas A) 384)
    rw [ladP_all (v64_384 hd0) h1] at f4
    have l := pta_len (smul A (v64 a))
    have f3 : ∀ {st : AState} {c : Go.Call} (L M : Nat) (hLM : L ≠ M) (hMP : M < PIN) (hc : c.callee = .value (.func 10)) (hL : find st.mem L = some [.osl M 0 0 1]) (hM : find st.mem M = some []) (ha : st.evL c.args.toList = [AG a, AG (pcl (bas A)), .fn 12 [.own L 0]]),
      PinOk (tbG Tryz.prog gC [(9, S9), (11, S11), (13, S13)] []) F st (.call c) (AG (pcl (ladP (v64 a) (bas A) 384))) { st with env := killEnv M st.env, mem := memSet (memSet (killMem M st.mem) L [.osl M 0 1152 1]) M (ints .i64 (nts 384)) } := fun L M h1 h2 h3 h4 h5 h6 => times_ok hd0 L M h1 h2 h3 h4 h5 h6
    generalize smul A (v64 a) = R at *
    generalize ladP (v64 a) (bas A) 384 = T at *
    refine Lwp.seq (Lwp.regI hT ?_)
    simp only [L5r0, go_sem, eq_self, Nat.reduceAdd, Nat.reduceLT, Nat.reduceEqDiff, reduceCtorEq, decide_true, ty27]
    refine Lwp.seq ?_
    refine Lwp.seq (Lwp.regI hT ?_)
    simp only [L5r1, go_sem, eq_self, Nat.reduceAdd, Nat.reduceLT, Nat.reduceLeDiff, Nat.reduceEqDiff, reduceCtorEq, decide_true, ty27, lc, f1]
    refine Lwp.cond rfl (fun h => by cases h) (fun _ => Lwp.skip ?_)
    simp only [go_sem]
    refine Lwp.seq (Lwp.regI hT ?_)
    simp only [L5r3, go_sem, eq_self, Nat.reduceAdd, Nat.reduceLT, Nat.reduceEqDiff, reduceCtorEq, decide_true, ty28]
    refine Lwp.weaken (weak_nilM (l := 8) (id := 9) (i := 0) (sz := 1) (c := [.nils]) rfl rfl rfl (by decide)) ?_
    simp only [go_sem, eq_self, Nat.reduceEqDiff, reduceCtorEq]
    refine Lwp.weaken (st' := { nt := 22, env := [(7, .own 8 0), (4, .own 2 0), (3, .own 1 0), (2, .own 0 0)], mem := [(9, []), (8, [.osl 9 0 0 1]), (2, [.int .u64 0, .int .u64 0, .int .u64 0, .int .u64 0, .int .u64 0, .int .u64 0, .int .u64 0, .int .u64 0, .int .u64 0, .int .u64 0, .int .u64 0, .int .u64 0, .bool false]), (1, pta A), (0, ints .u64 a)], next := 50 }) (weak_of rfl ?_ ?_ ?_) ?_
    · (simp only [go_sem, eq_self, Nat.reduceEqDiff, reduceCtorEq]; try rfl)
    · (simp only [go_sem, eq_self, Nat.reduceEqDiff, reduceCtorEq]; try rfl)
    · (simp only [go_sem, eq_self, Nat.reduceEqDiff, reduceCtorEq]; try rfl)
    have fin := tr_end (F := F) hT hM f4
    refine Lwp.seq (Lwp.regionG hT hM fun ed ops' hsz hD => ?_)
    have hsz' : ops'.size = 7 := hsz
    have hi : ∀ i, i < 7 → i < ops'.size := fun i h => by omega
    have hA := okComm_tab hsz.symm hD.tab (by kernel_rfl)
    refine Goes.pre1m hD hA 4 5 (r1 := [0, 1, 2, 3]) (r2 := [5, 6]) (r2f := [6]) (by rfl) (hi 4 (by omega)) (by omega) (hi 5 (by omega)) ?_ ?_ (by rfl) ?_ (by decide) (by decide) ?_
    · intro j hj
      have : j = 0 ∨ j = 1 ∨ j = 2 ∨ j = 3 := by omega
      rcases this with rfl | rfl | rfl | rfl <;> decide
    · intro k hk
      simp only [List.mem_cons, List.not_mem_nil, or_false] at hk
      rcases hk with rfl | rfl
      · exact ⟨by omega, hi 5 (by omega), .inl rfl⟩
      · exact ⟨by omega, hi 6 (by omega), .inr (by decide)⟩
    · intro k hk
      simp only [List.mem_cons, List.not_mem_nil, or_false] at hk
      subst hk
      exact ⟨by omega, hi 6 (by omega), by decide⟩
    simp only [go_sem, List.isEmpty_nil, eq_self, Nat.reduceAdd, Nat.reduceSub, Nat.reduceLT, Nat.reduceLeDiff, Nat.reduceEqDiff, Nat.reduceDiv, Nat.reduceMod, Nat.reducePow, reduceCtorEq, decide_true, decide_false, Bool.false_eq_true, ty24, ty27, ty52, execL, stepD, List.cons_append, List.nil_append, o5r4_0, o5r4_1, o5r4_2, o5r4_3, o5r4_5, hl, lc, f2]
    refine ⟨one_P hD (hi 4 (by omega)) o5r4_4 (by rfl) ⟨_, _, f3 8 9 (by decide) (by decide) rfl rfl rfl rfl, ?_, rfl, ?_⟩, one_P hD (hi 4 (by omega)) o5r4_4 (by rfl) ⟨_, _, f3 8 9 (by decide) (by decide) rfl rfl rfl rfl, ?_, rfl, ?_⟩⟩
    · simp only [go_sem, Nat.reduceLT]
    · simp only [go_sem, eq_self, Nat.reduceEqDiff, reduceCtorEq]
      refine Goes.go1 hD (hi 5 (by omega)) o5r4_5 (by kernel_rfl) ?_
      simp only [go_sem, eq_self, Nat.reduceAdd, Nat.reduceLT, Nat.reduceLeDiff, Nat.reduceEqDiff, reduceCtorEq, decide_true, decide_false, Bool.false_eq_true, ty52, stepD]
      refine Goes.go1 hD (hi 6 (by omega)) o5r4_6 (by kernel_rfl) ?_
      simp only [go_sem, eq_self, Nat.reduceSub, Nat.reduceLT, Nat.reduceLeDiff, Nat.reduceEqDiff, Nat.reduceDiv, Nat.reduceMod, Nat.reducePow, reduceCtorEq, decide_true, decide_false, ty52, stepD, pcl_len]
      refine Goes.nil (Lwp.weaken (st' := TrSt T) (weak_of rfl ?_ ?_ ?_) fin)
      · (simp only [TrSt, go_sem, eq_self, Nat.reduceEqDiff]; try rfl)
      · (simp only [TrSt, go_sem, eq_self, Nat.reduceEqDiff, reduceCtorEq]; try rfl)
      · (simp only [TrSt, go_sem, eq_self, Nat.reduceEqDiff]; try rfl)
    · simp only [go_sem, Nat.reduceLT]
    · simp only [go_sem, eq_self, Nat.reduceEqDiff, reduceCtorEq]
      refine Goes.go1 hD (hi 6 (by omega)) o5r4_6 (by kernel_rfl) ?_
      simp only [go_sem, eq_self, Nat.reduceSub, Nat.reduceLT, Nat.reduceLeDiff, Nat.reduceEqDiff, Nat.reduceDiv, Nat.reduceMod, Nat.reducePow, reduceCtorEq, decide_true, decide_false, ty52, stepD, pcl_len]
      refine Goes.nil (Lwp.weaken (st' := TrSt T) (weak_of rfl ?_ ?_ ?_) fin)
      · (simp only [TrSt, go_sem, eq_self, Nat.reduceEqDiff]; try rfl)
      · (simp only [TrSt, go_sem, eq_self, Nat.reduceEqDiff, reduceCtorEq]; try rfl)
      · (simp only [TrSt, go_sem, eq_self, Nat.reduceEqDiff]; try rfl)
  · rw [onB_false ho] at f1
    rw [trV_off a ho]
    obtain ⟨x, y, n, hx, hy, rfl⟩ := hd1
    refine Lwp.seq (Lwp.regI hT ?_)
    simp only [L5r0, go_sem, eq_self, Nat.reduceAdd, Nat.reduceLT, Nat.reduceEqDiff, reduceCtorEq, decide_true, ty27]
    refine Lwp.seq ?_
    refine Lwp.seq (Lwp.regI hT ?_)
    simp only [L5r1, go_sem, eq_self, Nat.reduceAdd, Nat.reduceLT, Nat.reduceLeDiff, Nat.reduceEqDiff, reduceCtorEq, decide_true, ty27, lc, f1]
    refine Lwp.cond rfl (fun _ => ?_) (fun h => by cases h)
    refine Lwp.seq (Lwp.regI hT ?_)
    simp only [L5r2, go_sem, eq_self, Nat.reduceAdd, Nat.reduceLT, Nat.reduceLeDiff, Nat.reduceEqDiff, reduceCtorEq, decide_true, ty27, ty38, zero27_eq, ptc_len lz lz, set13c]
    refine Lwp.ret (post_val (v := .tup [.agg (ptc z6 z6 false), .nils, errP]) ?_ ?_)
    · simp only [go_sem, eq_self, Nat.reduceLT, Nat.reduceLeDiff, Nat.reduceEqDiff, reduceCtorEq, ty27, ptc_len lz lz, zero27_eq]
    · simp only [go_sem, eq_self]
end Eng


namespace Eng
open Go Go.Proofs
set_option linter.unusedSimpArgs false
set_option linter.unusedVariables false
set_option maxHeartbeats 4000000
def gN (i : Nat) : Nat := if i = 27 then 5000 else if i = 25 then 5001 else i
theorem new_ok {l' : List (Nat × (List AV → Option Ret))} {x' : List (Nat × (List AV → Option AV))} {F : Fr} {st : AState} {c : Go.Call} {g0 : Operand} (hc : c.callee = .value g0) (hg : st.ev g0 = .fn 7 []) (h1 : find st.mem 5000 = none) (h2 : find st.mem 5001 = none) (ha : st.evL c.args.toList = [.int .i64 40, .nils, .nils]) :
    PinOk (tbG Tryz.prog gC l' x') F st (.call c) (.tup [.own 5000 0, .nili]) { st with mem := memSet (memSet st.mem 5001 (ints .u8 z40)) 5000 (dvc 5001 0) } := by
  have key : ∀ {id : Nat} {c : List AV}, find [(27, dvc 25 0), (25, ints .u8 z40)] id = some c → (id = 27 ∧ c = dvc 25 0) ∨ (id = 25 ∧ c = ints .u8 z40) := by
    intro id c h
    simp only [find] at h
    split at h
    · rename_i e; cases h; exact .inl ⟨e.symm, rfl⟩
    · split at h
      · rename_i e; cases h; exact .inr ⟨e.symm, rfl⟩
      · cases h
  have d27 : domB [(27, dvc 25 0), (25, ints .u8 z40)] 27 = true := rfl
  have d25 : domB [(27, dvc 25 0), (25, ints .u8 z40)] 25 = true := rfl
  have h := pinOk_mem (F := F) (cap := []) hc hg (m7 l' x') gN (fun id c hc => by cases hc) (fun id c hc => by
      rcases key hc with ⟨rfl, rfl⟩ | ⟨rfl, rfl⟩
      · exact ⟨(fun id h => by simp [dvc, AV.idsL, AV.ids] at h; subst h; exact d25), fun _ => ⟨h1, by decide⟩⟩
      · exact ⟨(fun id h => by rw [ints_ids] at h; cases h), fun _ => ⟨h2, by decide⟩⟩) (fun i j hi hj h => by
      obtain ⟨_, hi⟩ := domB_get hi
      obtain ⟨_, hj⟩ := domB_get hj
      rcases key hi with ⟨rfl, _⟩ | ⟨rfl, _⟩ <;> rcases key hj with ⟨rfl, _⟩ | ⟨rfl, _⟩
      · rfl
      · exact absurd h (by decide)
      · exact absurd h (by decide)
      · rfl) (by rw [ha]; rfl) (fun id h => by simp [AV.idsL, AV.ids] at h) (fun id h => by simp [AV.ids, AV.idsL] at h; subst h; exact d27)
  have e2 : memPut gN [(27, dvc 25 0), (25, ints .u8 z40)] st.mem = memSet (memSet st.mem 5001 (ints .u8 z40)) 5000 (dvc 5001 0) := by
    simp only [memPut, mapIdL_ints]; rfl
  rw [e2] at h
  exact h
theorem own_only4 {s : Int} {k : IntKind} {i : Int} : onlyD (mD s) [.own PIN 0, .agg romZ, .int k i] := fun id h => by
  simp [AV.idsL, AV.ids, romZ] at h
  exact mD_dom.2 (.inl h)
noncomputable abbrev c4 := atC [] ⟨.bool true, none⟩
set_option maxRecDepth 100000 in
theorem q4 : SndG Tryz.prog gC 4 c4 := by
  refine sndG_at [] [] Tryz.func4 (by kernel_rfl) lite4 nt4 rs4 trivial trivial (Nat.le_of_ble_eq_true rfl) (fun hT F => ?_)
  have hM := hM0
  unfold L4
  refine Lwp.seq (Lwp.regI hT ?_)
  simp only [L4r0, go_sem, eq_self, Nat.reduceLT, decide_true]
  refine Lwp.seq (Lwp.regionP hT 0 rfl rfl ?_)
  simp only [go_sem, eq_self, Nat.reduceAdd, Nat.reduceEqDiff, L4r1, opsA, List.take_zero, List.drop_succ_cons, List.drop_zero]
  refine ⟨_, _, _, weak_rfl, new_ok rfl rfl rfl rfl rfl, ?_, rfl, ?_⟩
  · simp only [go_sem, Nat.reduceLT]
  simp only [go_sem, eq_self, Nat.reduceAdd, Nat.reduceLT, Nat.reduceEqDiff, reduceCtorEq, dvc]
  refine Lwp.seq (Lwp.regionP hT 2 rfl rfl ?_)
  simp only [go_sem, eq_self, Nat.reduceAdd, Nat.reduceLT, Nat.reduceEqDiff, reduceCtorEq, ty41, ty49, L4r2, opsA, List.take_succ_cons, List.take_zero, List.drop_succ_cons, List.drop_zero]
  refine ⟨_, _, _, weak_rfl, dev_ok (s := 0) (s' := 3) 5000 5001 (by decide) rfl rfl (m8 _ _) rfl rfl rfl own_only4 rfl rfl, ?_, rfl, ?_⟩
  · simp only [go_sem, Nat.reduceLT]
  simp only [go_sem, eq_self, Nat.reduceAdd, Nat.reduceLT, Nat.reduceLeDiff, Nat.reduceEqDiff, reduceCtorEq, dvc, bootZ]
  refine Lwp.seq (Lwp.regI hT ?_)
  simp only [L4r3, go_sem, isC, eq_self, Nat.reduceAdd, Nat.reduceLT, Nat.reduceEqDiff, Int.reduceLT, Int.reduceLE, Int.reduceToNat, Int.reduceNeg, reduceCtorEq, decide_true, Bool.false_eq_true, ty4, ty30, ty38, ty39, ty41, fd41_0, fd41_4]
  refine Lwp.ret (post_val (v := .bool true) ?_ ?_)
  · (simp only [go_sem, eq_self, Nat.reduceAdd, Nat.reduceEqDiff, reduceCtorEq]; try rfl)
  · (simp only [go_sem, eq_self]; try rfl)
noncomputable abbrev S4 := c4
theorem snd4 : SndG Tryz.prog gC 4 S4 := q4
theorem S5_on {a : List Int} (ha : U6 a) {A : Aq} (hA : OnA bQ A) : S5 [AG a, .agg (pta A)] = some ⟨.tup [.agg (pta (smul A (v64 a))), .slc 1152 (ints .i64 (nts 384)), .nili], none⟩ := by
  rw [S5_eq _ _ ha (pt_pta A), trV_on a hA]
def TqSt (l : List Int) (i : Nat) : AState := { nt := 68, env := [(8, .bool false), (9, .bool true), (11, .slc 1152 (ints .i64 l)), (14, .slc 1152 (ints .i64 l)), (16, .int .i64 i)], mem := [], next := 200 }
noncomputable def S3 : List AV → Option Ret := nz (sumOf (fun p : List Int × List Int × List Int × List Int => match p with | (a, b, p, q) => (U6 a) ∧ (U6 b) ∧ (U6 p) ∧ (U6 q)) (fun p : List Int × List Int × List Int × List Int => match p with | (a, b, p, q) => [AG a, AG b, AG p, AG q]) (fun p : List Int × List Int × List Int × List Int => match p with | (a, b, p, q) => ⟨.bool true, none⟩))
theorem S3_eq (a : List Int) (b : List Int) (p : List Int) (q : List Int) (h0 : U6 a) (h1 : U6 b) (h2 : U6 p) (h3 : U6 q) : S3 [AG a, AG b, AG p, AG q] = some ⟨.bool true, none⟩ :=
  sumOf_eq (dom := (fun p : List Int × List Int × List Int × List Int => match p with | (a, b, p, q) => (U6 a) ∧ (U6 b) ∧ (U6 p) ∧ (U6 q))) (enc := (fun p : List Int × List Int × List Int × List Int => match p with | (a, b, p, q) => [AG a, AG b, AG p, AG q])) (out := (fun p : List Int × List Int × List Int × List Int => match p with | (a, b, p, q) => ⟨.bool true, none⟩)) (a, b, p, q) ⟨h0, h1, h2, h3⟩ (fun y _ e => by
    obtain ⟨y0, y1, y2, y3⟩ := y
    simp only [List.cons.injEq, AV.agg.injEq, ints_injEq, and_true] at e
    first | with_reducible rfl | simp only [e] | rfl)
theorem S3_inv {args : List AV} {r : Ret} (h : sumOf (fun p : List Int × List Int × List Int × List Int => match p with | (a, b, p, q) => (U6 a) ∧ (U6 b) ∧ (U6 p) ∧ (U6 q)) (fun p : List Int × List Int × List Int × List Int => match p with | (a, b, p, q) => [AG a, AG b, AG p, AG q]) (fun p : List Int × List Int × List Int × List Int => match p with | (a, b, p, q) => ⟨.bool true, none⟩) args = some r) : ∃ (a : List Int) (b : List Int) (p : List Int) (q : List Int), ((U6 a) ∧ (U6 b) ∧ (U6 p) ∧ (U6 q)) ∧ args = [AG a, AG b, AG p, AG q] ∧ r = ⟨.bool true, none⟩ := by
  obtain ⟨x, h1, h2, h3⟩ := sumOf_inv h
  obtain ⟨a, b, p, q⟩ := x
  exact ⟨a, b, p, q, h1, h2.symm, h3⟩

set_option maxRecDepth 100000 in
theorem snd3 : SndG Tryz.prog gC 3 S3 := by
  refine snd_nz (sndG_by (gl := gC) [(4, S4), (5, S5), (6, S6)] [] Tryz.func3 (by kernel_rfl) lite3 nt3 rs3 ⟨(by first | exact snd4 | exact snd4.toG | exact SndE.mono up_C snd4 | exact SndE.mono up_D snd4 | exact SndE.mono up_N snd4), (by first | exact snd5 | exact snd5.toG | exact SndE.mono up_C snd5 | exact SndE.mono up_D snd5 | exact SndE.mono up_N snd5), (by first | exact snd6 | exact snd6.toG | exact SndE.mono up_C snd6 | exact SndE.mono up_D snd6 | exact SndE.mono up_N snd6), trivial⟩ trivial (fun hT args r h => ?_))
  obtain ⟨a, b, p, q, ⟨hd0, hd1, hd2, hd3⟩, rfl, rfl⟩ := S3_inv h
  clear h
  have hM := hM0
  refine ⟨Nat.le_of_ble_eq_true rfl, fun F => ?_⟩
  unfold L3
  have l1 := hd0.1
  have l2 := hd1.1
  have l3 := hd2.1
  have l4 := hd3.1
  have f0 : S4 [] = some ⟨.bool true, none⟩ := atC_eq _ _
  have f1 := S6_eq p hd2
  have f2 := S6_eq q hd3
  have f3 := S5_on hd0 (smul_on gQ_on (v64 p))
  have f4 := S5_on hd1 (smul_on gQ_on (v64 q))
  have e1 := pta_len (smul (smul gQ (v64 p)) (v64 a))
  have e2 := pta_len (smul (smul gQ (v64 q)) (v64 b))
  have e3 := pta_len (smul gQ (v64 p))
  have e4 := pta_len (smul gQ (v64 q))
  have hn : (nts 384).length = 1152 := nts384
  generalize smul (smul gQ (v64 p)) (v64 a) = R1 at *
  generalize smul (smul gQ (v64 q)) (v64 b) = R2 at *
  generalize smul gQ (v64 p) = P1 at *
  generalize smul gQ (v64 q) = P2 at *
  generalize nts 384 = nn at *
  refine Lwp.seq (Lwp.regI hT ?_)
  simp only [L3r0, go_sem, eq_self, Nat.reduceAdd, Nat.reduceLT, Nat.reduceEqDiff, reduceCtorEq, decide_true]
  refine Lwp.seq (Lwp.regI hT ?_)
  simp only [L3r1, go_sem, eq_self, Nat.reduceAdd, Nat.reduceLT, Nat.reduceEqDiff, reduceCtorEq, decide_true, f0]
  refine Lwp.seq (Lwp.regD hT hM ?_)
  simp only [L3r2, go_sem, List.isEmpty_nil, eq_self, Nat.reduceAdd, Nat.reduceSub, Nat.reduceLT, Nat.reduceLeDiff, Nat.reduceEqDiff, Nat.reduceDiv, Nat.reduceMod, Nat.reducePow, reduceCtorEq, decide_true, decide_false, Bool.false_eq_true, ty24, ty27, l1, l3, f1, f3, e1, set13c]
  refine Lwp.seq (Lwp.regD hT hM ?_)
  simp only [L3r3, go_sem, List.isEmpty_nil, eq_self, Nat.reduceAdd, Nat.reduceSub, Nat.reduceLT, Nat.reduceLeDiff, Nat.reduceEqDiff, Nat.reduceDiv, Nat.reduceMod, Nat.reducePow, reduceCtorEq, decide_true, decide_false, Bool.false_eq_true, ty24, ty27, l2, l4, f2, f4, e2, set13c]
  refine Lwp.seq ?_
  refine Lwp.seq (Lwp.regI hT ?_)
  simp only [L3r4, go_sem, isC, eq_self, Nat.reduceAdd, Nat.reduceLT, Nat.reduceEqDiff, Int.reduceBEq, Int.reduceBNe, reduceCtorEq, decide_true, Bool.false_eq_true, ty28, ty30]
  refine Lwp.cond rfl (fun h => by cases h) (fun _ => ?_)
  refine Lwp.skip ?_
  simp only [go_sem]
  refine Lwp.seq ?_
  refine Lwp.seq (Lwp.regI hT ?_)
  simp only [L3r6, go_sem, eq_self, Nat.reduceAdd, Nat.reduceLT, decide_true]
  refine Lwp.block (Lwp.range (TqSt nn) 1152 ?_ (fun i hi => ?_) ?_)
  · refine weak_of rfl ?_ ?_ ?_
    · (simp only [go_sem, eq_self, Nat.reduceEqDiff, reduceCtorEq, TqSt]; try rfl)
    · (simp only [go_sem, TqSt]; try rfl)
    · (simp only [go_sem, eq_self, TqSt]; try rfl)
  · unfold TqSt
    have a1 : (i : Int) < 1152 := by omega
    have a2 : (0 : Int) ≤ (i : Int) := by omega
    have a4 := wrap_succ hi (by decide)
    refine Lwp.seq ?_
    refine Lwp.seq (Lwp.regI hT ?_)
    simp only [L3r7, go_sem, eq_self, Nat.reduceAdd, Nat.reduceLT, Nat.reduceEqDiff, decide_true, ty28, a1]
    refine Lwp.cond rfl (fun _ => Lwp.skip ?_) (fun h => by cases h)
    simp only [go_sem]
    refine Lwp.seq (Lwp.block ?_)
    refine Lwp.seq (Lwp.regD hT hM ?_)
    simp only [L3r9, go_sem, eq_self, Nat.reduceAdd, Nat.reduceLT, Nat.reduceLeDiff, Nat.reduceEqDiff, decide_true, decide_false, Bool.false_eq_true, ty3, ty28, hn, hi, a1, a2, Int.toNat_natCast, Nat.mul_one, Nat.zero_add, bne_self_eq_false]
    refine Lwp.cond rfl (fun h => by cases h) (fun _ => ?_)
    refine Lwp.skip ?_
    simp only [go_sem]
    refine Lwp.regI hT ?_
    simp only [L3r8, go_sem, eq_self, Nat.reduceAdd, Nat.reduceLT, Nat.reduceEqDiff, decide_true, a4]
    refine weak_of rfl ?_ ?_ ?_
    · (simp only [go_sem, eq_self, Nat.reduceEqDiff]; try rfl)
    · (simp only [go_sem]; try rfl)
    · (simp only [go_sem, eq_self]; try rfl)
  · unfold TqSt
    refine Lwp.seq ?_
    refine Lwp.seq (Lwp.regI hT ?_)
    simp only [L3r7, go_sem, eq_self, Nat.reduceAdd, Nat.reduceLT, Nat.reduceEqDiff, Int.reduceLT, decide_true, decide_false, ty28]
    refine Lwp.cond rfl (fun h => by cases h) (fun _ => Lwp.exit ?_)
    simp only [go_sem, eq_self]
    refine Lwp.seq (Lwp.regI hT ?_)
    simp only [L3r11, go_sem, eq_self, Nat.reduceAdd, Nat.reduceLT, Nat.reduceEqDiff, decide_true]
    refine Lwp.ret (post_val (v := .bool true) ?_ ?_)
    · (simp only [go_sem, eq_self, Nat.reduceEqDiff]; try rfl)
    · (simp only [go_sem, eq_self]; try rfl)
end Eng


namespace Eng
open Go Go.Proofs
/- The words of the start, sign by sign. -/
def ioL : List Char := [104, 97, 114, 110, 101, 115, 115, 32, 50, 97, 98, 98, 50, 54, 55, 50, 50, 49, 102, 53, 102, 48, 53, 101, 99, 49, 99, 49, 50, 99, 51, 54, 99, 56, 56, 51, 49, 98, 54, 51, 56, 56, 51, 56, 99, 101, 102, 101, 51, 98, 53, 53, 97, 100, 51, 98, 101, 55, 50, 56, 50, 55, 101, 51, 55, 97, 57, 50, 100, 54, 50, 56, 32, 99, 117, 116, 32, 97, 116, 32, 101, 115, 99, 117, 116, 99, 104, 101, 111, 110, 47, 101, 115, 99, 117, 116, 99, 104, 101, 111, 110, 116, 111, 112, 46, 84, 111, 112, 81, 117, 105, 101, 116].map Char.ofNat
theorem ioS : Tryz.prog.initOrder = String.ofList ioL := by kernel_rfl
theorem ioT : Tryz.prog.initOrder.toList = ioL := by rw [ioS, String.toList_ofList]
def ioW : List (List Char) := [[97, 116].map Char.ofNat, [101, 115, 99, 117, 116, 99, 104, 101, 111, 110, 47, 101, 115, 99, 117, 116, 99, 104, 101, 111, 110, 116, 111, 112, 46, 84, 111, 112, 81, 117, 105, 101, 116].map Char.ofNat]
def ioC : List Char := [99, 117, 116].map Char.ofNat
theorem ioB : behindMainWord (wordsSigns ioL) = ioC :: ioW := by kernel_rfl
theorem ioB' : behindMainWord (wordsSigns Tryz.prog.initOrder.toList) = ioC :: ioW := (congrArg (fun l => behindMainWord (wordsSigns l)) ioT).trans ioB
theorem jGc : (ioC == "gc".toList) = false := by kernel_rfl
theorem jSpec : (ioC == "spec".toList) = false := by kernel_rfl
theorem jCar : (ioC == "carried".toList) = false := by kernel_rfl
theorem jCut : (ioC == "cut".toList) = true := by kernel_rfl
theorem jStrip : stripLifts liftWords (ioC :: ioW) = ([], ioC :: ioW) := by kernel_rfl
theorem jLater : Tryz.prog.laysLater = false := by kernel_rfl
theorem jRefl : Tryz.prog.bearsReflect = false := by kernel_rfl
theorem jDoor : Tryz.prog.doorFits [] = true := by kernel_rfl
theorem jLifts : Tryz.prog.headLifts = [] := lifts_of ioB' jStrip
theorem jMay : Tryz.prog.mayEnter = true := mayEnter_of ioB' jGc jSpec jStrip jCut jLater jRefl jDoor
theorem jFinal : Tryz.prog.liftsFinal = false := final_of ioB' jCar jLifts
theorem jMake : Tryz.prog.make = some .cut := make_of ioB' jGc jSpec jCut
end Eng


namespace Eng
open Go Go.Proofs Go.Proofs.YtmlehjafpofkoaaGreatDoor Go.ChangeShapes Go.WideShapes Go.ChangeAt Go.RowKit

theorem own' : ownKnob Tryz.prog.godebug = none := by kernel_rfl
theorem gPrime : Tryz.prog.globalNamed "escutcheon/field.prime" = some 4 := by kernel_rfl
theorem tPrime : (Tryz.prog.globals[4]?).map (·.type) = some 81 := by kernel_rfl
theorem gPP : Tryz.prog.globalNamed "escutcheon/proj.prime" = some 1 := by kernel_rfl
theorem tPP : (Tryz.prog.globals[1]?).map (·.type) = some 81 := by kernel_rfl
theorem gCB : Tryz.prog.globalNamed "escutcheon/proj.curveB" = some 5 := by kernel_rfl
theorem tCB : (Tryz.prog.globals[5]?).map (·.type) = some 24 := by kernel_rfl
theorem gOne : Tryz.prog.globalNamed "escutcheon/proj.one" = some 0 := by kernel_rfl
theorem tOne : (Tryz.prog.globals[0]?).map (·.type) = some 24 := by kernel_rfl
theorem gBase : Tryz.prog.globalNamed "escutcheon/curve.base" = some 2 := by kernel_rfl
theorem tBase : (Tryz.prog.globals[2]?).map (·.type) = some 27 := by kernel_rfl
theorem gDeb : Tryz.prog.globalNamed "math/bits.deBruijn64tab" = some 6 := by kernel_rfl
theorem tDeb : (Tryz.prog.globals[6]?).map (·.type) = some 124 := by kernel_rfl
theorem gErr : Tryz.prog.globalNamed "errors.errorType" = some 3 := by kernel_rfl
theorem c81 : Tryz.prog.cellsOf 81 = 13 := by kernel_rfl
theorem c27 : Tryz.prog.cellsOf 27 = 13 := by kernel_rfl
theorem c24 : Tryz.prog.cellsOf 24 = 6 := by kernel_rfl
theorem c22 : Tryz.prog.cellsOf 22 = 1 := by kernel_rfl
theorem cc4 : Tryz.prog.cellsOf 4 = 1 := by kernel_rfl
theorem c124 : Tryz.prog.cellsOf 124 = 64 := by kernel_rfl
theorem c5 : Tryz.prog.cellsOf 5 = 1 := by kernel_rfl
theorem rtU : (Tryz.prog.cutTypes.find? (·.1 == "internal/reflectlite.rtype")).map (·.2) = some 169 := by kernel_rfl
theorem oneRow : ((List.range Tryz.prog.types.size).filter fun t => Tryz.prog.rowNamed t [101, 114, 114, 111, 114]) = [30] := by kernel_rfl
theorem tHand : typeHandle Tryz.prog 30 = .pointer (some ⟨11, 30, none⟩) := by kernel_rfl

variable {H : Type} {enc : TypeId × Value → H}
theorem glob_cells {P : Program} {W : World} {nm : String} {g : Nat} {cs : Array Value} {c : List AV} (hg : P.globalNamed nm = some g) (hv : W.var? P nm = some cs) (hc : cs.toList.map some = c.map AV.lit) (hpos : 0 < c.length) :
    g < W.heap.size ∧ ∀ (i : Nat) (v : AV), c[i]? = some v → ∃ y, W.cell? ⟨g, i, none⟩ = some y ∧ v.lit = some y := by
  have hcell := World.var?_cell hg hv
  have key : ∀ (i : Nat) (v : AV), c[i]? = some v → ∃ y, W.cell? ⟨g, i, none⟩ = some y ∧ v.lit = some y := by
    intro i v hi
    have h1 : (cs.toList.map some)[i]? = some v.lit := by rw [hc, List.getElem?_map, hi]; rfl
    rw [List.getElem?_map] at h1
    obtain ⟨y, hy, he⟩ := Option.map_eq_some_iff.1 h1
    refine ⟨y, ?_, he.symm⟩
    rw [hcell i, ← Array.getElem?_toList, hy]
  refine ⟨?_, key⟩
  obtain ⟨y, hy, _⟩ := key 0 _ (List.getElem?_eq_getElem hpos)
  exact cell?_lt hy
theorem pt_trod {P : Program} {w : World} {base : Nat} {sp : Nat → Bool} {held : Bool} {fuel : Nat} {t t6 e tb : TypeId} {f0 f1 f2 : Field} {cs : List Value} {ds0 ds1 : List (DataW H)} {d2 : DataW H} {q : List MemPlace} (ht : P.underlying t = some (.struct #[f0, f1, f2])) (o0 : f0.offset = 0) (o1 : f1.offset = 6) (o2 : f2.offset = 12)
    (y0 : f0.type = t6) (y1 : f1.type = t6) (y2 : f2.type = tb) (h6 : P.underlying t6 = some (.array 6 e)) (he : P.underlying e = some (.int .u64)) (hb : P.underlying tb = some .bool) (c6 : P.cellsOf t6 = 6) (ce : P.cellsOf e = 1) (cb : P.cellsOf tb = 1) (ct : P.cellsOf t = 13)
    (h : DataW.trod enc P w base sp held fuel t cs = some (.agg [.agg ds0, .agg ds1, d2], q)) : ∃ b, d2 = .lit (.bool b) ∧ cs = ds0.map litV ++ (ds1.map litV ++ [.bool b]) := by
  obtain ⟨z0, z1, z2, n, hx, hl, t0, t1, t2⟩ := Go.Deep.trod_struct3 ht h
  simp only [Prod.mk.injEq, DataW.agg.injEq, List.cons.injEq, and_true] at hx
  obtain ⟨⟨e0, e1, e2⟩, _⟩ := hx
  obtain ⟨a0, b0⟩ := z0
  obtain ⟨a1, b1⟩ := z1
  obtain ⟨a2, b2⟩ := z2
  simp only at e0 e1 e2
  subst e0 e1 e2
  rw [o0, y0, c6, List.drop_zero] at t0
  rw [o1, y1, c6] at t1
  rw [o2, y2, cb] at t2
  obtain ⟨r0, _, _⟩ := arr_trod h6 he ce c6 t0
  obtain ⟨r1, _, _⟩ := arr_trod h6 he ce c6 t1
  obtain ⟨b, e1, e2⟩ := DataW.trod_bool hb t2
  cases e2
  rw [ct] at hl
  refine ⟨b, rfl, ?_⟩
  have k1 : cs = cs.take 6 ++ ((cs.drop 6).take 6 ++ (cs.drop 12).take 1) := by
    have h1 : (cs.drop 12).take 1 = cs.drop 12 := List.take_of_length_le (by rw [List.length_drop]; omega)
    have h2 : (cs.drop 6).take 6 ++ cs.drop 12 = cs.drop 6 := by
      have := List.take_append_drop 6 (cs.drop 6)
      rwa [List.drop_drop] at this
    rw [h1, h2, List.take_append_drop]
  rw [k1, r0, r1, e1]

theorem std_gx : std gxQ = gxL := by
  rw [gx_eq]; unfold std gxQ; rw [fqv_val, Nat.mod_eq_of_lt (by rw [pN_lit]; decide)]
theorem std_gy : std gyQ = gyL := by
  rw [gy_eq]; unfold std gyQ; rw [fqv_val, Nat.mod_eq_of_lt (by rw [pN_lit]; decide)]
abbrev laidQ : List (String × DataW Unit) := Rows.topQuietRow.laid
/-- The variables that the walk reads. -/
def keepQ (x : String × DataW Unit) : Bool := x.2.handleName?.isNone && !(x.1 == "escutcheon/order.group") && !(x.1 == "escutcheon/sha.first") && !(x.1 == "escutcheon/sha.rest") && !(x.1 == "escutcheon/sha.begin")
theorem laidQ_keep : laidQ.filter keepQ = [("math/bits.deBruijn64tab", Rows.laid_math_bits_deBruijn64tab), ("escutcheon/field.prime", Rows.laid_escutcheon_field_prime), ("escutcheon/proj.prime", Rows.laid_escutcheon_proj_prime), ("escutcheon/proj.curveB", Rows.laid_escutcheon_proj_curveB), ("escutcheon/proj.one", Rows.laid_escutcheon_proj_one), ("escutcheon/curve.base", Rows.laid_escutcheon_curve_base)] := by kernel_rfl
theorem err_laid {W : World} (h : laidMetH Tryz.prog laidQ W) : W.var? Tryz.prog "errors.errorType" = some #[.iface 169 (.agg #[.pointer (some ⟨11, 30, none⟩)])] := by
  have h2 := (laidMetH_iff.1 h).2
  have hm : ("errors.errorType", (Rows.laid_errors_errorType : DataW Unit)) ∈ laidQ.filter fun x => x.2.handleName?.isSome := List.mem_filter.2 ⟨List.mem_cons_of_mem _ List.mem_cons_self, rfl⟩
  obtain ⟨name, u, ty, e1, e2, e3, e4, e5⟩ := h2 _ hm
  have en : name = [101, 114, 114, 111, 114] := (Option.some.inj e1).symm
  subst en
  obtain rfl := Option.some.inj (rtU.symm.trans e2)
  have hm : ty ∈ (List.range Tryz.prog.types.size).filter fun t => Tryz.prog.rowNamed t [101, 114, 114, 111, 114] := List.mem_filter.2 ⟨List.mem_range.2 e3, e4⟩
  rw [oneRow] at hm
  obtain rfl := List.mem_singleton.1 hm
  rw [tHand] at e5
  exact e5
theorem quiet_glob {W : World} (h : laidMetH Tryz.prog laidQ W) : GlobOk (fun g => find gC g) W := by
  have hE := err_laid h
  have h := laidMetH.filter keepQ h
  rw [laidQ_keep, MakeChecks.laidMetH_plain _ _ _ (by kernel_rfl)] at h
  obtain ⟨ps, ⟨g5, t5, cs5, f5, p5, q5, hg5, ht5, hv5, hd5, ⟨g0, t0, cs0, f0, p0, q0, hg0, ht0, hv0, hd0, ⟨g1, t1, cs1, f1, p1, q1, hg1, ht1, hv1, hd1, ⟨g2, t2, cs2, f2, p2, q2, hg2, ht2, hv2, hd2, ⟨g3, t3, cs3, f3, p3, q3, hg3, ht3, hv3, hd3, ⟨g4, t4, cs4, f4, p4, q4, hg4, ht4, hv4, hd4, _, _⟩, _⟩, _⟩, _⟩, _⟩, _⟩, _, _⟩ := h
  obtain rfl := Option.some.inj (gDeb.symm.trans hg5)
  obtain rfl := Option.some.inj (tDeb.symm.trans ht5)
  obtain rfl := Option.some.inj (gPrime.symm.trans hg0)
  obtain rfl := Option.some.inj (tPrime.symm.trans ht0)
  obtain rfl := Option.some.inj (gPP.symm.trans hg1)
  obtain rfl := Option.some.inj (tPP.symm.trans ht1)
  obtain rfl := Option.some.inj (gCB.symm.trans hg2)
  obtain rfl := Option.some.inj (tCB.symm.trans ht2)
  obtain rfl := Option.some.inj (gOne.symm.trans hg3)
  obtain rfl := Option.some.inj (tOne.symm.trans ht3)
  obtain rfl := Option.some.inj (gBase.symm.trans hg4)
  obtain rfl := Option.some.inj (tBase.symm.trans ht4)
  have hc0 := mod_trod Tryz.underlying81 rfl rfl rfl rfl rfl rfl Tryz.underlying24 Tryz.underlying22 c24 c22 c81 (ds0 := _) (d1 := _) (ds2 := _) hd0
  have hc1 := mod_trod Tryz.underlying81 rfl rfl rfl rfl rfl rfl Tryz.underlying24 Tryz.underlying22 c24 c22 c81 (ds0 := _) (d1 := _) (ds2 := _) hd1
  have hc2 := (arr_trod Tryz.underlying24 Tryz.underlying22 c22 c24 (ds := _) hd2).1
  have hc3 := (arr_trod Tryz.underlying24 Tryz.underlying22 c22 c24 (ds := _) hd3).1
  have hc5 := (arr_trod Tryz.underlying124 Tryz.underlying5 c5 c124 (ds := _) hd5).1
  obtain ⟨b, eb, hc4⟩ := pt_trod Tryz.underlying27 rfl rfl rfl rfl rfl rfl Tryz.underlying24 Tryz.underlying22 Tryz.underlying4 c24 c22 cc4 c27 (ds0 := _) (ds1 := _) (d2 := _) hd4
  have k0 : cs0.toList = pD.map (Value.int .u64) := by rw [hc0, pD_eq, pL_eq, p_mod]; rfl
  have k1 : cs1.toList = pD.map (Value.int .u64) := by rw [hc1, pD_eq, pL_eq, p_mod]; rfl
  have k2 : cs2.toList = (mon bQ).map (Value.int .u64) := by rw [hc2, ← cur_eq]; rfl
  have k3 : cs3.toList = (mon 1).map (Value.int .u64) := by rw [hc3, ← one_eq]; rfl
  have k5 : cs5.toList = deB.map (Value.int .u8) := by rw [hc5]; rfl
  have k4 : cs4.toList.map some = (ptc (std gxQ) (std gyQ) false).map AV.lit := by
    cases eb
    rw [hc4, std_gx, std_gy]; rfl
  intro g c hgc
  unfold gC at hgc
  simp only [find] at hgc
  split at hgc
  · rename_i e; subst e; cases hgc
    exact glob_one gPrime hv0 k0 (by rw [pD_len]; decide)
  · split at hgc
    · rename_i e; subst e; cases hgc
      exact glob_one gOne hv3 k3 (by rw [mon_len]; decide)
    · split at hgc
      · rename_i e; subst e; cases hgc
        exact glob_one gPP hv1 k1 (by rw [pD_len]; decide)
      · split at hgc
        · rename_i e; subst e; cases hgc
          exact glob_cells gBase hv4 k4 (by rw [ptc_len (std_len _) (std_len _)]; decide)
        · split at hgc
          · rename_i e; subst e; cases hgc
            exact glob_one gCB hv2 k2 (by rw [mon_len]; decide)
          · split at hgc
            · rename_i e; subst e; cases hgc
              exact glob_one gDeb hv5 k5 (by decide)
            · split at hgc
              · rename_i e; subst e; cases hgc
                exact glob_cells gErr hE rfl (by decide)
              · cases hgc
theorem quiet_met (os : Os) (args : Array Value) : laidMetH Tryz.prog laidQ ((World.doorLaid Tryz.prog 80 os).forCall (fun _ _ => 0) ⟨#[], args, []⟩).memory :=
  laidMetH_of_parts3 (fuel := 8) (laidMet_of_run' 8 (by kernel_rfl) (by kernel_rfl)) (by kernel_rfl) (by kernel_rfl)
end Eng

