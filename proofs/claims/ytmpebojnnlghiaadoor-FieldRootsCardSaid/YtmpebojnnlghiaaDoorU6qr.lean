/- Contracts of the program's functions, and laws over them. There is no further condition. -/
import Derived.Test.YtmpebojnnlghiaaDoorU5qr
import Derived.Test.YtmpebojnnlghiaaDoorU0qr
import Derived.Test.YtmpebojnnlghiaaDoorED
import Derived.Test.YtmpebojnnlghiaaDoorRows
import Derived.LaidMore
import Derived.OpenShut
import Derived.Stop.Joined
set_option linter.unusedVariables false
set_option linter.unusedSimpArgs false
set_option exponentiation.threshold 2000
namespace Eng
open Go Go.Proofs
set_option linter.unusedSimpArgs false
set_option linter.unusedVariables false
theorem half_eq : pN / 2 = (pN - 1) / 2 := by have := pN_four; omega
theorem rtOk_iff (a : Nat) : rtOk a ↔ (eul a = 0 ∨ eul a = 1) := by
  unfold rtOk rt eul
  rw [half_eq]
  exact root_iff pN_pr pN_four
theorem rt_lt (a : Nat) : rt a < pN := Nat.mod_lt _ pN_pos
theorem subM_zero (x : Nat) (h : x < pN) : subM pN 0 x = (pN - x) % pN := by
  unfold subM; rw [Nat.zero_mod, Nat.zero_add, Nat.mod_eq_of_lt h]
theorem rtE_lt (a : Nat) : rtE a < pN := by
  unfold rtE; split
  · exact Nat.mod_lt _ pN_pos
  · exact rt_lt a
theorem rtE_even (a : Nat) : rtE a % 2 = 0 := by
  unfold rtE
  split
  · rename_i h
    have h1 := rt_lt a
    have h4 := pN_four
    rw [subM_zero _ h1, Nat.mod_eq_of_lt (show pN - rt a < pN by omega)]
    omega
  · omega
theorem rtE_sq (a : Nat) (h : rtOk a) : rtE a * rtE a % pN = a % pN := by
  unfold rtE
  split
  · rw [subM_zero _ (rt_lt a), neg_sq pN_pos (rt_lt a)]; exact h
  · exact h
theorem lim6_low (x : Nat) : ((lim6 x).getD 0 0).tmod 2 = ((x % 2 : Nat) : Int) := by
  rw [lim6_getD x (by decide), Nat.pow_zero, Nat.div_one, Int.tmod_eq_emod_of_nonneg (by omega)]
  omega
theorem sq_ok (a : Nat) : rtOk (a * a % pN) := by
  rw [rtOk_iff]
  unfold eul
  rw [half_eq]
  exact sq_of pN_pr pN_four
theorem rtE_two (a : Nat) : rtE (a * a % pN) = a % pN ∨ rtE (a * a % pN) = subM pN 0 a := by
  have h := two_roots (p := pN) (s := rtE (a * a % pN)) (a := a) pN_pr (rtE_lt _) (by rw [rtE_sq _ (sq_ok a), Nat.mod_mod])
  rcases h with h | h
  · exact .inl h
  · right; rw [h]; unfold subM; rw [Nat.zero_mod, Nat.zero_add]

noncomputable def S13 : List AV → Option Ret := nz (sumOf (fun p : List Int => match p with | a => (U6 a)) (fun p : List Int => match p with | a => [AG a]) (fun p : List Int => match p with | a => ⟨.bool true, none⟩))
theorem S13_eq (a : List Int) (h0 : U6 a) : S13 [AG a] = some ⟨.bool true, none⟩ :=
  sumOf_eq (dom := (fun p : List Int => match p with | a => (U6 a))) (enc := (fun p : List Int => match p with | a => [AG a])) (out := (fun p : List Int => match p with | a => ⟨.bool true, none⟩)) a h0 (fun y _ e => by
    simp only [List.cons.injEq, AV.agg.injEq, AV.int.injEq, AV.slc.injEq, AV.iptr.injEq, AV.bool.injEq, AV.str.injEq, ints_injEq, dig_injEq,  Int.ofNat_inj, BitVec.toNat_inj, true_and, and_true] at e
    first | with_reducible rfl | simp only [e] | rfl)
theorem S13_inv {args : List AV} {r : Ret} (h : sumOf (fun p : List Int => match p with | a => (U6 a)) (fun p : List Int => match p with | a => [AG a]) (fun p : List Int => match p with | a => ⟨.bool true, none⟩) args = some r) : ∃ (a : List Int), ((U6 a)) ∧ args = [AG a] ∧ r = ⟨.bool true, none⟩ := by
  obtain ⟨x, h1, h2, h3⟩ := sumOf_inv h
  exact ⟨x, h1, h2.symm, h3⟩

set_option maxRecDepth 100000 in
theorem snd13 : SndG Tryd.prog pG 13 S13 := by
  refine snd_nz (sndG_by (gl := pG) [(16, S16), (17, S17), (19, S19), (33, S33), (34, S34), (37, S37), (40, S40), (46, S46), (47, S47)] [] Tryd.func13 (by kernel_rfl) lite13 nt13 rs13 ⟨(by first | exact snd16 | exact snd16.toG), (by first | exact snd17 | exact snd17.toG), (by first | exact snd19 | exact snd19.toG), (by first | exact snd33 | exact snd33.toG), (by first | exact snd34 | exact snd34.toG), (by first | exact snd37 | exact snd37.toG), (by first | exact snd40 | exact snd40.toG), (by first | exact snd46 | exact snd46.toG), (by first | exact snd47 | exact snd47.toG), trivial⟩ trivial (fun hT args r h => ?_))
  obtain ⟨a, hd0, rfl, rfl⟩ := S13_inv h
  clear h
  have hM := hM0
  refine ⟨Nat.le_of_ble_eq_true rfl, fun F => ?_⟩
  unfold L13
  have hl := hd0.1
  have f0 := S34_eq
  have f1 := S46_eq a hd0
  have f2 := S19_eq a hd0
  have f3 := S47_eq (v64 a) (dig12 hd0.v64_lt)
  have m1 := S40_eq a a hd0 hd0
  have m2 := S46_eq (lim6 (v64 a * v64 a % pN)) (U6_lim _)
  rw [v64_lp] at m2
  have e1 : rootL (v64 a * v64 a % pN) = lim6 (rtE (v64 a * v64 a % pN)) := by unfold rootL; rw [if_pos (sq_ok _)]
  have e2 : rootE (v64 a * v64 a % pN) = .nili := by unfold rootE; rw [if_pos (sq_ok _)]
  rw [e1, e2] at m2
  have tw := rtE_two (v64 a)
  have r1 := S17_eq a hd0
  have r2 := S33_eq a hd0
  have lA := lim6_len (v64 a * v64 a % pN)
  have lS := lim6_len (rtE (v64 a * v64 a % pN))
  have lR := lim6_len (v64 a % pN)
  have lN := lim6_len (subM pN 0 (v64 a))
  have sR : rtE (v64 a * v64 a % pN) < 18446744073709551616 ^ 6 := Nat.lt_trans (rtE_lt _) pN_ltR
  have rl : (List.replicate 6 (0 : Int)).length = 6 := rfl
  have dS : decide (lim6 (rtE (v64 a * v64 a % pN)) = lim6 (v64 a % pN)) = decide (rtE (v64 a * v64 a % pN) = v64 a % pN) := by
    by_cases h : rtE (v64 a * v64 a % pN) = v64 a % pN
    · rw [h]; simp
    · rw [decide_eq_false h, decide_eq_false (fun e => h (lim6_inj sR (pN_mod_lt _) e))]
  by_cases ok : rtOk (v64 a)
  · have e3 : rootL (v64 a) = lim6 (rtE (v64 a)) := by unfold rootL; rw [if_pos ok]
    have e4 : rootE (v64 a) = .nili := by unfold rootE; rw [if_pos ok]
    rw [e3, e4] at f1
    rw [decide_eq_true ((rtOk_iff _).1 ok)] at f3
    have lE := lim6_len (rtE (v64 a))
    have ev := lim6_low (rtE (v64 a))
    rw [rtE_even] at ev
    have s1 := S40_eq (lim6 (rtE (v64 a))) (lim6 (rtE (v64 a))) (U6_lim _) (U6_lim _)
    have eR : rtE (v64 a) < 18446744073709551616 ^ 6 := Nat.lt_trans (rtE_lt _) pN_ltR
    rw [v64_lim6 eR, rtE_sq _ ok] at s1
    have g1 := S19_eq (lim6 (rtE (v64 a))) (U6_lim _)
    rw [v64_lim6 eR] at g1
    have g2 := S16_eq
    have g3 := S37_eq (rtE (v64 a)) pN (Nat.le_trans (dig12 eR) (by decide)) (Nat.le_trans (dig12 pN_ltR) (by decide))
    rw [if_pos (rtE_lt _)] at g3
    have zz : ((0 : Nat) : Int) = 0 := rfl
    rw [zz] at ev
    have n0 : (0 : Nat) < 6 := by decide
    generalize lim6 (rtE (v64 a)) = oE at *
    generalize dig (rtE (v64 a)) = dE at *
    generalize dig pN = dp at *
    generalize dig (v64 a) = da at *
    generalize lim6 (v64 a * v64 a % pN) = oA at *
    refine Lwp.seq (Lwp.regI hT ?_)
    simp only [L13r0, go_sem, List.isEmpty_nil, isC, eq_self, reduceIte, Nat.reduceAdd, Nat.reduceMul, Nat.reduceSub, Nat.reduceLT, Nat.reduceLeDiff, Nat.reduceEqDiff, Nat.reduceDiv, Nat.reduceMod, Nat.reducePow, Nat.reduceBEq, Nat.reduceBNe, Int.reduceLT, Int.reduceLE, Int.reduceGT, Int.reduceGE, Int.reduceBEq, Int.reduceBNe, Int.reduceToNat, Int.reduceAdd, Int.reduceSub, Int.reduceMul, Int.reduceEq, Int.reduceNeg, reduceCtorEq, decide_true, decide_false, Bool.false_eq_true, ty3, ty4, ty5, ty9, ty22, ty23, ty24, ty38, ty40, ty43, ty27, ty28, ty74, ty75, ty52, ty59, eq24, pG, nG, fld0, fld2, hl]
    refine Lwp.seq (Lwp.regI hT ?_)
    simp only [L13r1, go_sem, List.isEmpty_nil, isC, eq_self, reduceIte, Nat.reduceAdd, Nat.reduceMul, Nat.reduceSub, Nat.reduceLT, Nat.reduceLeDiff, Nat.reduceEqDiff, Nat.reduceDiv, Nat.reduceMod, Nat.reducePow, Nat.reduceBEq, Nat.reduceBNe, Int.reduceLT, Int.reduceLE, Int.reduceGT, Int.reduceGE, Int.reduceBEq, Int.reduceBNe, Int.reduceToNat, Int.reduceAdd, Int.reduceSub, Int.reduceMul, Int.reduceEq, Int.reduceNeg, reduceCtorEq, decide_true, decide_false, Bool.false_eq_true, ty3, ty4, ty5, ty9, ty22, ty23, ty24, ty38, ty40, ty43, ty27, ty28, ty74, ty75, ty52, ty59, eq24, pG, nG, fld0, fld2, hl, f1, lE]
    refine Lwp.seq (Lwp.regI hT ?_)
    simp only [L13r2, go_sem, List.isEmpty_nil, isC, eq_self, reduceIte, Nat.reduceAdd, Nat.reduceMul, Nat.reduceSub, Nat.reduceLT, Nat.reduceLeDiff, Nat.reduceEqDiff, Nat.reduceDiv, Nat.reduceMod, Nat.reducePow, Nat.reduceBEq, Nat.reduceBNe, Int.reduceLT, Int.reduceLE, Int.reduceGT, Int.reduceGE, Int.reduceBEq, Int.reduceBNe, Int.reduceToNat, Int.reduceAdd, Int.reduceSub, Int.reduceMul, Int.reduceEq, Int.reduceNeg, reduceCtorEq, decide_true, decide_false, Bool.false_eq_true, ty3, ty4, ty5, ty9, ty22, ty23, ty24, ty38, ty40, ty43, ty27, ty28, ty74, ty75, ty52, ty59, eq24, pG, nG, fld0, fld2, hl, f2, f3]
    refine Lwp.seq ?_
    refine Lwp.seq (Lwp.regI hT ?_)
    simp only [L13r3, go_sem, List.isEmpty_nil, isC, eq_self, reduceIte, Nat.reduceAdd, Nat.reduceMul, Nat.reduceSub, Nat.reduceLT, Nat.reduceLeDiff, Nat.reduceEqDiff, Nat.reduceDiv, Nat.reduceMod, Nat.reducePow, Nat.reduceBEq, Nat.reduceBNe, Int.reduceLT, Int.reduceLE, Int.reduceGT, Int.reduceGE, Int.reduceBEq, Int.reduceBNe, Int.reduceToNat, Int.reduceAdd, Int.reduceSub, Int.reduceMul, Int.reduceEq, Int.reduceNeg, reduceCtorEq, decide_true, decide_false, Bool.false_eq_true, ty3, ty4, ty5, ty9, ty22, ty23, ty24, ty38, ty40, ty43, ty27, ty28, ty74, ty75, ty52, ty59, eq24, pG, nG, fld0, fld2]
    refine Lwp.cond rfl (fun h => by cases h) (fun _ => ?_)
    refine Lwp.seq (Lwp.regD hT hM ?_)
    simp only [L13r6, go_sem, List.isEmpty_nil, isC, eq_self, reduceIte, Nat.reduceAdd, Nat.reduceMul, Nat.reduceSub, Nat.reduceLT, Nat.reduceLeDiff, Nat.reduceEqDiff, Nat.reduceDiv, Nat.reduceMod, Nat.reducePow, Nat.reduceBEq, Nat.reduceBNe, Int.reduceLT, Int.reduceLE, Int.reduceGT, Int.reduceGE, Int.reduceBEq, Int.reduceBNe, Int.reduceToNat, Int.reduceAdd, Int.reduceSub, Int.reduceMul, Int.reduceEq, Int.reduceNeg, reduceCtorEq, decide_true, decide_false, Bool.false_eq_true, ty3, ty4, ty5, ty9, ty22, ty23, ty24, ty38, ty40, ty43, ty27, ty28, ty74, ty75, ty52, ty59, eq24, pG, nG, fld0, fld2, hl, lE, ev, s1, r1, lR, g1, g2, g3, n0, Int.toNat_zero, Nat.le_refl]
    refine Lwp.cond rfl (fun h => by cases h) (fun _ => Lwp.skip ?_)
    simp only [go_sem, List.isEmpty_nil, isC, eq_self, reduceIte, Nat.reduceAdd, Nat.reduceMul, Nat.reduceSub, Nat.reduceLT, Nat.reduceLeDiff, Nat.reduceEqDiff, Nat.reduceDiv, Nat.reduceMod, Nat.reducePow, Nat.reduceBEq, Nat.reduceBNe, Int.reduceLT, Int.reduceLE, Int.reduceGT, Int.reduceGE, Int.reduceBEq, Int.reduceBNe, Int.reduceToNat, Int.reduceAdd, Int.reduceSub, Int.reduceMul, Int.reduceEq, Int.reduceNeg, reduceCtorEq, decide_true, decide_false, Bool.false_eq_true]
    refine Lwp.seq (Lwp.regI hT ?_)
    simp only [L13r8, go_sem, List.isEmpty_nil, isC, eq_self, reduceIte, Nat.reduceAdd, Nat.reduceMul, Nat.reduceSub, Nat.reduceLT, Nat.reduceLeDiff, Nat.reduceEqDiff, Nat.reduceDiv, Nat.reduceMod, Nat.reducePow, Nat.reduceBEq, Nat.reduceBNe, Int.reduceLT, Int.reduceLE, Int.reduceGT, Int.reduceGE, Int.reduceBEq, Int.reduceBNe, Int.reduceToNat, Int.reduceAdd, Int.reduceSub, Int.reduceMul, Int.reduceEq, Int.reduceNeg, reduceCtorEq, decide_true, decide_false, Bool.false_eq_true, ty3, ty4, ty5, ty9, ty22, ty23, ty24, ty38, ty40, ty43, ty27, ty28, ty74, ty75, ty52, ty59, eq24, pG, nG, fld0, fld2, hl, m1, m2, lA, lS]
    by_cases t1 : rtE (v64 a * v64 a % pN) = v64 a % pN
    · rw [decide_eq_true t1] at dS
      generalize lim6 (rtE (v64 a * v64 a % pN)) = oS at *
      generalize lim6 (subM pN 0 (v64 a)) = oN at *
      generalize lim6 (v64 a % pN) = oR at *
      refine Lwp.seq (Lwp.regD hT hM ?_)
      simp only [L13r9, go_sem, List.isEmpty_nil, isC, eq_self, reduceIte, Nat.reduceAdd, Nat.reduceMul, Nat.reduceSub, Nat.reduceLT, Nat.reduceLeDiff, Nat.reduceEqDiff, Nat.reduceDiv, Nat.reduceMod, Nat.reducePow, Nat.reduceBEq, Nat.reduceBNe, Int.reduceLT, Int.reduceLE, Int.reduceGT, Int.reduceGE, Int.reduceBEq, Int.reduceBNe, Int.reduceToNat, Int.reduceAdd, Int.reduceSub, Int.reduceMul, Int.reduceEq, Int.reduceNeg, reduceCtorEq, decide_true, decide_false, Bool.false_eq_true, ty3, ty4, ty5, ty9, ty22, ty23, ty24, ty38, ty40, ty43, ty27, ty28, ty74, ty75, ty52, ty59, eq24, pG, nG, fld0, fld2, f0, hl, r1, r2, lS, lR, lN, dS]
      refine Lwp.ret (post_val (v := .bool true) ?_ ?_)
      · simp only [go_sem, List.isEmpty_nil, isC, eq_self, reduceIte, Nat.reduceAdd, Nat.reduceMul, Nat.reduceSub, Nat.reduceLT, Nat.reduceLeDiff, Nat.reduceEqDiff, Nat.reduceDiv, Nat.reduceMod, Nat.reducePow, Nat.reduceBEq, Nat.reduceBNe, Int.reduceLT, Int.reduceLE, Int.reduceGT, Int.reduceGE, Int.reduceBEq, Int.reduceBNe, Int.reduceToNat, Int.reduceAdd, Int.reduceSub, Int.reduceMul, Int.reduceEq, Int.reduceNeg, reduceCtorEq, decide_true, decide_false, Bool.false_eq_true]
      · simp only [go_sem, List.isEmpty_nil, isC, eq_self, reduceIte, Nat.reduceAdd, Nat.reduceMul, Nat.reduceSub, Nat.reduceLT, Nat.reduceLeDiff, Nat.reduceEqDiff, Nat.reduceDiv, Nat.reduceMod, Nat.reducePow, Nat.reduceBEq, Nat.reduceBNe, Int.reduceLT, Int.reduceLE, Int.reduceGT, Int.reduceGE, Int.reduceBEq, Int.reduceBNe, Int.reduceToNat, Int.reduceAdd, Int.reduceSub, Int.reduceMul, Int.reduceEq, Int.reduceNeg, reduceCtorEq, decide_true, decide_false, Bool.false_eq_true]
    · rw [decide_eq_false t1] at dS
      rw [tw.resolve_left t1] at dS lS ⊢
      generalize lim6 (subM pN 0 (v64 a)) = oN at *
      generalize lim6 (v64 a % pN) = oR at *
      refine Lwp.seq (Lwp.regD hT hM ?_)
      simp only [L13r9, go_sem, List.isEmpty_nil, isC, eq_self, reduceIte, Nat.reduceAdd, Nat.reduceMul, Nat.reduceSub, Nat.reduceLT, Nat.reduceLeDiff, Nat.reduceEqDiff, Nat.reduceDiv, Nat.reduceMod, Nat.reducePow, Nat.reduceBEq, Nat.reduceBNe, Int.reduceLT, Int.reduceLE, Int.reduceGT, Int.reduceGE, Int.reduceBEq, Int.reduceBNe, Int.reduceToNat, Int.reduceAdd, Int.reduceSub, Int.reduceMul, Int.reduceEq, Int.reduceNeg, reduceCtorEq, decide_true, decide_false, Bool.false_eq_true, ty3, ty4, ty5, ty9, ty22, ty23, ty24, ty38, ty40, ty43, ty27, ty28, ty74, ty75, ty52, ty59, eq24, pG, nG, fld0, fld2, f0, hl, r1, r2, lS, lR, lN, dS]
      refine Lwp.ret (post_val (v := .bool true) ?_ ?_)
      · simp only [go_sem, List.isEmpty_nil, isC, eq_self, reduceIte, Nat.reduceAdd, Nat.reduceMul, Nat.reduceSub, Nat.reduceLT, Nat.reduceLeDiff, Nat.reduceEqDiff, Nat.reduceDiv, Nat.reduceMod, Nat.reducePow, Nat.reduceBEq, Nat.reduceBNe, Int.reduceLT, Int.reduceLE, Int.reduceGT, Int.reduceGE, Int.reduceBEq, Int.reduceBNe, Int.reduceToNat, Int.reduceAdd, Int.reduceSub, Int.reduceMul, Int.reduceEq, Int.reduceNeg, reduceCtorEq, decide_true, decide_false, Bool.false_eq_true]
      · simp only [go_sem, List.isEmpty_nil, isC, eq_self, reduceIte, Nat.reduceAdd, Nat.reduceMul, Nat.reduceSub, Nat.reduceLT, Nat.reduceLeDiff, Nat.reduceEqDiff, Nat.reduceDiv, Nat.reduceMod, Nat.reducePow, Nat.reduceBEq, Nat.reduceBNe, Int.reduceLT, Int.reduceLE, Int.reduceGT, Int.reduceGE, Int.reduceBEq, Int.reduceBNe, Int.reduceToNat, Int.reduceAdd, Int.reduceSub, Int.reduceMul, Int.reduceEq, Int.reduceNeg, reduceCtorEq, decide_true, decide_false, Bool.false_eq_true]
  · have e3 : rootL (v64 a) = List.replicate 6 0 := by unfold rootL; rw [if_neg ok]
    have e4 : rootE (v64 a) = .iface 43 (.int .i64 17) := by unfold rootE; rw [if_neg ok]
    rw [e3, e4] at f1
    rw [decide_eq_false (fun h => ok ((rtOk_iff _).2 h))] at f3
    generalize dig (v64 a) = da at *
    generalize lim6 (v64 a * v64 a % pN) = oA at *
    refine Lwp.seq (Lwp.regI hT ?_)
    simp only [L13r0, go_sem, List.isEmpty_nil, isC, eq_self, reduceIte, Nat.reduceAdd, Nat.reduceMul, Nat.reduceSub, Nat.reduceLT, Nat.reduceLeDiff, Nat.reduceEqDiff, Nat.reduceDiv, Nat.reduceMod, Nat.reducePow, Nat.reduceBEq, Nat.reduceBNe, Int.reduceLT, Int.reduceLE, Int.reduceGT, Int.reduceGE, Int.reduceBEq, Int.reduceBNe, Int.reduceToNat, Int.reduceAdd, Int.reduceSub, Int.reduceMul, Int.reduceEq, Int.reduceNeg, reduceCtorEq, decide_true, decide_false, Bool.false_eq_true, ty3, ty4, ty5, ty9, ty22, ty23, ty24, ty38, ty40, ty43, ty27, ty28, ty74, ty75, ty52, ty59, eq24, pG, nG, fld0, fld2, hl]
    refine Lwp.seq (Lwp.regI hT ?_)
    simp only [L13r1, go_sem, List.isEmpty_nil, isC, eq_self, reduceIte, Nat.reduceAdd, Nat.reduceMul, Nat.reduceSub, Nat.reduceLT, Nat.reduceLeDiff, Nat.reduceEqDiff, Nat.reduceDiv, Nat.reduceMod, Nat.reducePow, Nat.reduceBEq, Nat.reduceBNe, Int.reduceLT, Int.reduceLE, Int.reduceGT, Int.reduceGE, Int.reduceBEq, Int.reduceBNe, Int.reduceToNat, Int.reduceAdd, Int.reduceSub, Int.reduceMul, Int.reduceEq, Int.reduceNeg, reduceCtorEq, decide_true, decide_false, Bool.false_eq_true, ty3, ty4, ty5, ty9, ty22, ty23, ty24, ty38, ty40, ty43, ty27, ty28, ty74, ty75, ty52, ty59, eq24, pG, nG, fld0, fld2, hl, f1, rl]
    refine Lwp.seq (Lwp.regI hT ?_)
    simp only [L13r2, go_sem, List.isEmpty_nil, isC, eq_self, reduceIte, Nat.reduceAdd, Nat.reduceMul, Nat.reduceSub, Nat.reduceLT, Nat.reduceLeDiff, Nat.reduceEqDiff, Nat.reduceDiv, Nat.reduceMod, Nat.reducePow, Nat.reduceBEq, Nat.reduceBNe, Int.reduceLT, Int.reduceLE, Int.reduceGT, Int.reduceGE, Int.reduceBEq, Int.reduceBNe, Int.reduceToNat, Int.reduceAdd, Int.reduceSub, Int.reduceMul, Int.reduceEq, Int.reduceNeg, reduceCtorEq, decide_true, decide_false, Bool.false_eq_true, ty3, ty4, ty5, ty9, ty22, ty23, ty24, ty38, ty40, ty43, ty27, ty28, ty74, ty75, ty52, ty59, eq24, pG, nG, fld0, fld2, hl, f2, f3]
    refine Lwp.seq ?_
    refine Lwp.seq (Lwp.regI hT ?_)
    simp only [L13r3, go_sem, List.isEmpty_nil, isC, eq_self, reduceIte, Nat.reduceAdd, Nat.reduceMul, Nat.reduceSub, Nat.reduceLT, Nat.reduceLeDiff, Nat.reduceEqDiff, Nat.reduceDiv, Nat.reduceMod, Nat.reducePow, Nat.reduceBEq, Nat.reduceBNe, Int.reduceLT, Int.reduceLE, Int.reduceGT, Int.reduceGE, Int.reduceBEq, Int.reduceBNe, Int.reduceToNat, Int.reduceAdd, Int.reduceSub, Int.reduceMul, Int.reduceEq, Int.reduceNeg, reduceCtorEq, decide_true, decide_false, Bool.false_eq_true, ty3, ty4, ty5, ty9, ty22, ty23, ty24, ty38, ty40, ty43, ty27, ty28, ty74, ty75, ty52, ty59, eq24, pG, nG, fld0, fld2]
    refine Lwp.cond rfl (fun _ => ?_) (fun h => by cases h)
    refine Lwp.seq (Lwp.regI hT ?_)
    simp only [L13r4, go_sem, List.isEmpty_nil, isC, eq_self, reduceIte, Nat.reduceAdd, Nat.reduceMul, Nat.reduceSub, Nat.reduceLT, Nat.reduceLeDiff, Nat.reduceEqDiff, Nat.reduceDiv, Nat.reduceMod, Nat.reducePow, Nat.reduceBEq, Nat.reduceBNe, Int.reduceLT, Int.reduceLE, Int.reduceGT, Int.reduceGE, Int.reduceBEq, Int.reduceBNe, Int.reduceToNat, Int.reduceAdd, Int.reduceSub, Int.reduceMul, Int.reduceEq, Int.reduceNeg, reduceCtorEq, decide_true, decide_false, Bool.false_eq_true, ty3, ty4, ty5, ty9, ty22, ty23, ty24, ty38, ty40, ty43, ty27, ty28, ty74, ty75, ty52, ty59, eq24, pG, nG, fld0, fld2, rl]
    refine Lwp.cond rfl (fun h => by cases h) (fun _ => Lwp.skip ?_)
    simp only [go_sem, List.isEmpty_nil, isC, eq_self, reduceIte, Nat.reduceAdd, Nat.reduceMul, Nat.reduceSub, Nat.reduceLT, Nat.reduceLeDiff, Nat.reduceEqDiff, Nat.reduceDiv, Nat.reduceMod, Nat.reducePow, Nat.reduceBEq, Nat.reduceBNe, Int.reduceLT, Int.reduceLE, Int.reduceGT, Int.reduceGE, Int.reduceBEq, Int.reduceBNe, Int.reduceToNat, Int.reduceAdd, Int.reduceSub, Int.reduceMul, Int.reduceEq, Int.reduceNeg, reduceCtorEq, decide_true, decide_false, Bool.false_eq_true]
    refine Lwp.seq (Lwp.regI hT ?_)
    simp only [L13r8, go_sem, List.isEmpty_nil, isC, eq_self, reduceIte, Nat.reduceAdd, Nat.reduceMul, Nat.reduceSub, Nat.reduceLT, Nat.reduceLeDiff, Nat.reduceEqDiff, Nat.reduceDiv, Nat.reduceMod, Nat.reducePow, Nat.reduceBEq, Nat.reduceBNe, Int.reduceLT, Int.reduceLE, Int.reduceGT, Int.reduceGE, Int.reduceBEq, Int.reduceBNe, Int.reduceToNat, Int.reduceAdd, Int.reduceSub, Int.reduceMul, Int.reduceEq, Int.reduceNeg, reduceCtorEq, decide_true, decide_false, Bool.false_eq_true, ty3, ty4, ty5, ty9, ty22, ty23, ty24, ty38, ty40, ty43, ty27, ty28, ty74, ty75, ty52, ty59, eq24, pG, nG, fld0, fld2, hl, m1, m2, lA, lS]
    by_cases t1 : rtE (v64 a * v64 a % pN) = v64 a % pN
    · rw [decide_eq_true t1] at dS
      generalize lim6 (rtE (v64 a * v64 a % pN)) = oS at *
      generalize lim6 (subM pN 0 (v64 a)) = oN at *
      generalize lim6 (v64 a % pN) = oR at *
      refine Lwp.seq (Lwp.regD hT hM ?_)
      simp only [L13r9, go_sem, List.isEmpty_nil, isC, eq_self, reduceIte, Nat.reduceAdd, Nat.reduceMul, Nat.reduceSub, Nat.reduceLT, Nat.reduceLeDiff, Nat.reduceEqDiff, Nat.reduceDiv, Nat.reduceMod, Nat.reducePow, Nat.reduceBEq, Nat.reduceBNe, Int.reduceLT, Int.reduceLE, Int.reduceGT, Int.reduceGE, Int.reduceBEq, Int.reduceBNe, Int.reduceToNat, Int.reduceAdd, Int.reduceSub, Int.reduceMul, Int.reduceEq, Int.reduceNeg, reduceCtorEq, decide_true, decide_false, Bool.false_eq_true, ty3, ty4, ty5, ty9, ty22, ty23, ty24, ty38, ty40, ty43, ty27, ty28, ty74, ty75, ty52, ty59, eq24, pG, nG, fld0, fld2, f0, hl, r1, r2, lS, lR, lN, dS]
      refine Lwp.ret (post_val (v := .bool true) ?_ ?_)
      · simp only [go_sem, List.isEmpty_nil, isC, eq_self, reduceIte, Nat.reduceAdd, Nat.reduceMul, Nat.reduceSub, Nat.reduceLT, Nat.reduceLeDiff, Nat.reduceEqDiff, Nat.reduceDiv, Nat.reduceMod, Nat.reducePow, Nat.reduceBEq, Nat.reduceBNe, Int.reduceLT, Int.reduceLE, Int.reduceGT, Int.reduceGE, Int.reduceBEq, Int.reduceBNe, Int.reduceToNat, Int.reduceAdd, Int.reduceSub, Int.reduceMul, Int.reduceEq, Int.reduceNeg, reduceCtorEq, decide_true, decide_false, Bool.false_eq_true]
      · simp only [go_sem, List.isEmpty_nil, isC, eq_self, reduceIte, Nat.reduceAdd, Nat.reduceMul, Nat.reduceSub, Nat.reduceLT, Nat.reduceLeDiff, Nat.reduceEqDiff, Nat.reduceDiv, Nat.reduceMod, Nat.reducePow, Nat.reduceBEq, Nat.reduceBNe, Int.reduceLT, Int.reduceLE, Int.reduceGT, Int.reduceGE, Int.reduceBEq, Int.reduceBNe, Int.reduceToNat, Int.reduceAdd, Int.reduceSub, Int.reduceMul, Int.reduceEq, Int.reduceNeg, reduceCtorEq, decide_true, decide_false, Bool.false_eq_true]
    · rw [decide_eq_false t1] at dS
      rw [tw.resolve_left t1] at dS lS ⊢
      generalize lim6 (subM pN 0 (v64 a)) = oN at *
      generalize lim6 (v64 a % pN) = oR at *
      refine Lwp.seq (Lwp.regD hT hM ?_)
      simp only [L13r9, go_sem, List.isEmpty_nil, isC, eq_self, reduceIte, Nat.reduceAdd, Nat.reduceMul, Nat.reduceSub, Nat.reduceLT, Nat.reduceLeDiff, Nat.reduceEqDiff, Nat.reduceDiv, Nat.reduceMod, Nat.reducePow, Nat.reduceBEq, Nat.reduceBNe, Int.reduceLT, Int.reduceLE, Int.reduceGT, Int.reduceGE, Int.reduceBEq, Int.reduceBNe, Int.reduceToNat, Int.reduceAdd, Int.reduceSub, Int.reduceMul, Int.reduceEq, Int.reduceNeg, reduceCtorEq, decide_true, decide_false, Bool.false_eq_true, ty3, ty4, ty5, ty9, ty22, ty23, ty24, ty38, ty40, ty43, ty27, ty28, ty74, ty75, ty52, ty59, eq24, pG, nG, fld0, fld2, f0, hl, r1, r2, lS, lR, lN, dS]
      refine Lwp.ret (post_val (v := .bool true) ?_ ?_)
      · simp only [go_sem, List.isEmpty_nil, isC, eq_self, reduceIte, Nat.reduceAdd, Nat.reduceMul, Nat.reduceSub, Nat.reduceLT, Nat.reduceLeDiff, Nat.reduceEqDiff, Nat.reduceDiv, Nat.reduceMod, Nat.reducePow, Nat.reduceBEq, Nat.reduceBNe, Int.reduceLT, Int.reduceLE, Int.reduceGT, Int.reduceGE, Int.reduceBEq, Int.reduceBNe, Int.reduceToNat, Int.reduceAdd, Int.reduceSub, Int.reduceMul, Int.reduceEq, Int.reduceNeg, reduceCtorEq, decide_true, decide_false, Bool.false_eq_true]
      · simp only [go_sem, List.isEmpty_nil, isC, eq_self, reduceIte, Nat.reduceAdd, Nat.reduceMul, Nat.reduceSub, Nat.reduceLT, Nat.reduceLeDiff, Nat.reduceEqDiff, Nat.reduceDiv, Nat.reduceMod, Nat.reducePow, Nat.reduceBEq, Nat.reduceBNe, Int.reduceLT, Int.reduceLE, Int.reduceGT, Int.reduceGE, Int.reduceBEq, Int.reduceBNe, Int.reduceToNat, Int.reduceAdd, Int.reduceSub, Int.reduceMul, Int.reduceEq, Int.reduceNeg, reduceCtorEq, decide_true, decide_false, Bool.false_eq_true]
end Eng


namespace Eng
open Go Go.Proofs
/- The words of the start, sign by sign. -/
def ioL : List Char := [104, 97, 114, 110, 101, 115, 115, 32, 49, 50, 49, 56, 97, 102, 98, 97, 49, 99, 55, 97, 52, 57, 101, 100, 97, 54, 52, 54, 49, 55, 48, 49, 56, 98, 97, 55, 99, 56, 48, 101, 53, 51, 52, 57, 99, 99, 49, 56, 101, 57, 98, 51, 53, 51, 48, 100, 56, 54, 53, 99, 56, 53, 98, 54, 101, 102, 99, 48, 101, 100, 98, 53, 32, 99, 117, 116, 32, 97, 116, 32, 101, 115, 99, 117, 116, 99, 104, 101, 111, 110, 47, 101, 115, 99, 117, 116, 99, 104, 101, 111, 110, 108, 97, 119, 48, 51, 46, 70, 105, 101, 108, 100, 80, 114, 105, 109, 101, 32, 101, 115, 99, 117, 116, 99, 104, 101, 111, 110, 47, 101, 115, 99, 117, 116, 99, 104, 101, 111, 110, 108, 97, 119, 48, 52, 46, 79, 114, 100, 101, 114, 83, 117, 109, 115, 32, 101, 115, 99, 117, 116, 99, 104, 101, 111, 110, 47, 101, 115, 99, 117, 116, 99, 104, 101, 111, 110, 108, 97, 119, 48, 51, 46, 70, 105, 101, 108, 100, 83, 117, 109, 115, 32, 101, 115, 99, 117, 116, 99, 104, 101, 111, 110, 47, 101, 115, 99, 117, 116, 99, 104, 101, 111, 110, 108, 97, 119, 48, 51, 46, 70, 105, 101, 108, 100, 68, 101, 99, 111, 100, 101, 115, 32, 101, 115, 99, 117, 116, 99, 104, 101, 111, 110, 47, 101, 115, 99, 117, 116, 99, 104, 101, 111, 110, 108, 97, 119, 48, 52, 46, 79, 114, 100, 101, 114, 68, 101, 99, 111, 100, 101, 115, 32, 101, 115, 99, 117, 116, 99, 104, 101, 111, 110, 47, 101, 115, 99, 117, 116, 99, 104, 101, 111, 110, 108, 97, 119, 48, 51, 46, 70, 105, 101, 108, 100, 77, 117, 108, 115, 32, 101, 115, 99, 117, 116, 99, 104, 101, 111, 110, 47, 101, 115, 99, 117, 116, 99, 104, 101, 111, 110, 108, 97, 119, 48, 52, 46, 79, 114, 100, 101, 114, 77, 117, 108, 115, 32, 101, 115, 99, 117, 116, 99, 104, 101, 111, 110, 47, 101, 115, 99, 117, 116, 99, 104, 101, 111, 110, 108, 97, 119, 48, 51, 46, 70, 105, 101, 108, 100, 76, 97, 119, 115, 32, 101, 115, 99, 117, 116, 99, 104, 101, 111, 110, 47, 101, 115, 99, 117, 116, 99, 104, 101, 111, 110, 108, 97, 119, 48, 51, 46, 70, 105, 101, 108, 100, 73, 110, 118, 115, 32, 101, 115, 99, 117, 116, 99, 104, 101, 111, 110, 47, 101, 115, 99, 117, 116, 99, 104, 101, 111, 110, 108, 97, 119, 48, 52, 46, 79, 114, 100, 101, 114, 73, 110, 118, 115, 32, 101, 115, 99, 117, 116, 99, 104, 101, 111, 110, 47, 101, 115, 99, 117, 116, 99, 104, 101, 111, 110, 108, 97, 119, 48, 51, 46, 70, 105, 101, 108, 100, 82, 111, 111, 116, 115].map Char.ofNat
theorem ioS : Tryd.prog.initOrder = String.ofList ioL := by kernel_rfl
theorem ioT : Tryd.prog.initOrder.toList = ioL := by rw [ioS, String.toList_ofList]
def ioW : List (List Char) := [[97, 116].map Char.ofNat, [101, 115, 99, 117, 116, 99, 104, 101, 111, 110, 47, 101, 115, 99, 117, 116, 99, 104, 101, 111, 110, 108, 97, 119, 48, 51, 46, 70, 105, 101, 108, 100, 80, 114, 105, 109, 101].map Char.ofNat, [101, 115, 99, 117, 116, 99, 104, 101, 111, 110, 47, 101, 115, 99, 117, 116, 99, 104, 101, 111, 110, 108, 97, 119, 48, 52, 46, 79, 114, 100, 101, 114, 83, 117, 109, 115].map Char.ofNat, [101, 115, 99, 117, 116, 99, 104, 101, 111, 110, 47, 101, 115, 99, 117, 116, 99, 104, 101, 111, 110, 108, 97, 119, 48, 51, 46, 70, 105, 101, 108, 100, 83, 117, 109, 115].map Char.ofNat, [101, 115, 99, 117, 116, 99, 104, 101, 111, 110, 47, 101, 115, 99, 117, 116, 99, 104, 101, 111, 110, 108, 97, 119, 48, 51, 46, 70, 105, 101, 108, 100, 68, 101, 99, 111, 100, 101, 115].map Char.ofNat, [101, 115, 99, 117, 116, 99, 104, 101, 111, 110, 47, 101, 115, 99, 117, 116, 99, 104, 101, 111, 110, 108, 97, 119, 48, 52, 46, 79, 114, 100, 101, 114, 68, 101, 99, 111, 100, 101, 115].map Char.ofNat, [101, 115, 99, 117, 116, 99, 104, 101, 111, 110, 47, 101, 115, 99, 117, 116, 99, 104, 101, 111, 110, 108, 97, 119, 48, 51, 46, 70, 105, 101, 108, 100, 77, 117, 108, 115].map Char.ofNat, [101, 115, 99, 117, 116, 99, 104, 101, 111, 110, 47, 101, 115, 99, 117, 116, 99, 104, 101, 111, 110, 108, 97, 119, 48, 52, 46, 79, 114, 100, 101, 114, 77, 117, 108, 115].map Char.ofNat, [101, 115, 99, 117, 116, 99, 104, 101, 111, 110, 47, 101, 115, 99, 117, 116, 99, 104, 101, 111, 110, 108, 97, 119, 48, 51, 46, 70, 105, 101, 108, 100, 76, 97, 119, 115].map Char.ofNat, [101, 115, 99, 117, 116, 99, 104, 101, 111, 110, 47, 101, 115, 99, 117, 116, 99, 104, 101, 111, 110, 108, 97, 119, 48, 51, 46, 70, 105, 101, 108, 100, 73, 110, 118, 115].map Char.ofNat, [101, 115, 99, 117, 116, 99, 104, 101, 111, 110, 47, 101, 115, 99, 117, 116, 99, 104, 101, 111, 110, 108, 97, 119, 48, 52, 46, 79, 114, 100, 101, 114, 73, 110, 118, 115].map Char.ofNat, [101, 115, 99, 117, 116, 99, 104, 101, 111, 110, 47, 101, 115, 99, 117, 116, 99, 104, 101, 111, 110, 108, 97, 119, 48, 51, 46, 70, 105, 101, 108, 100, 82, 111, 111, 116, 115].map Char.ofNat]
def ioC : List Char := [99, 117, 116].map Char.ofNat
theorem ioB : behindMainWord (wordsSigns ioL) = ioC :: ioW := by kernel_rfl
theorem ioB' : behindMainWord (wordsSigns Tryd.prog.initOrder.toList) = ioC :: ioW := (congrArg (fun l => behindMainWord (wordsSigns l)) ioT).trans ioB
theorem jGc : (ioC == "gc".toList) = false := by kernel_rfl
theorem jSpec : (ioC == "spec".toList) = false := by kernel_rfl
theorem jCar : (ioC == "carried".toList) = false := by kernel_rfl
theorem jCut : (ioC == "cut".toList) = true := by kernel_rfl
theorem jStrip : stripLifts liftWords (ioC :: ioW) = ([], ioC :: ioW) := by kernel_rfl
theorem jLater : Tryd.prog.laysLater = false := by kernel_rfl
theorem jRefl : Tryd.prog.bearsReflect = false := by kernel_rfl
theorem jDoor : Tryd.prog.doorFits [] = true := by kernel_rfl
theorem jLifts : Tryd.prog.headLifts = [] := lifts_of ioB' jStrip
theorem jMay : Tryd.prog.mayEnter = true := mayEnter_of ioB' jGc jSpec jStrip jCut jLater jRefl jDoor
theorem jFinal : Tryd.prog.liftsFinal = false := final_of ioB' jCar jLifts
theorem jMake : Tryd.prog.make = some .cut := make_of ioB' jGc jSpec jCut
end Eng


namespace Eng
open Go Go.Proofs Go.Proofs.YtmpebojnnlghiaaDoor Go.ChangeShapes Go.WideShapes Go.ChangeAt Go.RowKit

theorem own' : ownKnob Tryd.prog.godebug = none := by kernel_rfl
theorem gPrime : Tryd.prog.globalNamed "escutcheon/field.prime" = some 0 := by kernel_rfl
theorem tPrime : (Tryd.prog.globals[0]?).map (·.type) = some 52 := by kernel_rfl
theorem c52 : Tryd.prog.cellsOf 52 = 13 := by kernel_rfl
theorem c24 : Tryd.prog.cellsOf 24 = 6 := by kernel_rfl
theorem c22 : Tryd.prog.cellsOf 22 = 1 := by kernel_rfl

theorem prime_glob {W : World} (h : laidMetH Tryd.prog [("escutcheon/field.prime", Rows.laid_escutcheon_field_prime)] W) : GlobOk (fun g => find pG g) W := by
  rw [MakeChecks.laidMetH_plain _ _ _ (by kernel_rfl)] at h
  obtain ⟨ps, ⟨g0, t0, cs0, f0, p0, q0, hg0, ht0, hv0, hd0, _, _⟩, _, _⟩ := h
  obtain rfl := Option.some.inj (gPrime.symm.trans hg0)
  obtain rfl := Option.some.inj (tPrime.symm.trans ht0)
  have hc := mod_trod Tryd.underlying52 rfl rfl rfl rfl rfl rfl Tryd.underlying24 Tryd.underlying22 c24 c22 c52 (ds0 := _) (d1 := _) (ds2 := _) hd0
  have hc2 : cs0.toList = pD.map (Value.int .u64) := by rw [hc, pD_eq, pL_eq, p_mod]; rfl
  intro g c hgc
  unfold pG at hgc
  simp only [find] at hgc
  split at hgc
  · rename_i e; subst e; cases hgc
    exact glob_one gPrime hv0 hc2 (by rw [pD_len]; decide)
  · cases hgc
theorem prime_met (os : Os) (args : Array Value) : laidMetH Tryd.prog [("escutcheon/field.prime", Rows.laid_escutcheon_field_prime)] ((World.doorLaid Tryd.prog 23 os).forCall (fun _ _ => 0) ⟨#[], args, []⟩).memory :=
  laidMetH_of_parts3 (fuel := 8) (laidMet_of_run' 8 (by kernel_rfl) (by kernel_rfl)) (by kernel_rfl) (by kernel_rfl)
end Eng

