/- Contracts of the program's functions, and laws over them. There is no further condition. -/
import Derived.Test.YtmpebojnnlghiaaDoorfF1
set_option linter.unusedVariables false
set_option linter.unusedSimpArgs false
set_option exponentiation.threshold 2000
-- ALIAS: Tryd
namespace Eng
open Go Go.Proofs
set_option linter.unusedSimpArgs false
set_option linter.unusedVariables false
-- TY: ty3, ty4, ty5, ty9, ty22, ty23, ty24, ty38, ty40, ty43, ty27, ty28, ty74, ty75, ty52, eq24, pG, nG, fld0, fld2

theorem is_same {x : Nat} : decide (lim6 x = lim6 x) = true := decide_eq_true rfl

noncomputable def S3 : List AV → Option Ret := nz (sumOf (fun p : List Int => match p with | a => (U6 a)) (fun p : List Int => match p with | a => [AG a]) (fun p : List Int => match p with | a => ⟨.bool true, none⟩))
theorem S3_eq (a : List Int) (h0 : U6 a) : S3 [AG a] = some ⟨.bool true, none⟩ :=
  sumOf_eq (dom := (fun p : List Int => match p with | a => (U6 a))) (enc := (fun p : List Int => match p with | a => [AG a])) (out := (fun p : List Int => match p with | a => ⟨.bool true, none⟩)) a h0 (fun y _ e => by
    simp only [List.cons.injEq, AV.agg.injEq, AV.int.injEq, AV.slc.injEq, AV.iptr.injEq, AV.bool.injEq, AV.str.injEq, ints_injEq, dig_injEq,  Int.ofNat_inj, BitVec.toNat_inj, true_and, and_true] at e
    first | with_reducible rfl | simp only [e] | rfl)
theorem S3_inv {args : List AV} {r : Ret} (h : sumOf (fun p : List Int => match p with | a => (U6 a)) (fun p : List Int => match p with | a => [AG a]) (fun p : List Int => match p with | a => ⟨.bool true, none⟩) args = some r) : ∃ (a : List Int), ((U6 a)) ∧ args = [AG a] ∧ r = ⟨.bool true, none⟩ := by
  obtain ⟨x, h1, h2, h3⟩ := sumOf_inv h
  exact ⟨x, h1, h2.symm, h3⟩

set_option maxRecDepth 100000 in
theorem snd3 : SndG Tryd.prog pG 3 S3 := by
  refine snd_nz (sndG_by (gl := pG) [(14, S14), (15, S15), (16, S16), (17, S17), (18, S18), (19, S19)] [] Tryd.func3 (by kernel_rfl) lite3 nt3 rs3 ⟨(by first | exact snd14 | exact snd14.toG), (by first | exact snd15 | exact snd15.toG), (by first | exact snd16 | exact snd16.toG), (by first | exact snd17 | exact snd17.toG), (by first | exact snd18 | exact snd18.toG), (by first | exact snd19 | exact snd19.toG), trivial⟩ trivial (fun hT args r h => ?_))
  obtain ⟨a, hd0, rfl, rfl⟩ := S3_inv h
  clear h
  have hM := hM0
  refine ⟨Nat.le_of_ble_eq_true rfl, fun F => ?_⟩
  unfold L3
  have hl := hd0.1
  have f1 := S15_eq
  have f2 := S16_eq
  have f3 := S14_eq pL pN pL_good.1 (le6 (dlR pN_ltR))
  have f4 := S17_eq a hd0
  have f5 := S19_eq a hd0
  have f6 := S18_eq (v64 a) (dlR hd0.v64_lt)
  have f7 := S14_eq (lim6 (v64 a % pN)) (v64 a % pN) (U6_lim _) (le6 (dlR (pN_mod_lt _)))
  rw [pL_lim] at f3
  have hp := pL_good.1.1
  have lo := lim6_len (v64 a % pN)
  generalize lim6 (v64 a % pN) = out at *
  generalize dig (v64 a % pN) = dr at *
  generalize dig (v64 a) = da at *
  generalize dig pN = dp at *
  refine Lwp.seq (Lwp.regI hT ?_)
  simp only [L3r0, go_sem, List.isEmpty_nil, isC, eq_self, reduceIte, Nat.reduceAdd, Nat.reduceMul, Nat.reduceSub, Nat.reduceLT, Nat.reduceLeDiff, Nat.reduceEqDiff, Nat.reduceDiv, Nat.reduceMod, Nat.reducePow, Nat.reduceBEq, Nat.reduceBNe, Int.reduceLT, Int.reduceLE, Int.reduceGT, Int.reduceGE, Int.reduceBEq, Int.reduceBNe, Int.reduceToNat, Int.reduceAdd, Int.reduceSub, Int.reduceMul, Int.reduceEq, Int.reduceNeg, reduceCtorEq, decide_true, decide_false, Bool.false_eq_true, ty3, ty4, ty5, ty9, ty22, ty23, ty24, ty38, ty40, ty43, ty27, ty28, ty74, ty75, ty52, eq24, pG, nG, fld0, fld2, hl]
  refine Lwp.seq (Lwp.regI hT ?_)
  simp only [L3r1, go_sem, List.isEmpty_nil, isC, eq_self, reduceIte, Nat.reduceAdd, Nat.reduceMul, Nat.reduceSub, Nat.reduceLT, Nat.reduceLeDiff, Nat.reduceEqDiff, Nat.reduceDiv, Nat.reduceMod, Nat.reducePow, Nat.reduceBEq, Nat.reduceBNe, Int.reduceLT, Int.reduceLE, Int.reduceGT, Int.reduceGE, Int.reduceBEq, Int.reduceBNe, Int.reduceToNat, Int.reduceAdd, Int.reduceSub, Int.reduceMul, Int.reduceEq, Int.reduceNeg, reduceCtorEq, decide_true, decide_false, Bool.false_eq_true, ty3, ty4, ty5, ty9, ty22, ty23, ty24, ty38, ty40, ty43, ty27, ty28, ty74, ty75, ty52, eq24, pG, nG, fld0, fld2, f1, f2, f3, hp]
  refine Lwp.seq (Lwp.regD hT hM ?_)
  simp only [L3r2, go_sem, List.isEmpty_nil, isC, eq_self, reduceIte, Nat.reduceAdd, Nat.reduceMul, Nat.reduceSub, Nat.reduceLT, Nat.reduceLeDiff, Nat.reduceEqDiff, Nat.reduceDiv, Nat.reduceMod, Nat.reducePow, Nat.reduceBEq, Nat.reduceBNe, Int.reduceLT, Int.reduceLE, Int.reduceGT, Int.reduceGE, Int.reduceBEq, Int.reduceBNe, Int.reduceToNat, Int.reduceAdd, Int.reduceSub, Int.reduceMul, Int.reduceEq, Int.reduceNeg, reduceCtorEq, decide_true, decide_false, Bool.false_eq_true, ty3, ty4, ty5, ty9, ty22, ty23, ty24, ty38, ty40, ty43, ty27, ty28, ty74, ty75, ty52, eq24, pG, nG, fld0, fld2, hl, f4, f5, f6, f7, lo]
  refine Lwp.ret (post_val (v := .bool true) ?_ ?_)
  · simp only [go_sem, List.isEmpty_nil, isC, eq_self, reduceIte, Nat.reduceAdd, Nat.reduceMul, Nat.reduceSub, Nat.reduceLT, Nat.reduceLeDiff, Nat.reduceEqDiff, Nat.reduceDiv, Nat.reduceMod, Nat.reducePow, Nat.reduceBEq, Nat.reduceBNe, Int.reduceLT, Int.reduceLE, Int.reduceGT, Int.reduceGE, Int.reduceBEq, Int.reduceBNe, Int.reduceToNat, Int.reduceAdd, Int.reduceSub, Int.reduceMul, Int.reduceEq, Int.reduceNeg, reduceCtorEq, decide_true, decide_false, Bool.false_eq_true]
  · simp only [go_sem, List.isEmpty_nil, isC, eq_self, reduceIte, Nat.reduceAdd, Nat.reduceMul, Nat.reduceSub, Nat.reduceLT, Nat.reduceLeDiff, Nat.reduceEqDiff, Nat.reduceDiv, Nat.reduceMod, Nat.reducePow, Nat.reduceBEq, Nat.reduceBNe, Int.reduceLT, Int.reduceLE, Int.reduceGT, Int.reduceGE, Int.reduceBEq, Int.reduceBNe, Int.reduceToNat, Int.reduceAdd, Int.reduceSub, Int.reduceMul, Int.reduceEq, Int.reduceNeg, reduceCtorEq, decide_true, decide_false, Bool.false_eq_true]

noncomputable def S8 : List AV → Option Ret := nz (sumOf (fun p : List Int × List Int => match p with | (a, b) => (U6 a) ∧ (U6 b)) (fun p : List Int × List Int => match p with | (a, b) => [AG a, AG b]) (fun p : List Int × List Int => match p with | (a, b) => ⟨.bool true, none⟩))
theorem S8_eq (a : List Int) (b : List Int) (h0 : U6 a) (h1 : U6 b) : S8 [AG a, AG b] = some ⟨.bool true, none⟩ :=
  sumOf_eq (dom := (fun p : List Int × List Int => match p with | (a, b) => (U6 a) ∧ (U6 b))) (enc := (fun p : List Int × List Int => match p with | (a, b) => [AG a, AG b])) (out := (fun p : List Int × List Int => match p with | (a, b) => ⟨.bool true, none⟩)) (a, b) ⟨h0, h1⟩ (fun y _ e => by
    obtain ⟨y0, y1⟩ := y
    simp only [List.cons.injEq, AV.agg.injEq, AV.int.injEq, AV.slc.injEq, AV.iptr.injEq, AV.bool.injEq, AV.str.injEq, ints_injEq, dig_injEq,  Int.ofNat_inj, BitVec.toNat_inj, true_and, and_true] at e
    first | with_reducible rfl | simp only [e] | rfl)
theorem S8_inv {args : List AV} {r : Ret} (h : sumOf (fun p : List Int × List Int => match p with | (a, b) => (U6 a) ∧ (U6 b)) (fun p : List Int × List Int => match p with | (a, b) => [AG a, AG b]) (fun p : List Int × List Int => match p with | (a, b) => ⟨.bool true, none⟩) args = some r) : ∃ (a : List Int) (b : List Int), ((U6 a) ∧ (U6 b)) ∧ args = [AG a, AG b] ∧ r = ⟨.bool true, none⟩ := by
  obtain ⟨x, h1, h2, h3⟩ := sumOf_inv h
  obtain ⟨a, b⟩ := x
  exact ⟨a, b, h1, h2.symm, h3⟩

set_option maxRecDepth 100000 in
theorem snd8 : SndG Tryd.prog pG 8 S8 := by
  refine snd_nz (sndG_by (gl := pG) [(34, S34), (40, S40), (19, S19), (41, S41), (14, S14)] [] Tryd.func8 (by kernel_rfl) lite8 nt8 rs8 ⟨(by first | exact snd34 | exact snd34.toG), (by first | exact snd40 | exact snd40.toG), (by first | exact snd19 | exact snd19.toG), (by first | exact snd41 | exact snd41.toG), (by first | exact snd14 | exact snd14.toG), trivial⟩ trivial (fun hT args r h => ?_))
  obtain ⟨a, b, ⟨hd0, hd1⟩, rfl, rfl⟩ := S8_inv h
  clear h
  have hM := hM0
  refine ⟨Nat.le_of_ble_eq_true rfl, fun F => ?_⟩
  unfold L8
  have hl := hd0.1
  have hl1 := hd1.1
  have f0 := S34_eq
  have f1 := S40_eq a b hd0 hd1
  have f2 := S19_eq a hd0
  have f3 := S19_eq b hd1
  have f4 := S41_eq (v64 a) (v64 b) (dig12 hd0.v64_lt) (dig12 hd1.v64_lt)
  have f5 := S14_eq (lim6 (v64 a * v64 b % pN)) (v64 a * v64 b % pN) (U6_lim _) (le6 (dlR (pN_mod_lt _)))
  have lo := lim6_len (v64 a * v64 b % pN)
  generalize lim6 (v64 a * v64 b % pN) = out at *
  generalize dig (v64 a * v64 b % pN) = dr at *
  generalize dig (v64 a) = da at *
  generalize dig (v64 b) = db at *
  refine Lwp.seq (Lwp.regI hT ?_)
  simp only [L8r0, go_sem, List.isEmpty_nil, isC, eq_self, reduceIte, Nat.reduceAdd, Nat.reduceMul, Nat.reduceSub, Nat.reduceLT, Nat.reduceLeDiff, Nat.reduceEqDiff, Nat.reduceDiv, Nat.reduceMod, Nat.reducePow, Nat.reduceBEq, Nat.reduceBNe, Int.reduceLT, Int.reduceLE, Int.reduceGT, Int.reduceGE, Int.reduceBEq, Int.reduceBNe, Int.reduceToNat, Int.reduceAdd, Int.reduceSub, Int.reduceMul, Int.reduceEq, Int.reduceNeg, reduceCtorEq, decide_true, decide_false, Bool.false_eq_true, ty3, ty4, ty5, ty9, ty22, ty23, ty24, ty38, ty40, ty43, ty27, ty28, ty74, ty75, ty52, eq24, pG, nG, fld0, fld2, hl, hl1]
  refine Lwp.seq (Lwp.regD hT hM ?_)
  simp only [L8r1, go_sem, List.isEmpty_nil, isC, eq_self, reduceIte, Nat.reduceAdd, Nat.reduceMul, Nat.reduceSub, Nat.reduceLT, Nat.reduceLeDiff, Nat.reduceEqDiff, Nat.reduceDiv, Nat.reduceMod, Nat.reducePow, Nat.reduceBEq, Nat.reduceBNe, Int.reduceLT, Int.reduceLE, Int.reduceGT, Int.reduceGE, Int.reduceBEq, Int.reduceBNe, Int.reduceToNat, Int.reduceAdd, Int.reduceSub, Int.reduceMul, Int.reduceEq, Int.reduceNeg, reduceCtorEq, decide_true, decide_false, Bool.false_eq_true, ty3, ty4, ty5, ty9, ty22, ty23, ty24, ty38, ty40, ty43, ty27, ty28, ty74, ty75, ty52, eq24, pG, nG, fld0, fld2, hl, hl1, f0, f1, f2, f3, f4, f5, lo]
  refine Lwp.ret (post_val (v := .bool true) ?_ ?_)
  · simp only [go_sem, List.isEmpty_nil, isC, eq_self, reduceIte, Nat.reduceAdd, Nat.reduceMul, Nat.reduceSub, Nat.reduceLT, Nat.reduceLeDiff, Nat.reduceEqDiff, Nat.reduceDiv, Nat.reduceMod, Nat.reducePow, Nat.reduceBEq, Nat.reduceBNe, Int.reduceLT, Int.reduceLE, Int.reduceGT, Int.reduceGE, Int.reduceBEq, Int.reduceBNe, Int.reduceToNat, Int.reduceAdd, Int.reduceSub, Int.reduceMul, Int.reduceEq, Int.reduceNeg, reduceCtorEq, decide_true, decide_false, Bool.false_eq_true]
  · simp only [go_sem, List.isEmpty_nil, isC, eq_self, reduceIte, Nat.reduceAdd, Nat.reduceMul, Nat.reduceSub, Nat.reduceLT, Nat.reduceLeDiff, Nat.reduceEqDiff, Nat.reduceDiv, Nat.reduceMod, Nat.reducePow, Nat.reduceBEq, Nat.reduceBNe, Int.reduceLT, Int.reduceLE, Int.reduceGT, Int.reduceGE, Int.reduceBEq, Int.reduceBNe, Int.reduceToNat, Int.reduceAdd, Int.reduceSub, Int.reduceMul, Int.reduceEq, Int.reduceNeg, reduceCtorEq, decide_true, decide_false, Bool.false_eq_true]

noncomputable def S9 : List AV → Option Ret := nz (sumOf (fun p : List Int × List Int => match p with | (a, b) => (U6 a) ∧ (U6 b)) (fun p : List Int × List Int => match p with | (a, b) => [AG a, AG b]) (fun p : List Int × List Int => match p with | (a, b) => ⟨.bool true, none⟩))
theorem S9_eq (a : List Int) (b : List Int) (h0 : U6 a) (h1 : U6 b) : S9 [AG a, AG b] = some ⟨.bool true, none⟩ :=
  sumOf_eq (dom := (fun p : List Int × List Int => match p with | (a, b) => (U6 a) ∧ (U6 b))) (enc := (fun p : List Int × List Int => match p with | (a, b) => [AG a, AG b])) (out := (fun p : List Int × List Int => match p with | (a, b) => ⟨.bool true, none⟩)) (a, b) ⟨h0, h1⟩ (fun y _ e => by
    obtain ⟨y0, y1⟩ := y
    simp only [List.cons.injEq, AV.agg.injEq, AV.int.injEq, AV.slc.injEq, AV.iptr.injEq, AV.bool.injEq, AV.str.injEq, ints_injEq, dig_injEq,  Int.ofNat_inj, BitVec.toNat_inj, true_and, and_true] at e
    first | with_reducible rfl | simp only [e] | rfl)
theorem S9_inv {args : List AV} {r : Ret} (h : sumOf (fun p : List Int × List Int => match p with | (a, b) => (U6 a) ∧ (U6 b)) (fun p : List Int × List Int => match p with | (a, b) => [AG a, AG b]) (fun p : List Int × List Int => match p with | (a, b) => ⟨.bool true, none⟩) args = some r) : ∃ (a : List Int) (b : List Int), ((U6 a) ∧ (U6 b)) ∧ args = [AG a, AG b] ∧ r = ⟨.bool true, none⟩ := by
  obtain ⟨x, h1, h2, h3⟩ := sumOf_inv h
  obtain ⟨a, b⟩ := x
  exact ⟨a, b, h1, h2.symm, h3⟩

set_option maxRecDepth 100000 in
theorem snd9 : SndG Tryd.prog nG 9 S9 := by
  refine snd_nz (sndG_by (gl := nG) [(28, S28), (42, S42), (25, S25), (43, S43), (20, S20)] [] Tryd.func9 (by kernel_rfl) lite9 nt9 rs9 ⟨(by first | exact snd28 | exact snd28.toG), (by first | exact snd42 | exact snd42.toG), (by first | exact snd25 | exact snd25.toG), (by first | exact snd43 | exact snd43.toG), (by first | exact snd20 | exact snd20.toG), trivial⟩ trivial (fun hT args r h => ?_))
  obtain ⟨a, b, ⟨hd0, hd1⟩, rfl, rfl⟩ := S9_inv h
  clear h
  have hM := hM0
  refine ⟨Nat.le_of_ble_eq_true rfl, fun F => ?_⟩
  unfold L9
  have hl := hd0.1
  have hl1 := hd1.1
  have f0 := S28_eq
  have f1 := S42_eq a b hd0 hd1
  have f2 := S25_eq a hd0
  have f3 := S25_eq b hd1
  have f4 := S43_eq (v64 a) (v64 b) (dig12 hd0.v64_lt) (dig12 hd1.v64_lt)
  have f5 := S20_eq (lim6 (v64 a * v64 b % nN)) (v64 a * v64 b % nN) (U6_lim _) (le6 (dlR (nN_mod_lt _)))
  have lo := lim6_len (v64 a * v64 b % nN)
  generalize lim6 (v64 a * v64 b % nN) = out at *
  generalize dig (v64 a * v64 b % nN) = dr at *
  generalize dig (v64 a) = da at *
  generalize dig (v64 b) = db at *
  refine Lwp.seq (Lwp.regI hT ?_)
  simp only [L9r0, go_sem, List.isEmpty_nil, isC, eq_self, reduceIte, Nat.reduceAdd, Nat.reduceMul, Nat.reduceSub, Nat.reduceLT, Nat.reduceLeDiff, Nat.reduceEqDiff, Nat.reduceDiv, Nat.reduceMod, Nat.reducePow, Nat.reduceBEq, Nat.reduceBNe, Int.reduceLT, Int.reduceLE, Int.reduceGT, Int.reduceGE, Int.reduceBEq, Int.reduceBNe, Int.reduceToNat, Int.reduceAdd, Int.reduceSub, Int.reduceMul, Int.reduceEq, Int.reduceNeg, reduceCtorEq, decide_true, decide_false, Bool.false_eq_true, ty3, ty4, ty5, ty9, ty22, ty23, ty24, ty38, ty40, ty43, ty27, ty28, ty74, ty75, ty52, eq24, pG, nG, fld0, fld2, hl, hl1]
  refine Lwp.seq (Lwp.regD hT hM ?_)
  simp only [L9r1, go_sem, List.isEmpty_nil, isC, eq_self, reduceIte, Nat.reduceAdd, Nat.reduceMul, Nat.reduceSub, Nat.reduceLT, Nat.reduceLeDiff, Nat.reduceEqDiff, Nat.reduceDiv, Nat.reduceMod, Nat.reducePow, Nat.reduceBEq, Nat.reduceBNe, Int.reduceLT, Int.reduceLE, Int.reduceGT, Int.reduceGE, Int.reduceBEq, Int.reduceBNe, Int.reduceToNat, Int.reduceAdd, Int.reduceSub, Int.reduceMul, Int.reduceEq, Int.reduceNeg, reduceCtorEq, decide_true, decide_false, Bool.false_eq_true, ty3, ty4, ty5, ty9, ty22, ty23, ty24, ty38, ty40, ty43, ty27, ty28, ty74, ty75, ty52, eq24, pG, nG, fld0, fld2, hl, hl1, f0, f1, f2, f3, f4, f5, lo]
  refine Lwp.ret (post_val (v := .bool true) ?_ ?_)
  · simp only [go_sem, List.isEmpty_nil, isC, eq_self, reduceIte, Nat.reduceAdd, Nat.reduceMul, Nat.reduceSub, Nat.reduceLT, Nat.reduceLeDiff, Nat.reduceEqDiff, Nat.reduceDiv, Nat.reduceMod, Nat.reducePow, Nat.reduceBEq, Nat.reduceBNe, Int.reduceLT, Int.reduceLE, Int.reduceGT, Int.reduceGE, Int.reduceBEq, Int.reduceBNe, Int.reduceToNat, Int.reduceAdd, Int.reduceSub, Int.reduceMul, Int.reduceEq, Int.reduceNeg, reduceCtorEq, decide_true, decide_false, Bool.false_eq_true]
  · simp only [go_sem, List.isEmpty_nil, isC, eq_self, reduceIte, Nat.reduceAdd, Nat.reduceMul, Nat.reduceSub, Nat.reduceLT, Nat.reduceLeDiff, Nat.reduceEqDiff, Nat.reduceDiv, Nat.reduceMod, Nat.reducePow, Nat.reduceBEq, Nat.reduceBNe, Int.reduceLT, Int.reduceLE, Int.reduceGT, Int.reduceGE, Int.reduceBEq, Int.reduceBNe, Int.reduceToNat, Int.reduceAdd, Int.reduceSub, Int.reduceMul, Int.reduceEq, Int.reduceNeg, reduceCtorEq, decide_true, decide_false, Bool.false_eq_true]


noncomputable def S4 : List AV → Option Ret := nz (sumOf (fun p : List Int × List Int => match p with | (a, b) => (U6 a) ∧ (U6 b)) (fun p : List Int × List Int => match p with | (a, b) => [AG a, AG b]) (fun p : List Int × List Int => match p with | (a, b) => ⟨.bool true, none⟩))
theorem S4_eq (a : List Int) (b : List Int) (h0 : U6 a) (h1 : U6 b) : S4 [AG a, AG b] = some ⟨.bool true, none⟩ :=
  sumOf_eq (dom := (fun p : List Int × List Int => match p with | (a, b) => (U6 a) ∧ (U6 b))) (enc := (fun p : List Int × List Int => match p with | (a, b) => [AG a, AG b])) (out := (fun p : List Int × List Int => match p with | (a, b) => ⟨.bool true, none⟩)) (a, b) ⟨h0, h1⟩ (fun y _ e => by
    obtain ⟨y0, y1⟩ := y
    simp only [List.cons.injEq, AV.agg.injEq, AV.int.injEq, AV.slc.injEq, AV.iptr.injEq, AV.bool.injEq, AV.str.injEq, ints_injEq, dig_injEq,  Int.ofNat_inj, BitVec.toNat_inj, true_and, and_true] at e
    first | with_reducible rfl | simp only [e] | rfl)
theorem S4_inv {args : List AV} {r : Ret} (h : sumOf (fun p : List Int × List Int => match p with | (a, b) => (U6 a) ∧ (U6 b)) (fun p : List Int × List Int => match p with | (a, b) => [AG a, AG b]) (fun p : List Int × List Int => match p with | (a, b) => ⟨.bool true, none⟩) args = some r) : ∃ (a : List Int) (b : List Int), ((U6 a) ∧ (U6 b)) ∧ args = [AG a, AG b] ∧ r = ⟨.bool true, none⟩ := by
  obtain ⟨x, h1, h2, h3⟩ := sumOf_inv h
  obtain ⟨a, b⟩ := x
  exact ⟨a, b, h1, h2.symm, h3⟩

set_option maxRecDepth 100000 in
theorem snd4 : SndG Tryd.prog nG 4 S4 := by
  refine snd_nz (sndG_by (gl := nG) [(20, S20), (21, S21), (22, S22), (23, S23), (24, S24), (25, S25), (26, S26), (27, S27), (28, S28)] [] Tryd.func4 (by kernel_rfl) lite4 nt4 rs4 ⟨(by first | exact snd20 | exact snd20.toG), (by first | exact snd21 | exact snd21.toG), (by first | exact snd22 | exact snd22.toG), (by first | exact snd23 | exact snd23.toG), (by first | exact snd24 | exact snd24.toG), (by first | exact snd25 | exact snd25.toG), (by first | exact snd26 | exact snd26.toG), (by first | exact snd27 | exact snd27.toG), (by first | exact snd28 | exact snd28.toG), trivial⟩ trivial (fun hT args r h => ?_))
  obtain ⟨a, b, ⟨hd0, hd1⟩, rfl, rfl⟩ := S4_inv h
  clear h
  have hM := hM0
  refine ⟨Nat.le_of_ble_eq_true rfl, fun F => ?_⟩
  unfold L4
  have hl := hd0.1
  have hl1 := hd1.1
  have f0 := S28_eq
  have f1 := S21_eq
  have f2 := S22_eq
  have f3 := S20_eq nL nN nL_good.1 (le6 (dlR nN_ltR))
  have f4 := S23_eq a hd0
  have f5 := S25_eq a hd0
  have f6 := S24_eq (v64 a) (dlR hd0.v64_lt)
  have f7 := S20_eq (lim6 (v64 a % nN)) (v64 a % nN) (U6_lim _) (le6 (dlR (nN_mod_lt _)))
  have f8 := S26_eq a b hd0 hd1
  have f9 := S25_eq b hd1
  have f10 := S27_eq (v64 a) (v64 b) (le6 (dlR hd0.v64_lt)) (le6 (dlR hd1.v64_lt))
  have f11 := S24_eq (v64 a + v64 b) (dlS hd0.v64_lt hd1.v64_lt)
  have f12 := S20_eq (lim6 ((v64 a + v64 b) % nN)) ((v64 a + v64 b) % nN) (U6_lim _) (le6 (dlR (nN_mod_lt _)))
  rw [nL_lim] at f3
  have hp := nL_good.1.1
  have lo := lim6_len (v64 a % nN)
  have lo2 := lim6_len ((v64 a + v64 b) % nN)
  generalize lim6 (v64 a % nN) = out at *
  generalize lim6 ((v64 a + v64 b) % nN) = out2 at *
  generalize dig (v64 a % nN) = dr at *
  generalize dig ((v64 a + v64 b) % nN) = dr2 at *
  generalize dig (v64 a + v64 b) = ds at *
  generalize dig (v64 a) = da at *
  generalize dig (v64 b) = db at *
  generalize dig nN = dp at *
  refine Lwp.seq (Lwp.regI hT ?_)
  simp only [L4r0, go_sem, List.isEmpty_nil, isC, eq_self, reduceIte, Nat.reduceAdd, Nat.reduceMul, Nat.reduceSub, Nat.reduceLT, Nat.reduceLeDiff, Nat.reduceEqDiff, Nat.reduceDiv, Nat.reduceMod, Nat.reducePow, Nat.reduceBEq, Nat.reduceBNe, Int.reduceLT, Int.reduceLE, Int.reduceGT, Int.reduceGE, Int.reduceBEq, Int.reduceBNe, Int.reduceToNat, Int.reduceAdd, Int.reduceSub, Int.reduceMul, Int.reduceEq, Int.reduceNeg, reduceCtorEq, decide_true, decide_false, Bool.false_eq_true, ty3, ty4, ty5, ty9, ty22, ty23, ty24, ty38, ty40, ty43, ty27, ty28, ty74, ty75, ty52, eq24, pG, nG, fld0, fld2, hl, hl1]
  refine Lwp.seq (Lwp.regI hT ?_)
  simp only [L4r1, go_sem, List.isEmpty_nil, isC, eq_self, reduceIte, Nat.reduceAdd, Nat.reduceMul, Nat.reduceSub, Nat.reduceLT, Nat.reduceLeDiff, Nat.reduceEqDiff, Nat.reduceDiv, Nat.reduceMod, Nat.reducePow, Nat.reduceBEq, Nat.reduceBNe, Int.reduceLT, Int.reduceLE, Int.reduceGT, Int.reduceGE, Int.reduceBEq, Int.reduceBNe, Int.reduceToNat, Int.reduceAdd, Int.reduceSub, Int.reduceMul, Int.reduceEq, Int.reduceNeg, reduceCtorEq, decide_true, decide_false, Bool.false_eq_true, ty3, ty4, ty5, ty9, ty22, ty23, ty24, ty38, ty40, ty43, ty27, ty28, ty74, ty75, ty52, eq24, pG, nG, fld0, fld2, f1, f2, f3, hp]
  refine Lwp.seq (Lwp.regD hT hM ?_)
  simp only [L4r2, go_sem, List.isEmpty_nil, isC, eq_self, reduceIte, Nat.reduceAdd, Nat.reduceMul, Nat.reduceSub, Nat.reduceLT, Nat.reduceLeDiff, Nat.reduceEqDiff, Nat.reduceDiv, Nat.reduceMod, Nat.reducePow, Nat.reduceBEq, Nat.reduceBNe, Int.reduceLT, Int.reduceLE, Int.reduceGT, Int.reduceGE, Int.reduceBEq, Int.reduceBNe, Int.reduceToNat, Int.reduceAdd, Int.reduceSub, Int.reduceMul, Int.reduceEq, Int.reduceNeg, reduceCtorEq, decide_true, decide_false, Bool.false_eq_true, ty3, ty4, ty5, ty9, ty22, ty23, ty24, ty38, ty40, ty43, ty27, ty28, ty74, ty75, ty52, eq24, pG, nG, fld0, fld2, hl, hl1, f4, f5, f6, f7, lo]
  refine Lwp.seq (Lwp.regD hT hM ?_)
  simp only [L4r3, go_sem, List.isEmpty_nil, isC, eq_self, reduceIte, Nat.reduceAdd, Nat.reduceMul, Nat.reduceSub, Nat.reduceLT, Nat.reduceLeDiff, Nat.reduceEqDiff, Nat.reduceDiv, Nat.reduceMod, Nat.reducePow, Nat.reduceBEq, Nat.reduceBNe, Int.reduceLT, Int.reduceLE, Int.reduceGT, Int.reduceGE, Int.reduceBEq, Int.reduceBNe, Int.reduceToNat, Int.reduceAdd, Int.reduceSub, Int.reduceMul, Int.reduceEq, Int.reduceNeg, reduceCtorEq, decide_true, decide_false, Bool.false_eq_true, ty3, ty4, ty5, ty9, ty22, ty23, ty24, ty38, ty40, ty43, ty27, ty28, ty74, ty75, ty52, eq24, pG, nG, fld0, fld2, hl, hl1, f8, f5, f9, f10, f11, f12, lo2]
  refine Lwp.seq (Lwp.regI hT ?_)
  simp only [L4r4, go_sem, List.isEmpty_nil, isC, eq_self, reduceIte, Nat.reduceAdd, Nat.reduceMul, Nat.reduceSub, Nat.reduceLT, Nat.reduceLeDiff, Nat.reduceEqDiff, Nat.reduceDiv, Nat.reduceMod, Nat.reducePow, Nat.reduceBEq, Nat.reduceBNe, Int.reduceLT, Int.reduceLE, Int.reduceGT, Int.reduceGE, Int.reduceBEq, Int.reduceBNe, Int.reduceToNat, Int.reduceAdd, Int.reduceSub, Int.reduceMul, Int.reduceEq, Int.reduceNeg, reduceCtorEq, decide_true, decide_false, Bool.false_eq_true, ty3, ty4, ty5, ty9, ty22, ty23, ty24, ty38, ty40, ty43, ty27, ty28, ty74, ty75, ty52, eq24, pG, nG, fld0, fld2, f0]
  refine Lwp.ret (post_val (v := .bool true) ?_ ?_)
  · simp only [go_sem, List.isEmpty_nil, isC, eq_self, reduceIte, Nat.reduceAdd, Nat.reduceMul, Nat.reduceSub, Nat.reduceLT, Nat.reduceLeDiff, Nat.reduceEqDiff, Nat.reduceDiv, Nat.reduceMod, Nat.reducePow, Nat.reduceBEq, Nat.reduceBNe, Int.reduceLT, Int.reduceLE, Int.reduceGT, Int.reduceGE, Int.reduceBEq, Int.reduceBNe, Int.reduceToNat, Int.reduceAdd, Int.reduceSub, Int.reduceMul, Int.reduceEq, Int.reduceNeg, reduceCtorEq, decide_true, decide_false, Bool.false_eq_true]
  · simp only [go_sem, List.isEmpty_nil, isC, eq_self, reduceIte, Nat.reduceAdd, Nat.reduceMul, Nat.reduceSub, Nat.reduceLT, Nat.reduceLeDiff, Nat.reduceEqDiff, Nat.reduceDiv, Nat.reduceMod, Nat.reducePow, Nat.reduceBEq, Nat.reduceBNe, Int.reduceLT, Int.reduceLE, Int.reduceGT, Int.reduceGE, Int.reduceBEq, Int.reduceBNe, Int.reduceToNat, Int.reduceAdd, Int.reduceSub, Int.reduceMul, Int.reduceEq, Int.reduceNeg, reduceCtorEq, decide_true, decide_false, Bool.false_eq_true]
end Eng
