/- Contracts of the program's functions, and laws over them. There is no further condition. -/
import Derived.Test.YtmpebojnnlghiaaDoorfF1
set_option linter.unusedVariables false
set_option linter.unusedSimpArgs false
set_option exponentiation.threshold 2000
-- ALIAS: Tryd
namespace Eng
open Go Go.Proofs
set_option linter.unusedSimpArgs false
set_option linter.unusedVariables false
-- TY: ty3, ty4, ty5, ty9, ty22, ty23, ty24, ty38, ty40, ty43, ty27, ty28, ty74, ty75, ty52, eq24, pG, nG, fld0, fld2

theorem dig_nil : dig 0 = [] := dig_zero
theorem lim6_nil : lim6 0 = List.replicate 6 0 := by decide

noncomputable def S30 : List AV → Option Ret := nz (sumOf (fun p : Nat × Nat => match p with | (x, y) => ((dig x).length ≤ 12) ∧ ((dig y).length ≤ 12)) (fun p : Nat × Nat => match p with | (x, y) => [DS (dig x), DS (dig y)]) (fun p : Nat × Nat => match p with | (x, y) => ⟨DS (dig ((x + y) % pN)), none⟩))
theorem S30_eq (x : Nat) (y : Nat) (h0 : (dig x).length ≤ 12) (h1 : (dig y).length ≤ 12) : S30 [DS (dig x), DS (dig y)] = some ⟨DS (dig ((x + y) % pN)), none⟩ :=
  sumOf_eq (dom := (fun p : Nat × Nat => match p with | (x, y) => ((dig x).length ≤ 12) ∧ ((dig y).length ≤ 12))) (enc := (fun p : Nat × Nat => match p with | (x, y) => [DS (dig x), DS (dig y)])) (out := (fun p : Nat × Nat => match p with | (x, y) => ⟨DS (dig ((x + y) % pN)), none⟩)) (x, y) ⟨h0, h1⟩ (fun y _ e => by
    obtain ⟨y0, y1⟩ := y
    simp only [List.cons.injEq, AV.agg.injEq, AV.int.injEq, AV.slc.injEq, AV.iptr.injEq, AV.bool.injEq, AV.str.injEq, ints_injEq, dig_injEq,  Int.ofNat_inj, BitVec.toNat_inj, true_and, and_true] at e
    first | with_reducible rfl | simp only [e] | rfl)
theorem S30_inv {args : List AV} {r : Ret} (h : sumOf (fun p : Nat × Nat => match p with | (x, y) => ((dig x).length ≤ 12) ∧ ((dig y).length ≤ 12)) (fun p : Nat × Nat => match p with | (x, y) => [DS (dig x), DS (dig y)]) (fun p : Nat × Nat => match p with | (x, y) => ⟨DS (dig ((x + y) % pN)), none⟩) args = some r) : ∃ (x : Nat) (y : Nat), (((dig x).length ≤ 12) ∧ ((dig y).length ≤ 12)) ∧ args = [DS (dig x), DS (dig y)] ∧ r = ⟨DS (dig ((x + y) % pN)), none⟩ := by
  obtain ⟨x, h1, h2, h3⟩ := sumOf_inv h
  obtain ⟨x, y⟩ := x
  exact ⟨x, y, h1, h2.symm, h3⟩

set_option maxRecDepth 100000 in
theorem snd30 : SndE Tryd.prog NoG 30 S30 := by
  refine snd_nz (snd_by [(27, S27), (18, S18)] [] Tryd.func30 (by kernel_rfl) lite30 nt30 rs30 ⟨snd27, snd18, trivial⟩ trivial (fun hT args r h => ?_))
  obtain ⟨x, y, ⟨hd0, hd1⟩, rfl, rfl⟩ := S30_inv h
  clear h
  have hM := hM0
  refine ⟨Nat.le_of_ble_eq_true rfl, fun F => ?_⟩
  unfold L30
  have f1 := S27_eq x y (by omega) (by omega)
  have f2 := S18_eq (x + y) (dlS (by rw [R32]; exact (dig_len_le _ _).1 hd0) (by rw [R32]; exact (dig_len_le _ _).1 hd1))
  refine Lwp.seq (Lwp.regI hT ?_)
  simp only [L30r0, go_sem, List.isEmpty_nil, isC, eq_self, reduceIte, Nat.reduceAdd, Nat.reduceMul, Nat.reduceSub, Nat.reduceLT, Nat.reduceLeDiff, Nat.reduceEqDiff, Nat.reduceDiv, Nat.reduceMod, Nat.reducePow, Nat.reduceBEq, Nat.reduceBNe, Int.reduceLT, Int.reduceLE, Int.reduceGT, Int.reduceGE, Int.reduceBEq, Int.reduceBNe, Int.reduceToNat, Int.reduceAdd, Int.reduceSub, Int.reduceMul, Int.reduceEq, Int.reduceNeg, reduceCtorEq, decide_true, decide_false, Bool.false_eq_true, ty3, ty4, ty5, ty9, ty22, ty23, ty24, ty38, ty40, ty43, ty27, ty28, ty74, ty75, ty52, eq24, pG, nG, fld0, fld2]
  refine Lwp.seq (Lwp.regI hT ?_)
  simp only [L30r1, go_sem, List.isEmpty_nil, isC, eq_self, reduceIte, Nat.reduceAdd, Nat.reduceMul, Nat.reduceSub, Nat.reduceLT, Nat.reduceLeDiff, Nat.reduceEqDiff, Nat.reduceDiv, Nat.reduceMod, Nat.reducePow, Nat.reduceBEq, Nat.reduceBNe, Int.reduceLT, Int.reduceLE, Int.reduceGT, Int.reduceGE, Int.reduceBEq, Int.reduceBNe, Int.reduceToNat, Int.reduceAdd, Int.reduceSub, Int.reduceMul, Int.reduceEq, Int.reduceNeg, reduceCtorEq, decide_true, decide_false, Bool.false_eq_true, ty3, ty4, ty5, ty9, ty22, ty23, ty24, ty38, ty40, ty43, ty27, ty28, ty74, ty75, ty52, eq24, pG, nG, fld0, fld2, f1, f2]
  refine Lwp.ret (post_val (v := DS (dig ((x + y) % pN))) ?_ ?_)
  · simp only [go_sem, List.isEmpty_nil, isC, eq_self, reduceIte, Nat.reduceAdd, Nat.reduceMul, Nat.reduceSub, Nat.reduceLT, Nat.reduceLeDiff, Nat.reduceEqDiff, Nat.reduceDiv, Nat.reduceMod, Nat.reducePow, Nat.reduceBEq, Nat.reduceBNe, Int.reduceLT, Int.reduceLE, Int.reduceGT, Int.reduceGE, Int.reduceBEq, Int.reduceBNe, Int.reduceToNat, Int.reduceAdd, Int.reduceSub, Int.reduceMul, Int.reduceEq, Int.reduceNeg, reduceCtorEq, decide_true, decide_false, Bool.false_eq_true]
  · simp only [go_sem, List.isEmpty_nil, isC, eq_self, reduceIte, Nat.reduceAdd, Nat.reduceMul, Nat.reduceSub, Nat.reduceLT, Nat.reduceLeDiff, Nat.reduceEqDiff, Nat.reduceDiv, Nat.reduceMod, Nat.reducePow, Nat.reduceBEq, Nat.reduceBNe, Int.reduceLT, Int.reduceLE, Int.reduceGT, Int.reduceGE, Int.reduceBEq, Int.reduceBNe, Int.reduceToNat, Int.reduceAdd, Int.reduceSub, Int.reduceMul, Int.reduceEq, Int.reduceNeg, reduceCtorEq, decide_true, decide_false, Bool.false_eq_true]

/-- The rest of a difference. -/
def subM (p x y : Nat) : Nat := (x % p + (p - y % p)) % p
noncomputable def S32 : List AV → Option Ret := nz (sumOf (fun p : Nat × Nat => match p with | (x, y) => ((dig x).length ≤ 400000) ∧ ((dig y).length ≤ 400000)) (fun p : Nat × Nat => match p with | (x, y) => [DS (dig x), DS (dig y)]) (fun p : Nat × Nat => match p with | (x, y) => ⟨DS (dig (subM pN x y)), none⟩))
theorem S32_eq (x : Nat) (y : Nat) (h0 : (dig x).length ≤ 400000) (h1 : (dig y).length ≤ 400000) : S32 [DS (dig x), DS (dig y)] = some ⟨DS (dig (subM pN x y)), none⟩ :=
  sumOf_eq (dom := (fun p : Nat × Nat => match p with | (x, y) => ((dig x).length ≤ 400000) ∧ ((dig y).length ≤ 400000))) (enc := (fun p : Nat × Nat => match p with | (x, y) => [DS (dig x), DS (dig y)])) (out := (fun p : Nat × Nat => match p with | (x, y) => ⟨DS (dig (subM pN x y)), none⟩)) (x, y) ⟨h0, h1⟩ (fun y _ e => by
    obtain ⟨y0, y1⟩ := y
    simp only [List.cons.injEq, AV.agg.injEq, AV.int.injEq, AV.slc.injEq, AV.iptr.injEq, AV.bool.injEq, AV.str.injEq, ints_injEq, dig_injEq,  Int.ofNat_inj, BitVec.toNat_inj, true_and, and_true] at e
    first | with_reducible rfl | simp only [e] | rfl)
theorem S32_inv {args : List AV} {r : Ret} (h : sumOf (fun p : Nat × Nat => match p with | (x, y) => ((dig x).length ≤ 400000) ∧ ((dig y).length ≤ 400000)) (fun p : Nat × Nat => match p with | (x, y) => [DS (dig x), DS (dig y)]) (fun p : Nat × Nat => match p with | (x, y) => ⟨DS (dig (subM pN x y)), none⟩) args = some r) : ∃ (x : Nat) (y : Nat), (((dig x).length ≤ 400000) ∧ ((dig y).length ≤ 400000)) ∧ args = [DS (dig x), DS (dig y)] ∧ r = ⟨DS (dig (subM pN x y)), none⟩ := by
  obtain ⟨x, h1, h2, h3⟩ := sumOf_inv h
  obtain ⟨x, y⟩ := x
  exact ⟨x, y, h1, h2.symm, h3⟩

set_option maxRecDepth 100000 in
theorem snd32 : SndE Tryd.prog NoG 32 S32 := by
  refine snd_nz (snd_by [(18, S18), (16, S16), (27, S27), (55, S55)] [] Tryd.func32 (by kernel_rfl) lite32 nt32 rs32 ⟨snd18, snd16, snd27, snd55, trivial⟩ trivial (fun hT args r h => ?_))
  obtain ⟨x, y, ⟨hd0, hd1⟩, rfl, rfl⟩ := S32_inv h
  clear h
  have hM := hM0
  refine ⟨Nat.le_of_ble_eq_true rfl, fun F => ?_⟩
  unfold L32
  have f1 := S18_eq x hd0
  have f2 := S16_eq
  have lx : (dig (x % pN)).length ≤ 12 := dig12 (pN_mod_lt x)
  have ly : (dig (y % pN)).length ≤ 12 := dig12 (pN_mod_lt y)
  have lp : (dig pN).length ≤ 12 := dig12 pN_ltR
  have f3 := S27_eq (x % pN) pN (by omega) (by omega)
  have f4 := S18_eq y hd1
  have hy := Nat.mod_lt y pN_pos
  have ls : (dig (x % pN + pN)).length ≤ 400000 := dlS (pN_mod_lt x) pN_ltR
  have f5 := S55_eq (x % pN + pN) (y % pN) (by omega) (by omega) (by omega)
  have e : x % pN + pN - y % pN = x % pN + (pN - y % pN) := by omega
  rw [e] at f5
  have f6 := S18_eq (x % pN + (pN - y % pN)) (dlS (pN_mod_lt x) (Nat.lt_of_le_of_lt (Nat.sub_le _ _) pN_ltR))
  unfold subM
  generalize dig (x % pN) = d1 at *
  generalize dig (y % pN) = d2 at *
  generalize dig (x % pN + pN) = d3 at *
  generalize dig pN = d4 at *
  generalize dig (x % pN + (pN - y % pN)) = d5 at *
  refine Lwp.seq (Lwp.regI hT ?_)
  simp only [L32r0, go_sem, List.isEmpty_nil, isC, eq_self, reduceIte, Nat.reduceAdd, Nat.reduceMul, Nat.reduceSub, Nat.reduceLT, Nat.reduceLeDiff, Nat.reduceEqDiff, Nat.reduceDiv, Nat.reduceMod, Nat.reducePow, Nat.reduceBEq, Nat.reduceBNe, Int.reduceLT, Int.reduceLE, Int.reduceGT, Int.reduceGE, Int.reduceBEq, Int.reduceBNe, Int.reduceToNat, Int.reduceAdd, Int.reduceSub, Int.reduceMul, Int.reduceEq, Int.reduceNeg, reduceCtorEq, decide_true, decide_false, Bool.false_eq_true, ty3, ty4, ty5, ty9, ty22, ty23, ty24, ty38, ty40, ty43, ty27, ty28, ty74, ty75, ty52, eq24, pG, nG, fld0, fld2]
  refine Lwp.seq (Lwp.regI hT ?_)
  simp only [L32r1, go_sem, List.isEmpty_nil, isC, eq_self, reduceIte, Nat.reduceAdd, Nat.reduceMul, Nat.reduceSub, Nat.reduceLT, Nat.reduceLeDiff, Nat.reduceEqDiff, Nat.reduceDiv, Nat.reduceMod, Nat.reducePow, Nat.reduceBEq, Nat.reduceBNe, Int.reduceLT, Int.reduceLE, Int.reduceGT, Int.reduceGE, Int.reduceBEq, Int.reduceBNe, Int.reduceToNat, Int.reduceAdd, Int.reduceSub, Int.reduceMul, Int.reduceEq, Int.reduceNeg, reduceCtorEq, decide_true, decide_false, Bool.false_eq_true, ty3, ty4, ty5, ty9, ty22, ty23, ty24, ty38, ty40, ty43, ty27, ty28, ty74, ty75, ty52, eq24, pG, nG, fld0, fld2, f1, f2, f3, f4, f5, f6]
  refine Lwp.ret (post_val (v := DS (dig ((x % pN + (pN - y % pN)) % pN))) ?_ ?_)
  · simp only [go_sem, List.isEmpty_nil, isC, eq_self, reduceIte, Nat.reduceAdd, Nat.reduceMul, Nat.reduceSub, Nat.reduceLT, Nat.reduceLeDiff, Nat.reduceEqDiff, Nat.reduceDiv, Nat.reduceMod, Nat.reducePow, Nat.reduceBEq, Nat.reduceBNe, Int.reduceLT, Int.reduceLE, Int.reduceGT, Int.reduceGE, Int.reduceBEq, Int.reduceBNe, Int.reduceToNat, Int.reduceAdd, Int.reduceSub, Int.reduceMul, Int.reduceEq, Int.reduceNeg, reduceCtorEq, decide_true, decide_false, Bool.false_eq_true]
  · simp only [go_sem, List.isEmpty_nil, isC, eq_self, reduceIte, Nat.reduceAdd, Nat.reduceMul, Nat.reduceSub, Nat.reduceLT, Nat.reduceLeDiff, Nat.reduceEqDiff, Nat.reduceDiv, Nat.reduceMod, Nat.reducePow, Nat.reduceBEq, Nat.reduceBNe, Int.reduceLT, Int.reduceLE, Int.reduceGT, Int.reduceGE, Int.reduceBEq, Int.reduceBNe, Int.reduceToNat, Int.reduceAdd, Int.reduceSub, Int.reduceMul, Int.reduceEq, Int.reduceNeg, reduceCtorEq, decide_true, decide_false, Bool.false_eq_true]
theorem S32_nil (y : Nat) (h : (dig y).length ≤ 400000) : S32 [.nils, DS (dig y)] = some ⟨DS (dig (subM pN 0 y)), none⟩ := by
  have := S32_eq 0 y (by rw [dig_nil]; decide) h
  rw [dig_nil] at this
  exact this

noncomputable def S31 : List AV → Option Ret := nz (sumOf (fun p : List Int × List Int => match p with | (a, b) => (U6 a) ∧ (U6 b)) (fun p : List Int × List Int => match p with | (a, b) => [AG a, AG b]) (fun p : List Int × List Int => match p with | (a, b) => ⟨AG (lim6 (subM pN (v64 a) (v64 b))), none⟩))
theorem S31_eq (a : List Int) (b : List Int) (h0 : U6 a) (h1 : U6 b) : S31 [AG a, AG b] = some ⟨AG (lim6 (subM pN (v64 a) (v64 b))), none⟩ :=
  sumOf_eq (dom := (fun p : List Int × List Int => match p with | (a, b) => (U6 a) ∧ (U6 b))) (enc := (fun p : List Int × List Int => match p with | (a, b) => [AG a, AG b])) (out := (fun p : List Int × List Int => match p with | (a, b) => ⟨AG (lim6 (subM pN (v64 a) (v64 b))), none⟩)) (a, b) ⟨h0, h1⟩ (fun y _ e => by
    obtain ⟨y0, y1⟩ := y
    simp only [List.cons.injEq, AV.agg.injEq, AV.int.injEq, AV.slc.injEq, AV.iptr.injEq, AV.bool.injEq, AV.str.injEq, ints_injEq, dig_injEq,  Int.ofNat_inj, BitVec.toNat_inj, true_and, and_true] at e
    first | with_reducible rfl | simp only [e] | rfl)
theorem S31_inv {args : List AV} {r : Ret} (h : sumOf (fun p : List Int × List Int => match p with | (a, b) => (U6 a) ∧ (U6 b)) (fun p : List Int × List Int => match p with | (a, b) => [AG a, AG b]) (fun p : List Int × List Int => match p with | (a, b) => ⟨AG (lim6 (subM pN (v64 a) (v64 b))), none⟩) args = some r) : ∃ (a : List Int) (b : List Int), ((U6 a) ∧ (U6 b)) ∧ args = [AG a, AG b] ∧ r = ⟨AG (lim6 (subM pN (v64 a) (v64 b))), none⟩ := by
  obtain ⟨x, h1, h2, h3⟩ := sumOf_inv h
  obtain ⟨a, b⟩ := x
  exact ⟨a, b, h1, h2.symm, h3⟩

set_option maxRecDepth 100000 in
theorem snd31 : SndG Tryd.prog pG 31 S31 := by
  refine snd_nz (sndG_by (gl := pG) [(54, S54)] [] Tryd.func31 (by kernel_rfl) lite31 nt31 rs31 ⟨(by first | exact snd54 | exact snd54.toG), trivial⟩ trivial (fun hT args r h => ?_))
  obtain ⟨a, b, ⟨hd0, hd1⟩, rfl, rfl⟩ := S31_inv h
  clear h
  have hM := hM0
  refine ⟨Nat.le_of_ble_eq_true rfl, fun F => ?_⟩
  unfold L31
  have hl := hd0.1
  have hl1 := hd1.1
  have h2 := pD_len
  have f := S54_eq a b pD hd0 hd1 pD_mod
  rw [pD_take, ← pN_eq, ← subM] at f
  have lo := lim6_len (subM pN (v64 a) (v64 b))
  generalize lim6 (subM pN (v64 a) (v64 b)) = out at *
  refine Lwp.seq (Lwp.regI hT ?_)
  simp only [L31r0, go_sem, List.isEmpty_nil, isC, eq_self, reduceIte, Nat.reduceAdd, Nat.reduceMul, Nat.reduceSub, Nat.reduceLT, Nat.reduceLeDiff, Nat.reduceEqDiff, Nat.reduceDiv, Nat.reduceMod, Nat.reducePow, Nat.reduceBEq, Nat.reduceBNe, Int.reduceLT, Int.reduceLE, Int.reduceGT, Int.reduceGE, Int.reduceBEq, Int.reduceBNe, Int.reduceToNat, Int.reduceAdd, Int.reduceSub, Int.reduceMul, Int.reduceEq, Int.reduceNeg, reduceCtorEq, decide_true, decide_false, Bool.false_eq_true, ty3, ty4, ty5, ty9, ty22, ty23, ty24, ty38, ty40, ty43, ty27, ty28, ty74, ty75, ty52, eq24, pG, nG, fld0, fld2, hl, hl1]
  refine Lwp.seq (Lwp.regI hT ?_)
  simp only [L31r1, go_sem, List.isEmpty_nil, isC, eq_self, reduceIte, Nat.reduceAdd, Nat.reduceMul, Nat.reduceSub, Nat.reduceLT, Nat.reduceLeDiff, Nat.reduceEqDiff, Nat.reduceDiv, Nat.reduceMod, Nat.reducePow, Nat.reduceBEq, Nat.reduceBNe, Int.reduceLT, Int.reduceLE, Int.reduceGT, Int.reduceGE, Int.reduceBEq, Int.reduceBNe, Int.reduceToNat, Int.reduceAdd, Int.reduceSub, Int.reduceMul, Int.reduceEq, Int.reduceNeg, reduceCtorEq, decide_true, decide_false, Bool.false_eq_true, ty3, ty4, ty5, ty9, ty22, ty23, ty24, ty38, ty40, ty43, ty27, ty28, ty74, ty75, ty52, eq24, pG, nG, fld0, fld2, hl, hl1, h2, f, lo, Nat.le_refl]
  refine Lwp.ret (post_val (v := AG out) ?_ ?_)
  · simp only [go_sem, List.isEmpty_nil, isC, eq_self, reduceIte, Nat.reduceAdd, Nat.reduceMul, Nat.reduceSub, Nat.reduceLT, Nat.reduceLeDiff, Nat.reduceEqDiff, Nat.reduceDiv, Nat.reduceMod, Nat.reducePow, Nat.reduceBEq, Nat.reduceBNe, Int.reduceLT, Int.reduceLE, Int.reduceGT, Int.reduceGE, Int.reduceBEq, Int.reduceBNe, Int.reduceToNat, Int.reduceAdd, Int.reduceSub, Int.reduceMul, Int.reduceEq, Int.reduceNeg, reduceCtorEq, decide_true, decide_false, Bool.false_eq_true, ty24, lo]
  · simp only [go_sem, List.isEmpty_nil, isC, eq_self, reduceIte, Nat.reduceAdd, Nat.reduceMul, Nat.reduceSub, Nat.reduceLT, Nat.reduceLeDiff, Nat.reduceEqDiff, Nat.reduceDiv, Nat.reduceMod, Nat.reducePow, Nat.reduceBEq, Nat.reduceBNe, Int.reduceLT, Int.reduceLE, Int.reduceGT, Int.reduceGE, Int.reduceBEq, Int.reduceBNe, Int.reduceToNat, Int.reduceAdd, Int.reduceSub, Int.reduceMul, Int.reduceEq, Int.reduceNeg, reduceCtorEq, decide_true, decide_false, Bool.false_eq_true]

noncomputable def S33 : List AV → Option Ret := nz (sumOf (fun p : List Int => match p with | a => (U6 a)) (fun p : List Int => match p with | a => [AG a]) (fun p : List Int => match p with | a => ⟨AG (lim6 (subM pN 0 (v64 a))), none⟩))
theorem S33_eq (a : List Int) (h0 : U6 a) : S33 [AG a] = some ⟨AG (lim6 (subM pN 0 (v64 a))), none⟩ :=
  sumOf_eq (dom := (fun p : List Int => match p with | a => (U6 a))) (enc := (fun p : List Int => match p with | a => [AG a])) (out := (fun p : List Int => match p with | a => ⟨AG (lim6 (subM pN 0 (v64 a))), none⟩)) a h0 (fun y _ e => by
    simp only [List.cons.injEq, AV.agg.injEq, AV.int.injEq, AV.slc.injEq, AV.iptr.injEq, AV.bool.injEq, AV.str.injEq, ints_injEq, dig_injEq,  Int.ofNat_inj, BitVec.toNat_inj, true_and, and_true] at e
    first | with_reducible rfl | simp only [e] | rfl)
theorem S33_inv {args : List AV} {r : Ret} (h : sumOf (fun p : List Int => match p with | a => (U6 a)) (fun p : List Int => match p with | a => [AG a]) (fun p : List Int => match p with | a => ⟨AG (lim6 (subM pN 0 (v64 a))), none⟩) args = some r) : ∃ (a : List Int), ((U6 a)) ∧ args = [AG a] ∧ r = ⟨AG (lim6 (subM pN 0 (v64 a))), none⟩ := by
  obtain ⟨x, h1, h2, h3⟩ := sumOf_inv h
  exact ⟨x, h1, h2.symm, h3⟩

set_option maxRecDepth 100000 in
theorem snd33 : SndG Tryd.prog pG 33 S33 := by
  refine snd_nz (sndG_by (gl := pG) [(54, S54)] [] Tryd.func33 (by kernel_rfl) lite33 nt33 rs33 ⟨(by first | exact snd54 | exact snd54.toG), trivial⟩ trivial (fun hT args r h => ?_))
  obtain ⟨a, hd0, rfl, rfl⟩ := S33_inv h
  clear h
  have hM := hM0
  refine ⟨Nat.le_of_ble_eq_true rfl, fun F => ?_⟩
  unfold L33
  have hl := hd0.1
  have h2 := pD_len
  have f := S54_eq (List.replicate 6 0) a pD z6_U6 hd0 pD_mod
  rw [pD_take, ← pN_eq, z6_v, ← subM] at f
  have lo := lim6_len (subM pN 0 (v64 a))
  generalize lim6 (subM pN 0 (v64 a)) = out at *
  refine Lwp.seq (Lwp.regI hT ?_)
  simp only [L33r0, go_sem, List.isEmpty_nil, isC, eq_self, reduceIte, Nat.reduceAdd, Nat.reduceMul, Nat.reduceSub, Nat.reduceLT, Nat.reduceLeDiff, Nat.reduceEqDiff, Nat.reduceDiv, Nat.reduceMod, Nat.reducePow, Nat.reduceBEq, Nat.reduceBNe, Int.reduceLT, Int.reduceLE, Int.reduceGT, Int.reduceGE, Int.reduceBEq, Int.reduceBNe, Int.reduceToNat, Int.reduceAdd, Int.reduceSub, Int.reduceMul, Int.reduceEq, Int.reduceNeg, reduceCtorEq, decide_true, decide_false, Bool.false_eq_true, ty3, ty4, ty5, ty9, ty22, ty23, ty24, ty38, ty40, ty43, ty27, ty28, ty74, ty75, ty52, eq24, pG, nG, fld0, fld2, hl]
  refine Lwp.seq (Lwp.regI hT ?_)
  simp only [L33r1, go_sem, List.isEmpty_nil, isC, eq_self, reduceIte, Nat.reduceAdd, Nat.reduceMul, Nat.reduceSub, Nat.reduceLT, Nat.reduceLeDiff, Nat.reduceEqDiff, Nat.reduceDiv, Nat.reduceMod, Nat.reducePow, Nat.reduceBEq, Nat.reduceBNe, Int.reduceLT, Int.reduceLE, Int.reduceGT, Int.reduceGE, Int.reduceBEq, Int.reduceBNe, Int.reduceToNat, Int.reduceAdd, Int.reduceSub, Int.reduceMul, Int.reduceEq, Int.reduceNeg, reduceCtorEq, decide_true, decide_false, Bool.false_eq_true, ty3, ty4, ty5, ty9, ty22, ty23, ty24, ty38, ty40, ty43, ty27, ty28, ty74, ty75, ty52, eq24, pG, nG, fld0, fld2, hl, h2, f, lo, Nat.le_refl]
  refine Lwp.ret (post_val (v := AG out) ?_ ?_)
  · simp only [go_sem, List.isEmpty_nil, isC, eq_self, reduceIte, Nat.reduceAdd, Nat.reduceMul, Nat.reduceSub, Nat.reduceLT, Nat.reduceLeDiff, Nat.reduceEqDiff, Nat.reduceDiv, Nat.reduceMod, Nat.reducePow, Nat.reduceBEq, Nat.reduceBNe, Int.reduceLT, Int.reduceLE, Int.reduceGT, Int.reduceGE, Int.reduceBEq, Int.reduceBNe, Int.reduceToNat, Int.reduceAdd, Int.reduceSub, Int.reduceMul, Int.reduceEq, Int.reduceNeg, reduceCtorEq, decide_true, decide_false, Bool.false_eq_true, ty24, lo]
  · simp only [go_sem, List.isEmpty_nil, isC, eq_self, reduceIte, Nat.reduceAdd, Nat.reduceMul, Nat.reduceSub, Nat.reduceLT, Nat.reduceLeDiff, Nat.reduceEqDiff, Nat.reduceDiv, Nat.reduceMod, Nat.reducePow, Nat.reduceBEq, Nat.reduceBNe, Int.reduceLT, Int.reduceLE, Int.reduceGT, Int.reduceGE, Int.reduceBEq, Int.reduceBNe, Int.reduceToNat, Int.reduceAdd, Int.reduceSub, Int.reduceMul, Int.reduceEq, Int.reduceNeg, reduceCtorEq, decide_true, decide_false, Bool.false_eq_true]

theorem subM_lt (x y : Nat) : subM pN x y < 18446744073709551616 ^ 6 := pN_mod_lt _

noncomputable def S5 : List AV → Option Ret := nz (sumOf (fun p : List Int × List Int => match p with | (a, b) => (U6 a) ∧ (U6 b)) (fun p : List Int × List Int => match p with | (a, b) => [AG a, AG b]) (fun p : List Int × List Int => match p with | (a, b) => ⟨.bool true, none⟩))
theorem S5_eq (a : List Int) (b : List Int) (h0 : U6 a) (h1 : U6 b) : S5 [AG a, AG b] = some ⟨.bool true, none⟩ :=
  sumOf_eq (dom := (fun p : List Int × List Int => match p with | (a, b) => (U6 a) ∧ (U6 b))) (enc := (fun p : List Int × List Int => match p with | (a, b) => [AG a, AG b])) (out := (fun p : List Int × List Int => match p with | (a, b) => ⟨.bool true, none⟩)) (a, b) ⟨h0, h1⟩ (fun y _ e => by
    obtain ⟨y0, y1⟩ := y
    simp only [List.cons.injEq, AV.agg.injEq, AV.int.injEq, AV.slc.injEq, AV.iptr.injEq, AV.bool.injEq, AV.str.injEq, ints_injEq, dig_injEq,  Int.ofNat_inj, BitVec.toNat_inj, true_and, and_true] at e
    first | with_reducible rfl | simp only [e] | rfl)
theorem S5_inv {args : List AV} {r : Ret} (h : sumOf (fun p : List Int × List Int => match p with | (a, b) => (U6 a) ∧ (U6 b)) (fun p : List Int × List Int => match p with | (a, b) => [AG a, AG b]) (fun p : List Int × List Int => match p with | (a, b) => ⟨.bool true, none⟩) args = some r) : ∃ (a : List Int) (b : List Int), ((U6 a) ∧ (U6 b)) ∧ args = [AG a, AG b] ∧ r = ⟨.bool true, none⟩ := by
  obtain ⟨x, h1, h2, h3⟩ := sumOf_inv h
  obtain ⟨a, b⟩ := x
  exact ⟨a, b, h1, h2.symm, h3⟩

set_option maxRecDepth 100000 in
theorem snd5 : SndG Tryd.prog pG 5 S5 := by
  refine snd_nz (sndG_by (gl := pG) [(14, S14), (19, S19), (29, S29), (30, S30), (31, S31), (32, S32), (33, S33), (34, S34)] [] Tryd.func5 (by kernel_rfl) lite5 nt5 rs5 ⟨(by first | exact snd14 | exact snd14.toG), (by first | exact snd19 | exact snd19.toG), (by first | exact snd29 | exact snd29.toG), (by first | exact snd30 | exact snd30.toG), (by first | exact snd31 | exact snd31.toG), (by first | exact snd32 | exact snd32.toG), (by first | exact snd33 | exact snd33.toG), (by first | exact snd34 | exact snd34.toG), trivial⟩ trivial (fun hT args r h => ?_))
  obtain ⟨a, b, ⟨hd0, hd1⟩, rfl, rfl⟩ := S5_inv h
  clear h
  have hM := hM0
  refine ⟨Nat.le_of_ble_eq_true rfl, fun F => ?_⟩
  unfold L5
  have hl := hd0.1
  have hl1 := hd1.1
  have f0 := S34_eq
  have f1 := S19_eq a hd0
  have f2 := S19_eq b hd1
  have f3 := S29_eq a b hd0 hd1
  have f4 := S30_eq (v64 a) (v64 b) (dig12 hd0.v64_lt) (dig12 hd1.v64_lt)
  have f5 := S14_eq (lim6 ((v64 a + v64 b) % pN)) ((v64 a + v64 b) % pN) (U6_lim _) (le6 (dlR (pN_mod_lt _)))
  have f6 := S31_eq a b hd0 hd1
  have f7 := S32_eq (v64 a) (v64 b) (dlR hd0.v64_lt) (dlR hd1.v64_lt)
  have f8 := S14_eq (lim6 (subM pN (v64 a) (v64 b))) (subM pN (v64 a) (v64 b)) (U6_lim _) (le6 (dlR (subM_lt _ _)))
  have f9 := S33_eq a hd0
  have f10 := S32_nil (v64 a) (dlR hd0.v64_lt)
  have f11 := S14_eq (lim6 (subM pN 0 (v64 a))) (subM pN 0 (v64 a)) (U6_lim _) (le6 (dlR (subM_lt _ _)))
  have l1 := lim6_len ((v64 a + v64 b) % pN)
  have l2 := lim6_len (subM pN (v64 a) (v64 b))
  have l3 := lim6_len (subM pN 0 (v64 a))
  generalize lim6 ((v64 a + v64 b) % pN) = o1 at *
  generalize dig ((v64 a + v64 b) % pN) = d1 at *
  generalize lim6 (subM pN (v64 a) (v64 b)) = o2 at *
  generalize dig (subM pN (v64 a) (v64 b)) = d2 at *
  generalize lim6 (subM pN 0 (v64 a)) = o3 at *
  generalize dig (subM pN 0 (v64 a)) = d3 at *
  generalize dig (v64 a) = da at *
  generalize dig (v64 b) = db at *
  refine Lwp.seq (Lwp.regI hT ?_)
  simp only [L5r0, go_sem, List.isEmpty_nil, isC, eq_self, reduceIte, Nat.reduceAdd, Nat.reduceMul, Nat.reduceSub, Nat.reduceLT, Nat.reduceLeDiff, Nat.reduceEqDiff, Nat.reduceDiv, Nat.reduceMod, Nat.reducePow, Nat.reduceBEq, Nat.reduceBNe, Int.reduceLT, Int.reduceLE, Int.reduceGT, Int.reduceGE, Int.reduceBEq, Int.reduceBNe, Int.reduceToNat, Int.reduceAdd, Int.reduceSub, Int.reduceMul, Int.reduceEq, Int.reduceNeg, reduceCtorEq, decide_true, decide_false, Bool.false_eq_true, ty3, ty4, ty5, ty9, ty22, ty23, ty24, ty38, ty40, ty43, ty27, ty28, ty74, ty75, ty52, eq24, pG, nG, fld0, fld2, hl, hl1]
  refine Lwp.seq (Lwp.regD hT hM ?_)
  simp only [L5r1, go_sem, List.isEmpty_nil, isC, eq_self, reduceIte, Nat.reduceAdd, Nat.reduceMul, Nat.reduceSub, Nat.reduceLT, Nat.reduceLeDiff, Nat.reduceEqDiff, Nat.reduceDiv, Nat.reduceMod, Nat.reducePow, Nat.reduceBEq, Nat.reduceBNe, Int.reduceLT, Int.reduceLE, Int.reduceGT, Int.reduceGE, Int.reduceBEq, Int.reduceBNe, Int.reduceToNat, Int.reduceAdd, Int.reduceSub, Int.reduceMul, Int.reduceEq, Int.reduceNeg, reduceCtorEq, decide_true, decide_false, Bool.false_eq_true, ty3, ty4, ty5, ty9, ty22, ty23, ty24, ty38, ty40, ty43, ty27, ty28, ty74, ty75, ty52, eq24, pG, nG, fld0, fld2, hl, hl1, f1, f2, f3, f4, f5, l1]
  refine Lwp.seq (Lwp.regD hT hM ?_)
  simp only [L5r2, go_sem, List.isEmpty_nil, isC, eq_self, reduceIte, Nat.reduceAdd, Nat.reduceMul, Nat.reduceSub, Nat.reduceLT, Nat.reduceLeDiff, Nat.reduceEqDiff, Nat.reduceDiv, Nat.reduceMod, Nat.reducePow, Nat.reduceBEq, Nat.reduceBNe, Int.reduceLT, Int.reduceLE, Int.reduceGT, Int.reduceGE, Int.reduceBEq, Int.reduceBNe, Int.reduceToNat, Int.reduceAdd, Int.reduceSub, Int.reduceMul, Int.reduceEq, Int.reduceNeg, reduceCtorEq, decide_true, decide_false, Bool.false_eq_true, ty3, ty4, ty5, ty9, ty22, ty23, ty24, ty38, ty40, ty43, ty27, ty28, ty74, ty75, ty52, eq24, pG, nG, fld0, fld2, hl, hl1, f1, f2, f6, f7, f8, l2]
  refine Lwp.seq (Lwp.regD hT hM ?_)
  simp only [L5r3, go_sem, List.isEmpty_nil, isC, eq_self, reduceIte, Nat.reduceAdd, Nat.reduceMul, Nat.reduceSub, Nat.reduceLT, Nat.reduceLeDiff, Nat.reduceEqDiff, Nat.reduceDiv, Nat.reduceMod, Nat.reducePow, Nat.reduceBEq, Nat.reduceBNe, Int.reduceLT, Int.reduceLE, Int.reduceGT, Int.reduceGE, Int.reduceBEq, Int.reduceBNe, Int.reduceToNat, Int.reduceAdd, Int.reduceSub, Int.reduceMul, Int.reduceEq, Int.reduceNeg, reduceCtorEq, decide_true, decide_false, Bool.false_eq_true, ty3, ty4, ty5, ty9, ty22, ty23, ty24, ty38, ty40, ty43, ty27, ty28, ty74, ty75, ty52, eq24, pG, nG, fld0, fld2, hl, hl1, f1, f9, f10, f11, l3]
  refine Lwp.seq (Lwp.regI hT ?_)
  simp only [L5r4, go_sem, List.isEmpty_nil, isC, eq_self, reduceIte, Nat.reduceAdd, Nat.reduceMul, Nat.reduceSub, Nat.reduceLT, Nat.reduceLeDiff, Nat.reduceEqDiff, Nat.reduceDiv, Nat.reduceMod, Nat.reducePow, Nat.reduceBEq, Nat.reduceBNe, Int.reduceLT, Int.reduceLE, Int.reduceGT, Int.reduceGE, Int.reduceBEq, Int.reduceBNe, Int.reduceToNat, Int.reduceAdd, Int.reduceSub, Int.reduceMul, Int.reduceEq, Int.reduceNeg, reduceCtorEq, decide_true, decide_false, Bool.false_eq_true, ty3, ty4, ty5, ty9, ty22, ty23, ty24, ty38, ty40, ty43, ty27, ty28, ty74, ty75, ty52, eq24, pG, nG, fld0, fld2, f0]
  refine Lwp.ret (post_val (v := .bool true) ?_ ?_)
  · simp only [go_sem, List.isEmpty_nil, isC, eq_self, reduceIte, Nat.reduceAdd, Nat.reduceMul, Nat.reduceSub, Nat.reduceLT, Nat.reduceLeDiff, Nat.reduceEqDiff, Nat.reduceDiv, Nat.reduceMod, Nat.reducePow, Nat.reduceBEq, Nat.reduceBNe, Int.reduceLT, Int.reduceLE, Int.reduceGT, Int.reduceGE, Int.reduceBEq, Int.reduceBNe, Int.reduceToNat, Int.reduceAdd, Int.reduceSub, Int.reduceMul, Int.reduceEq, Int.reduceNeg, reduceCtorEq, decide_true, decide_false, Bool.false_eq_true]
  · simp only [go_sem, List.isEmpty_nil, isC, eq_self, reduceIte, Nat.reduceAdd, Nat.reduceMul, Nat.reduceSub, Nat.reduceLT, Nat.reduceLeDiff, Nat.reduceEqDiff, Nat.reduceDiv, Nat.reduceMod, Nat.reducePow, Nat.reduceBEq, Nat.reduceBNe, Int.reduceLT, Int.reduceLE, Int.reduceGT, Int.reduceGE, Int.reduceBEq, Int.reduceBNe, Int.reduceToNat, Int.reduceAdd, Int.reduceSub, Int.reduceMul, Int.reduceEq, Int.reduceNeg, reduceCtorEq, decide_true, decide_false, Bool.false_eq_true]

theorem v64_lp (x : Nat) : v64 (lim6 (x % pN)) = x % pN := v64_lim6 (pN_mod_lt x)
theorem v64_ls (x y : Nat) : v64 (lim6 (subM pN x y)) = subM pN x y := v64_lim6 (subM_lt x y)
theorem subM_back (p x y : Nat) (hp : 0 < p) : (subM p x y + y) % p = x % p := by
  unfold subM
  have h := Nat.mod_lt y hp
  have e : x % p + (p - y % p) + y % p = x % p + p := by omega
  rw [Nat.mod_add_mod, ← Nat.add_mod_mod, e, Nat.add_mod_right, Nat.mod_mod]
theorem neg_back (p x : Nat) (hp : 0 < p) : (x + subM p 0 x) % p = 0 := by
  rw [Nat.add_comm, subM_back p 0 x hp, Nat.zero_mod]

noncomputable def S10 : List AV → Option Ret := nz (sumOf (fun p : List Int × List Int × List Int => match p with | (a, b, c) => (U6 a) ∧ (U6 b) ∧ (U6 c)) (fun p : List Int × List Int × List Int => match p with | (a, b, c) => [AG a, AG b, AG c]) (fun p : List Int × List Int × List Int => match p with | (a, b, c) => ⟨.bool true, none⟩))
theorem S10_eq (a : List Int) (b : List Int) (c : List Int) (h0 : U6 a) (h1 : U6 b) (h2 : U6 c) : S10 [AG a, AG b, AG c] = some ⟨.bool true, none⟩ :=
  sumOf_eq (dom := (fun p : List Int × List Int × List Int => match p with | (a, b, c) => (U6 a) ∧ (U6 b) ∧ (U6 c))) (enc := (fun p : List Int × List Int × List Int => match p with | (a, b, c) => [AG a, AG b, AG c])) (out := (fun p : List Int × List Int × List Int => match p with | (a, b, c) => ⟨.bool true, none⟩)) (a, b, c) ⟨h0, h1, h2⟩ (fun y _ e => by
    obtain ⟨y0, y1, y2⟩ := y
    simp only [List.cons.injEq, AV.agg.injEq, AV.int.injEq, AV.slc.injEq, AV.iptr.injEq, AV.bool.injEq, AV.str.injEq, ints_injEq, dig_injEq,  Int.ofNat_inj, BitVec.toNat_inj, true_and, and_true] at e
    first | with_reducible rfl | simp only [e] | rfl)
theorem S10_inv {args : List AV} {r : Ret} (h : sumOf (fun p : List Int × List Int × List Int => match p with | (a, b, c) => (U6 a) ∧ (U6 b) ∧ (U6 c)) (fun p : List Int × List Int × List Int => match p with | (a, b, c) => [AG a, AG b, AG c]) (fun p : List Int × List Int × List Int => match p with | (a, b, c) => ⟨.bool true, none⟩) args = some r) : ∃ (a : List Int) (b : List Int) (c : List Int), ((U6 a) ∧ (U6 b) ∧ (U6 c)) ∧ args = [AG a, AG b, AG c] ∧ r = ⟨.bool true, none⟩ := by
  obtain ⟨x, h1, h2, h3⟩ := sumOf_inv h
  obtain ⟨a, b, c⟩ := x
  exact ⟨a, b, c, h1, h2.symm, h3⟩

set_option maxRecDepth 100000 in
theorem snd10 : SndG Tryd.prog pG 10 S10 := by
  refine snd_nz (sndG_by (gl := pG) [(17, S17), (29, S29), (31, S31), (33, S33), (34, S34), (40, S40)] [] Tryd.func10 (by kernel_rfl) lite10 nt10 rs10 ⟨(by first | exact snd17 | exact snd17.toG), (by first | exact snd29 | exact snd29.toG), (by first | exact snd31 | exact snd31.toG), (by first | exact snd33 | exact snd33.toG), (by first | exact snd34 | exact snd34.toG), (by first | exact snd40 | exact snd40.toG), trivial⟩ trivial (fun hT args r h => ?_))
  obtain ⟨a, b, c, ⟨hd0, hd1, hd2⟩, rfl, rfl⟩ := S10_inv h
  clear h
  have hM := hM0
  refine ⟨Nat.le_of_ble_eq_true rfl, fun F => ?_⟩
  unfold L10
  have hl := hd0.1
  have hl1 := hd1.1
  have hl2 := hd2.1
  have f0 := S34_eq
  have a1 := S29_eq a b hd0 hd1
  have a2 := S29_eq b a hd1 hd0
  rw [Nat.add_comm (v64 b)] at a2
  have m1 := S40_eq a b hd0 hd1
  have m2 := S40_eq b a hd1 hd0
  rw [Nat.mul_comm (v64 b)] at m2
  have b1 := S29_eq (lim6 ((v64 a + v64 b) % pN)) c (U6_lim _) hd2
  rw [v64_lp, Nat.mod_add_mod] at b1
  have b2 := S29_eq b c hd1 hd2
  have b3 := S29_eq a (lim6 ((v64 b + v64 c) % pN)) hd0 (U6_lim _)
  rw [v64_lp, Nat.add_mod_mod, ← Nat.add_assoc] at b3
  have c1 := S40_eq (lim6 (v64 a * v64 b % pN)) c (U6_lim _) hd2
  rw [v64_lp, Nat.mod_mul_mod] at c1
  have c2 := S40_eq b c hd1 hd2
  have c3 := S40_eq a (lim6 (v64 b * v64 c % pN)) hd0 (U6_lim _)
  rw [v64_lp, Nat.mul_mod_mod, ← Nat.mul_assoc] at c3
  have d1 := S40_eq a (lim6 ((v64 b + v64 c) % pN)) hd0 (U6_lim _)
  rw [v64_lp, Nat.mul_mod_mod, Nat.mul_add] at d1
  have d2 := S40_eq a c hd0 hd2
  have d3 := S29_eq (lim6 (v64 a * v64 b % pN)) (lim6 (v64 a * v64 c % pN)) (U6_lim _) (U6_lim _)
  rw [v64_lp, v64_lp, ← Nat.add_mod] at d3
  have e1 := S31_eq a b hd0 hd1
  have e2 := S29_eq (lim6 (subM pN (v64 a) (v64 b))) b (U6_lim _) hd1
  rw [v64_ls, subM_back _ _ _ pN_pos] at e2
  have e3 := S17_eq a hd0
  have e4 := S33_eq a hd0
  have e5 := S29_eq a (lim6 (subM pN 0 (v64 a))) hd0 (U6_lim _)
  rw [v64_ls, neg_back _ _ pN_pos, lim6_nil] at e5
  have l1 := lim6_len ((v64 a + v64 b) % pN)
  have l2 := lim6_len (v64 a * v64 b % pN)
  have l3 := lim6_len ((v64 a + v64 b + v64 c) % pN)
  have l4 := lim6_len ((v64 b + v64 c) % pN)
  have l5 := lim6_len (v64 a * v64 b * v64 c % pN)
  have l6 := lim6_len (v64 b * v64 c % pN)
  have l7 := lim6_len ((v64 a * v64 b + v64 a * v64 c) % pN)
  have l8 := lim6_len (v64 a * v64 c % pN)
  have l9 := lim6_len (subM pN (v64 a) (v64 b))
  have l10 := lim6_len (v64 a % pN)
  have l11 := lim6_len (subM pN 0 (v64 a))
  have rl : (List.replicate 6 (0 : Int)).length = 6 := rfl
  generalize lim6 ((v64 a + v64 b) % pN) = o1 at *
  generalize lim6 (v64 a * v64 b % pN) = o2 at *
  generalize lim6 ((v64 a + v64 b + v64 c) % pN) = o3 at *
  generalize lim6 ((v64 b + v64 c) % pN) = o4 at *
  generalize lim6 (v64 a * v64 b * v64 c % pN) = o5 at *
  generalize lim6 (v64 b * v64 c % pN) = o6 at *
  generalize lim6 ((v64 a * v64 b + v64 a * v64 c) % pN) = o7 at *
  generalize lim6 (v64 a * v64 c % pN) = o8 at *
  generalize lim6 (subM pN (v64 a) (v64 b)) = o9 at *
  generalize lim6 (v64 a % pN) = o10 at *
  generalize lim6 (subM pN 0 (v64 a)) = o11 at *
  refine Lwp.seq (Lwp.regI hT ?_)
  simp only [L10r0, go_sem, List.isEmpty_nil, isC, eq_self, reduceIte, Nat.reduceAdd, Nat.reduceMul, Nat.reduceSub, Nat.reduceLT, Nat.reduceLeDiff, Nat.reduceEqDiff, Nat.reduceDiv, Nat.reduceMod, Nat.reducePow, Nat.reduceBEq, Nat.reduceBNe, Int.reduceLT, Int.reduceLE, Int.reduceGT, Int.reduceGE, Int.reduceBEq, Int.reduceBNe, Int.reduceToNat, Int.reduceAdd, Int.reduceSub, Int.reduceMul, Int.reduceEq, Int.reduceNeg, reduceCtorEq, decide_true, decide_false, Bool.false_eq_true, ty3, ty4, ty5, ty9, ty22, ty23, ty24, ty38, ty40, ty43, ty27, ty28, ty74, ty75, ty52, eq24, pG, nG, fld0, fld2, hl, hl1, hl2]
  refine Lwp.seq (Lwp.regD hT hM ?_)
  simp only [L10r1, go_sem, List.isEmpty_nil, isC, eq_self, reduceIte, Nat.reduceAdd, Nat.reduceMul, Nat.reduceSub, Nat.reduceLT, Nat.reduceLeDiff, Nat.reduceEqDiff, Nat.reduceDiv, Nat.reduceMod, Nat.reducePow, Nat.reduceBEq, Nat.reduceBNe, Int.reduceLT, Int.reduceLE, Int.reduceGT, Int.reduceGE, Int.reduceBEq, Int.reduceBNe, Int.reduceToNat, Int.reduceAdd, Int.reduceSub, Int.reduceMul, Int.reduceEq, Int.reduceNeg, reduceCtorEq, decide_true, decide_false, Bool.false_eq_true, ty3, ty4, ty5, ty9, ty22, ty23, ty24, ty38, ty40, ty43, ty27, ty28, ty74, ty75, ty52, eq24, pG, nG, fld0, fld2, hl, hl1, hl2, a1, a2, m1, m2, l1, l2]
  refine Lwp.seq (Lwp.regD hT hM ?_)
  simp only [L10r2, go_sem, List.isEmpty_nil, isC, eq_self, reduceIte, Nat.reduceAdd, Nat.reduceMul, Nat.reduceSub, Nat.reduceLT, Nat.reduceLeDiff, Nat.reduceEqDiff, Nat.reduceDiv, Nat.reduceMod, Nat.reducePow, Nat.reduceBEq, Nat.reduceBNe, Int.reduceLT, Int.reduceLE, Int.reduceGT, Int.reduceGE, Int.reduceBEq, Int.reduceBNe, Int.reduceToNat, Int.reduceAdd, Int.reduceSub, Int.reduceMul, Int.reduceEq, Int.reduceNeg, reduceCtorEq, decide_true, decide_false, Bool.false_eq_true, ty3, ty4, ty5, ty9, ty22, ty23, ty24, ty38, ty40, ty43, ty27, ty28, ty74, ty75, ty52, eq24, pG, nG, fld0, fld2, hl, hl1, hl2, a1, b1, b2, b3, l1, l3, l4]
  refine Lwp.seq (Lwp.regD hT hM ?_)
  simp only [L10r3, go_sem, List.isEmpty_nil, isC, eq_self, reduceIte, Nat.reduceAdd, Nat.reduceMul, Nat.reduceSub, Nat.reduceLT, Nat.reduceLeDiff, Nat.reduceEqDiff, Nat.reduceDiv, Nat.reduceMod, Nat.reducePow, Nat.reduceBEq, Nat.reduceBNe, Int.reduceLT, Int.reduceLE, Int.reduceGT, Int.reduceGE, Int.reduceBEq, Int.reduceBNe, Int.reduceToNat, Int.reduceAdd, Int.reduceSub, Int.reduceMul, Int.reduceEq, Int.reduceNeg, reduceCtorEq, decide_true, decide_false, Bool.false_eq_true, ty3, ty4, ty5, ty9, ty22, ty23, ty24, ty38, ty40, ty43, ty27, ty28, ty74, ty75, ty52, eq24, pG, nG, fld0, fld2, hl, hl1, hl2, m1, c1, c2, c3, l2, l5, l6]
  refine Lwp.seq (Lwp.regD hT hM ?_)
  simp only [L10r4, go_sem, List.isEmpty_nil, isC, eq_self, reduceIte, Nat.reduceAdd, Nat.reduceMul, Nat.reduceSub, Nat.reduceLT, Nat.reduceLeDiff, Nat.reduceEqDiff, Nat.reduceDiv, Nat.reduceMod, Nat.reducePow, Nat.reduceBEq, Nat.reduceBNe, Int.reduceLT, Int.reduceLE, Int.reduceGT, Int.reduceGE, Int.reduceBEq, Int.reduceBNe, Int.reduceToNat, Int.reduceAdd, Int.reduceSub, Int.reduceMul, Int.reduceEq, Int.reduceNeg, reduceCtorEq, decide_true, decide_false, Bool.false_eq_true, ty3, ty4, ty5, ty9, ty22, ty23, ty24, ty38, ty40, ty43, ty27, ty28, ty74, ty75, ty52, eq24, pG, nG, fld0, fld2, hl, hl1, hl2, b2, d1, m1, d2, d3, l4, l7, l2, l8]
  refine Lwp.seq (Lwp.regD hT hM ?_)
  simp only [L10r5, go_sem, List.isEmpty_nil, isC, eq_self, reduceIte, Nat.reduceAdd, Nat.reduceMul, Nat.reduceSub, Nat.reduceLT, Nat.reduceLeDiff, Nat.reduceEqDiff, Nat.reduceDiv, Nat.reduceMod, Nat.reducePow, Nat.reduceBEq, Nat.reduceBNe, Int.reduceLT, Int.reduceLE, Int.reduceGT, Int.reduceGE, Int.reduceBEq, Int.reduceBNe, Int.reduceToNat, Int.reduceAdd, Int.reduceSub, Int.reduceMul, Int.reduceEq, Int.reduceNeg, reduceCtorEq, decide_true, decide_false, Bool.false_eq_true, ty3, ty4, ty5, ty9, ty22, ty23, ty24, ty38, ty40, ty43, ty27, ty28, ty74, ty75, ty52, eq24, pG, nG, fld0, fld2, hl, hl1, hl2, e1, e2, e3, e4, e5, l9, l10, l11, rl]
  refine Lwp.seq (Lwp.regI hT ?_)
  simp only [L10r6, go_sem, List.isEmpty_nil, isC, eq_self, reduceIte, Nat.reduceAdd, Nat.reduceMul, Nat.reduceSub, Nat.reduceLT, Nat.reduceLeDiff, Nat.reduceEqDiff, Nat.reduceDiv, Nat.reduceMod, Nat.reducePow, Nat.reduceBEq, Nat.reduceBNe, Int.reduceLT, Int.reduceLE, Int.reduceGT, Int.reduceGE, Int.reduceBEq, Int.reduceBNe, Int.reduceToNat, Int.reduceAdd, Int.reduceSub, Int.reduceMul, Int.reduceEq, Int.reduceNeg, reduceCtorEq, decide_true, decide_false, Bool.false_eq_true, ty3, ty4, ty5, ty9, ty22, ty23, ty24, ty38, ty40, ty43, ty27, ty28, ty74, ty75, ty52, eq24, pG, nG, fld0, fld2, f0]
  refine Lwp.ret (post_val (v := .bool true) ?_ ?_)
  · simp only [go_sem, List.isEmpty_nil, isC, eq_self, reduceIte, Nat.reduceAdd, Nat.reduceMul, Nat.reduceSub, Nat.reduceLT, Nat.reduceLeDiff, Nat.reduceEqDiff, Nat.reduceDiv, Nat.reduceMod, Nat.reducePow, Nat.reduceBEq, Nat.reduceBNe, Int.reduceLT, Int.reduceLE, Int.reduceGT, Int.reduceGE, Int.reduceBEq, Int.reduceBNe, Int.reduceToNat, Int.reduceAdd, Int.reduceSub, Int.reduceMul, Int.reduceEq, Int.reduceNeg, reduceCtorEq, decide_true, decide_false, Bool.false_eq_true]
  · simp only [go_sem, List.isEmpty_nil, isC, eq_self, reduceIte, Nat.reduceAdd, Nat.reduceMul, Nat.reduceSub, Nat.reduceLT, Nat.reduceLeDiff, Nat.reduceEqDiff, Nat.reduceDiv, Nat.reduceMod, Nat.reducePow, Nat.reduceBEq, Nat.reduceBNe, Int.reduceLT, Int.reduceLE, Int.reduceGT, Int.reduceGE, Int.reduceBEq, Int.reduceBNe, Int.reduceToNat, Int.reduceAdd, Int.reduceSub, Int.reduceMul, Int.reduceEq, Int.reduceNeg, reduceCtorEq, decide_true, decide_false, Bool.false_eq_true]
end Eng
