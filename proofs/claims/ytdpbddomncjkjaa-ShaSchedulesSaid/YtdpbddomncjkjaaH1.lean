/- Contracts of the program's functions, and laws over them. There is no further condition. -/
import Derived.Test.YtdpbddomncjkjaaBB
import Derived.Test.YtdpbddomncjkjaaBV
import Derived.Test.YtdpbddomncjkjaaND
set_option linter.unusedVariables false
set_option linter.unusedSimpArgs false
set_option exponentiation.threshold 2000
namespace Eng
open Go Go.Proofs
set_option linter.unusedSimpArgs false
set_option linter.unusedVariables false
-- TY: ty3, ty4, ty5, ty9, ty27, ty29, ty30, ty76, eq30

/-- Rotated to the right. -/
def rorI (x : Int) (n : Nat) : Int := orZ .u64 (shrZ .u64 x n) (shlZ .u64 x (64 - n))
theorem rot_tbl : ∀ n : Nat, n < 64 → 0 < n → andZ .u64 (IntKind.u64.wrap (-(n : Int))) 63 = 64 - (n : Int) := by decide +kernel
theorem orZ_comm (k : IntKind) (x y : Int) : orZ k x y = orZ k y x := by unfold orZ; rw [BitVec.or_comm]

noncomputable def S58 : List AV → Option Ret := nz (sumOf (fun p : Int × Int => match p with | (x, m) => (-64 < m) ∧ (m < 0)) (fun p : Int × Int => match p with | (x, m) => [.int .u64 x, .int .i64 m]) (fun p : Int × Int => match p with | (x, m) => ⟨.int .u64 (rorI x (-m).toNat), none⟩))
theorem S58_eq (x : Int) (m : Int) (h0 : -64 < m) (h1 : m < 0) : S58 [.int .u64 x, .int .i64 m] = some ⟨.int .u64 (rorI x (-m).toNat), none⟩ :=
  sumOf_eq (dom := (fun p : Int × Int => match p with | (x, m) => (-64 < m) ∧ (m < 0))) (enc := (fun p : Int × Int => match p with | (x, m) => [.int .u64 x, .int .i64 m])) (out := (fun p : Int × Int => match p with | (x, m) => ⟨.int .u64 (rorI x (-m).toNat), none⟩)) (x, m) ⟨h0, h1⟩ (fun y _ e => by
    obtain ⟨y0, y1⟩ := y
    simp only [List.cons.injEq, AV.agg.injEq, AV.int.injEq, AV.slc.injEq, AV.bool.injEq, AV.str.injEq, ints_injEq, dig_injEq,  Int.ofNat_inj, BitVec.toNat_inj, true_and, and_true] at e
    first | with_reducible rfl | simp only [e] | rfl)
theorem S58_inv {args : List AV} {r : Ret} (h : sumOf (fun p : Int × Int => match p with | (x, m) => (-64 < m) ∧ (m < 0)) (fun p : Int × Int => match p with | (x, m) => [.int .u64 x, .int .i64 m]) (fun p : Int × Int => match p with | (x, m) => ⟨.int .u64 (rorI x (-m).toNat), none⟩) args = some r) : ∃ (x : Int) (m : Int), ((-64 < m) ∧ (m < 0)) ∧ args = [.int .u64 x, .int .i64 m] ∧ r = ⟨.int .u64 (rorI x (-m).toNat), none⟩ := by
  obtain ⟨x, h1, h2, h3⟩ := sumOf_inv h
  obtain ⟨x, m⟩ := x
  exact ⟨x, m, h1, h2.symm, h3⟩


set_option maxRecDepth 100000 in
theorem snd58 : SndE Try.prog NoG 58 S58 := by
  refine snd_nz (snd_by [] [] Try.func58 (by kernel_rfl) lite58 nt58 rs58 trivial trivial (fun hT args r h => ?_))
  obtain ⟨x, m, ⟨hd0, hd1⟩, rfl, rfl⟩ := S58_inv h
  clear h
  have hM := hM0
  refine ⟨Nat.le_of_ble_eq_true rfl, fun F => ?_⟩
  unfold L58
  obtain ⟨n, rfl⟩ : ∃ n : Nat, m = -(n : Int) := ⟨(-m).toNat, by omega⟩
  have h1 := rot_tbl n (by omega) (by omega)
  have h2 : ¬ (64 - (n : Int)) < 0 := by omega
  have h3 : IntKind.u64.wrap (64 - (64 - (n : Int))) = n := by rw [wrap_u64 (by omega) (by omega)]; omega
  have h4 : ¬ (n : Int) < 0 := by omega
  have h5 : (-(-(n : Int))).toNat = n := by omega
  have h6 : orZ .u64 (shlZ .u64 x (64 - n)) (shrZ .u64 x n) = rorI x n := orZ_comm _ _ _
  refine Lwp.seq (Lwp.regI hT ?_)
  simp only [L58r0, go_sem, eq_self, reduceIte, Nat.reduceAdd, Nat.reduceMul, Nat.reduceSub, Nat.reduceLT, Nat.reduceLeDiff, Nat.reduceEqDiff, Nat.reduceDiv, Nat.reduceMod, Nat.reducePow, Nat.reduceBEq, Nat.reduceBNe, Int.reduceLT, Int.reduceLE, Int.reduceGT, Int.reduceGE, Int.reduceBEq, Int.reduceBNe, Int.reduceToNat, Int.reduceAdd, Int.reduceSub, Int.reduceMul, Int.reduceEq, Int.reduceNeg, reduceCtorEq, decide_true, decide_false, Bool.false_eq_true, ty3, ty4, ty5, ty9, ty27, ty29, ty30, ty76, eq30]
  refine Lwp.seq (Lwp.regI hT ?_)
  simp only [L58r1, go_sem, eq_self, reduceIte, Nat.reduceAdd, Nat.reduceMul, Nat.reduceSub, Nat.reduceLT, Nat.reduceLeDiff, Nat.reduceEqDiff, Nat.reduceDiv, Nat.reduceMod, Nat.reducePow, Nat.reduceBEq, Nat.reduceBNe, Int.reduceLT, Int.reduceLE, Int.reduceGT, Int.reduceGE, Int.reduceBEq, Int.reduceBNe, Int.reduceToNat, Int.reduceAdd, Int.reduceSub, Int.reduceMul, Int.reduceEq, Int.reduceNeg, reduceCtorEq, decide_true, decide_false, Bool.false_eq_true, ty3, ty4, ty5, ty9, ty27, ty29, ty30, ty76, eq30, h1]
  refine Lwp.seq (Lwp.regI hT ?_)
  simp only [L58r2, go_sem, eq_self, reduceIte, Nat.reduceAdd, Nat.reduceMul, Nat.reduceSub, Nat.reduceLT, Nat.reduceLeDiff, Nat.reduceEqDiff, Nat.reduceDiv, Nat.reduceMod, Nat.reducePow, Nat.reduceBEq, Nat.reduceBNe, Int.reduceLT, Int.reduceLE, Int.reduceGT, Int.reduceGE, Int.reduceBEq, Int.reduceBNe, Int.reduceToNat, Int.reduceAdd, Int.reduceSub, Int.reduceMul, Int.reduceEq, Int.reduceNeg, reduceCtorEq, decide_true, decide_false, Bool.false_eq_true, ty3, ty4, ty5, ty9, ty27, ty29, ty30, ty76, eq30, h2, h3, h4, h6]
  refine Lwp.ret (post_val (v := .int .u64 (rorI x n)) ?_ ?_)
  · simp only [go_sem, eq_self, reduceIte, Nat.reduceAdd, Nat.reduceMul, Nat.reduceSub, Nat.reduceLT, Nat.reduceLeDiff, Nat.reduceEqDiff, Nat.reduceDiv, Nat.reduceMod, Nat.reducePow, Nat.reduceBEq, Nat.reduceBNe, Int.reduceLT, Int.reduceLE, Int.reduceGT, Int.reduceGE, Int.reduceBEq, Int.reduceBNe, Int.reduceToNat, Int.reduceAdd, Int.reduceSub, Int.reduceMul, Int.reduceEq, Int.reduceNeg, reduceCtorEq, decide_true, decide_false, Bool.false_eq_true]
  · simp only [go_sem, eq_self, reduceIte, Nat.reduceAdd, Nat.reduceMul, Nat.reduceSub, Nat.reduceLT, Nat.reduceLeDiff, Nat.reduceEqDiff, Nat.reduceDiv, Nat.reduceMod, Nat.reducePow, Nat.reduceBEq, Nat.reduceBNe, Int.reduceLT, Int.reduceLE, Int.reduceGT, Int.reduceGE, Int.reduceBEq, Int.reduceBNe, Int.reduceToNat, Int.reduceAdd, Int.reduceSub, Int.reduceMul, Int.reduceEq, Int.reduceNeg, reduceCtorEq, decide_true, decide_false, Bool.false_eq_true, h5]

noncomputable def S59 : List AV → Option Ret := nz (sumOf (fun p : Int × Nat => match p with | (x, n) => (n < 64)) (fun p : Int × Nat => match p with | (x, n) => [.int .u64 x, .int .i64 n]) (fun p : Int × Nat => match p with | (x, n) => ⟨.int .u64 (rorI x n), none⟩))
theorem S59_eq (x : Int) (n : Nat) (h0 : n < 64) : S59 [.int .u64 x, .int .i64 n] = some ⟨.int .u64 (rorI x n), none⟩ :=
  sumOf_eq (dom := (fun p : Int × Nat => match p with | (x, n) => (n < 64))) (enc := (fun p : Int × Nat => match p with | (x, n) => [.int .u64 x, .int .i64 n])) (out := (fun p : Int × Nat => match p with | (x, n) => ⟨.int .u64 (rorI x n), none⟩)) (x, n) h0 (fun y _ e => by
    obtain ⟨y0, y1⟩ := y
    simp only [List.cons.injEq, AV.agg.injEq, AV.int.injEq, AV.slc.injEq, AV.bool.injEq, AV.str.injEq, ints_injEq, dig_injEq,  Int.ofNat_inj, BitVec.toNat_inj, true_and, and_true] at e
    first | with_reducible rfl | simp only [e] | rfl)
theorem S59_inv {args : List AV} {r : Ret} (h : sumOf (fun p : Int × Nat => match p with | (x, n) => (n < 64)) (fun p : Int × Nat => match p with | (x, n) => [.int .u64 x, .int .i64 n]) (fun p : Int × Nat => match p with | (x, n) => ⟨.int .u64 (rorI x n), none⟩) args = some r) : ∃ (x : Int) (n : Nat), ((n < 64)) ∧ args = [.int .u64 x, .int .i64 n] ∧ r = ⟨.int .u64 (rorI x n), none⟩ := by
  obtain ⟨x, h1, h2, h3⟩ := sumOf_inv h
  obtain ⟨x, n⟩ := x
  exact ⟨x, n, h1, h2.symm, h3⟩


set_option maxRecDepth 100000 in
theorem snd59 : SndE Try.prog NoG 59 S59 := by
  refine snd_nz (snd_by [] [] Try.func59 (by kernel_rfl) lite59 nt59 rs59 trivial trivial (fun hT args r h => ?_))
  obtain ⟨x, n, hd0, rfl, rfl⟩ := S59_inv h
  clear h
  have hM := hM0
  refine ⟨Nat.le_of_ble_eq_true rfl, fun F => ?_⟩
  unfold L59
  have h2 : ¬ (64 - (n : Int)) < 0 := by omega
  have h3 : IntKind.i64.wrap (64 - (n : Int)) = 64 - n := by rw [wrap_i64 (by omega) (by omega)]
  have h4 : ¬ (n : Int) < 0 := by omega
  refine Lwp.seq (Lwp.regI hT ?_)
  simp only [L59r0, go_sem, eq_self, reduceIte, Nat.reduceAdd, Nat.reduceMul, Nat.reduceSub, Nat.reduceLT, Nat.reduceLeDiff, Nat.reduceEqDiff, Nat.reduceDiv, Nat.reduceMod, Nat.reducePow, Nat.reduceBEq, Nat.reduceBNe, Int.reduceLT, Int.reduceLE, Int.reduceGT, Int.reduceGE, Int.reduceBEq, Int.reduceBNe, Int.reduceToNat, Int.reduceAdd, Int.reduceSub, Int.reduceMul, Int.reduceEq, Int.reduceNeg, reduceCtorEq, decide_true, decide_false, Bool.false_eq_true, ty3, ty4, ty5, ty9, ty27, ty29, ty30, ty76, eq30]
  refine Lwp.seq (Lwp.regD hT hM ?_)
  simp only [L59r1, go_sem, eq_self, reduceIte, Nat.reduceAdd, Nat.reduceMul, Nat.reduceSub, Nat.reduceLT, Nat.reduceLeDiff, Nat.reduceEqDiff, Nat.reduceDiv, Nat.reduceMod, Nat.reducePow, Nat.reduceBEq, Nat.reduceBNe, Int.reduceLT, Int.reduceLE, Int.reduceGT, Int.reduceGE, Int.reduceBEq, Int.reduceBNe, Int.reduceToNat, Int.reduceAdd, Int.reduceSub, Int.reduceMul, Int.reduceEq, Int.reduceNeg, reduceCtorEq, decide_true, decide_false, Bool.false_eq_true, ty3, ty4, ty5, ty9, ty27, ty29, ty30, ty76, eq30, h2, h3, h4]
  refine Lwp.ret (post_val (v := .int .u64 (rorI x n)) ?_ ?_)
  · simp only [go_sem, eq_self, reduceIte, Nat.reduceAdd, Nat.reduceMul, Nat.reduceSub, Nat.reduceLT, Nat.reduceLeDiff, Nat.reduceEqDiff, Nat.reduceDiv, Nat.reduceMod, Nat.reducePow, Nat.reduceBEq, Nat.reduceBNe, Int.reduceLT, Int.reduceLE, Int.reduceGT, Int.reduceGE, Int.reduceBEq, Int.reduceBNe, Int.reduceToNat, Int.reduceAdd, Int.reduceSub, Int.reduceMul, Int.reduceEq, Int.reduceNeg, reduceCtorEq, decide_true, decide_false, Bool.false_eq_true, rorI]
  · simp only [go_sem, eq_self, reduceIte, Nat.reduceAdd, Nat.reduceMul, Nat.reduceSub, Nat.reduceLT, Nat.reduceLeDiff, Nat.reduceEqDiff, Nat.reduceDiv, Nat.reduceMod, Nat.reducePow, Nat.reduceBEq, Nat.reduceBNe, Int.reduceLT, Int.reduceLE, Int.reduceGT, Int.reduceGE, Int.reduceBEq, Int.reduceBNe, Int.reduceToNat, Int.reduceAdd, Int.reduceSub, Int.reduceMul, Int.reduceEq, Int.reduceNeg, reduceCtorEq, decide_true, decide_false, Bool.false_eq_true]

def w64 (x : Int) : Int := IntKind.u64.wrap x
def oneR (v : List Int) (k w : Int) : Int := w64 (w64 (w64 (w64 (v.getD 7 0 + xorZ .u64 (xorZ .u64 (rorI (v.getD 4 0) 14) (rorI (v.getD 4 0) 18)) (rorI (v.getD 4 0) 41)) + xorZ .u64 (andZ .u64 (v.getD 4 0) (v.getD 5 0)) (andZ .u64 (xorZ .u64 18446744073709551615 (v.getD 4 0)) (v.getD 6 0))) + k) + w)
def twoR (v : List Int) : Int := w64 (xorZ .u64 (xorZ .u64 (rorI (v.getD 0 0) 28) (rorI (v.getD 0 0) 34)) (rorI (v.getD 0 0) 39) + xorZ .u64 (xorZ .u64 (andZ .u64 (v.getD 0 0) (v.getD 1 0)) (andZ .u64 (v.getD 0 0) (v.getD 2 0))) (andZ .u64 (v.getD 1 0) (v.getD 2 0)))
/-- A round. -/
def roundR (v : List Int) (k w : Int) : List Int := [w64 (oneR v k w + twoR v), v.getD 0 0, v.getD 1 0, v.getD 2 0, w64 (v.getD 3 0 + oneR v k w), v.getD 4 0, v.getD 5 0, v.getD 6 0]
theorem roundR_len (v : List Int) (k w : Int) : (roundR v k w).length = 8 := rfl
theorem set8 {α : Type} (a b c d e f g h z : α) : ((((((((List.replicate 8 z).set 0 a).set 1 b).set 2 c).set 3 d).set 4 e).set 5 f).set 6 g).set 7 h = [a, b, c, d, e, f, g, h] := rfl
theorem max_u64 : IntKind.u64.max = 18446744073709551615 := by decide

noncomputable def S28 : List AV → Option Ret := nz (sumOf (fun p : List Int × Int × Int => match p with | (v, k, w) => (W8 v)) (fun p : List Int × Int × Int => match p with | (v, k, w) => [.agg (ints .u64 v), .int .u64 k, .int .u64 w]) (fun p : List Int × Int × Int => match p with | (v, k, w) => ⟨.agg (ints .u64 (roundR v k w)), none⟩))
theorem S28_eq (v : List Int) (k : Int) (w : Int) (h0 : W8 v) : S28 [.agg (ints .u64 v), .int .u64 k, .int .u64 w] = some ⟨.agg (ints .u64 (roundR v k w)), none⟩ :=
  sumOf_eq (dom := (fun p : List Int × Int × Int => match p with | (v, k, w) => (W8 v))) (enc := (fun p : List Int × Int × Int => match p with | (v, k, w) => [.agg (ints .u64 v), .int .u64 k, .int .u64 w])) (out := (fun p : List Int × Int × Int => match p with | (v, k, w) => ⟨.agg (ints .u64 (roundR v k w)), none⟩)) (v, k, w) h0 (fun y _ e => by
    obtain ⟨y0, y1, y2⟩ := y
    simp only [List.cons.injEq, AV.agg.injEq, AV.int.injEq, AV.slc.injEq, AV.bool.injEq, AV.str.injEq, ints_injEq, dig_injEq,  Int.ofNat_inj, BitVec.toNat_inj, true_and, and_true] at e
    first | with_reducible rfl | simp only [e] | rfl)
theorem S28_inv {args : List AV} {r : Ret} (h : sumOf (fun p : List Int × Int × Int => match p with | (v, k, w) => (W8 v)) (fun p : List Int × Int × Int => match p with | (v, k, w) => [.agg (ints .u64 v), .int .u64 k, .int .u64 w]) (fun p : List Int × Int × Int => match p with | (v, k, w) => ⟨.agg (ints .u64 (roundR v k w)), none⟩) args = some r) : ∃ (v : List Int) (k : Int) (w : Int), ((W8 v)) ∧ args = [.agg (ints .u64 v), .int .u64 k, .int .u64 w] ∧ r = ⟨.agg (ints .u64 (roundR v k w)), none⟩ := by
  obtain ⟨x, h1, h2, h3⟩ := sumOf_inv h
  obtain ⟨v, k, w⟩ := x
  exact ⟨v, k, w, h1, h2.symm, h3⟩


set_option maxRecDepth 100000 in
theorem snd28 : SndE Try.prog NoG 28 S28 := by
  refine snd_nz (snd_by [(58, S58)] [] Try.func28 (by kernel_rfl) lite28 nt28 rs28 ⟨snd58, trivial⟩ trivial (fun hT args r h => ?_))
  obtain ⟨v, k, w, hd0, rfl, rfl⟩ := S28_inv h
  clear h
  have hM := hM0
  refine ⟨Nat.le_of_ble_eq_true rfl, fun F => ?_⟩
  unfold L28
  have hl := hd0.1
  have f (x : Int) : S58 [.int .u64 x, .int .i64 (-14)] = some ⟨.int .u64 (rorI x 14), none⟩ := S58_eq x (-14) (by decide) (by decide)
  have f2 (x : Int) : S58 [.int .u64 x, .int .i64 (-18)] = some ⟨.int .u64 (rorI x 18), none⟩ := S58_eq x (-18) (by decide) (by decide)
  have f3 (x : Int) : S58 [.int .u64 x, .int .i64 (-41)] = some ⟨.int .u64 (rorI x 41), none⟩ := S58_eq x (-41) (by decide) (by decide)
  have f4 (x : Int) : S58 [.int .u64 x, .int .i64 (-28)] = some ⟨.int .u64 (rorI x 28), none⟩ := S58_eq x (-28) (by decide) (by decide)
  have f5 (x : Int) : S58 [.int .u64 x, .int .i64 (-34)] = some ⟨.int .u64 (rorI x 34), none⟩ := S58_eq x (-34) (by decide) (by decide)
  have f6 (x : Int) : S58 [.int .u64 x, .int .i64 (-39)] = some ⟨.int .u64 (rorI x 39), none⟩ := S58_eq x (-39) (by decide) (by decide)
  have hs : IntKind.u64.signed = false := rfl
  refine Lwp.seq (Lwp.regI hT ?_)
  simp only [L28r0, go_sem, eq_self, reduceIte, Nat.reduceAdd, Nat.reduceMul, Nat.reduceSub, Nat.reduceLT, Nat.reduceLeDiff, Nat.reduceEqDiff, Nat.reduceDiv, Nat.reduceMod, Nat.reducePow, Nat.reduceBEq, Nat.reduceBNe, Int.reduceLT, Int.reduceLE, Int.reduceGT, Int.reduceGE, Int.reduceBEq, Int.reduceBNe, Int.reduceToNat, Int.reduceAdd, Int.reduceSub, Int.reduceMul, Int.reduceEq, Int.reduceNeg, reduceCtorEq, decide_true, decide_false, Bool.false_eq_true, ty3, ty4, ty5, ty9, ty27, ty29, ty30, ty76, eq30]
  refine Lwp.seq (Lwp.regD hT hM ?_)
  simp only [L28r1, go_sem, eq_self, reduceIte, Nat.reduceAdd, Nat.reduceMul, Nat.reduceSub, Nat.reduceLT, Nat.reduceLeDiff, Nat.reduceEqDiff, Nat.reduceDiv, Nat.reduceMod, Nat.reducePow, Nat.reduceBEq, Nat.reduceBNe, Int.reduceLT, Int.reduceLE, Int.reduceGT, Int.reduceGE, Int.reduceBEq, Int.reduceBNe, Int.reduceToNat, Int.reduceAdd, Int.reduceSub, Int.reduceMul, Int.reduceEq, Int.reduceNeg, reduceCtorEq, decide_true, decide_false, Bool.false_eq_true, ty3, ty4, ty5, ty9, ty27, ty29, ty30, ty76, eq30, hl]
  refine Lwp.seq (Lwp.regD hT hM ?_)
  simp only [L28r2, go_sem, eq_self, reduceIte, Nat.reduceAdd, Nat.reduceMul, Nat.reduceSub, Nat.reduceLT, Nat.reduceLeDiff, Nat.reduceEqDiff, Nat.reduceDiv, Nat.reduceMod, Nat.reducePow, Nat.reduceBEq, Nat.reduceBNe, Int.reduceLT, Int.reduceLE, Int.reduceGT, Int.reduceGE, Int.reduceBEq, Int.reduceBNe, Int.reduceToNat, Int.reduceAdd, Int.reduceSub, Int.reduceMul, Int.reduceEq, Int.reduceNeg, reduceCtorEq, decide_true, decide_false, Bool.false_eq_true, ty3, ty4, ty5, ty9, ty27, ty29, ty30, ty76, eq30, hl, f, f2, f3, hs, max_u64]
  refine Lwp.seq (Lwp.regD hT hM ?_)
  simp only [L28r3, go_sem, eq_self, reduceIte, Nat.reduceAdd, Nat.reduceMul, Nat.reduceSub, Nat.reduceLT, Nat.reduceLeDiff, Nat.reduceEqDiff, Nat.reduceDiv, Nat.reduceMod, Nat.reducePow, Nat.reduceBEq, Nat.reduceBNe, Int.reduceLT, Int.reduceLE, Int.reduceGT, Int.reduceGE, Int.reduceBEq, Int.reduceBNe, Int.reduceToNat, Int.reduceAdd, Int.reduceSub, Int.reduceMul, Int.reduceEq, Int.reduceNeg, reduceCtorEq, decide_true, decide_false, Bool.false_eq_true, ty3, ty4, ty5, ty9, ty27, ty29, ty30, ty76, eq30, hl, f4, f5, f6]
  refine Lwp.seq (Lwp.regI hT ?_)
  simp only [L28r4, go_sem, eq_self, reduceIte, Nat.reduceAdd, Nat.reduceMul, Nat.reduceSub, Nat.reduceLT, Nat.reduceLeDiff, Nat.reduceEqDiff, Nat.reduceDiv, Nat.reduceMod, Nat.reducePow, Nat.reduceBEq, Nat.reduceBNe, Int.reduceLT, Int.reduceLE, Int.reduceGT, Int.reduceGE, Int.reduceBEq, Int.reduceBNe, Int.reduceToNat, Int.reduceAdd, Int.reduceSub, Int.reduceMul, Int.reduceEq, Int.reduceNeg, reduceCtorEq, decide_true, decide_false, Bool.false_eq_true, ty3, ty4, ty5, ty9, ty27, ty29, ty30, ty76, eq30, hl]
  refine Lwp.ret (post_val (v := .agg (ints .u64 (roundR v k w))) ?_ ?_)
  · simp only [go_sem, eq_self, reduceIte, Nat.reduceAdd, Nat.reduceMul, Nat.reduceSub, Nat.reduceLT, Nat.reduceLeDiff, Nat.reduceEqDiff, Nat.reduceDiv, Nat.reduceMod, Nat.reducePow, Nat.reduceBEq, Nat.reduceBNe, Int.reduceLT, Int.reduceLE, Int.reduceGT, Int.reduceGE, Int.reduceBEq, Int.reduceBNe, Int.reduceToNat, Int.reduceAdd, Int.reduceSub, Int.reduceMul, Int.reduceEq, Int.reduceNeg, reduceCtorEq, decide_true, decide_false, Bool.false_eq_true, ty30, set8, roundR, oneR, twoR, w64, ints_cons, ints_nil]
  · simp only [go_sem, eq_self, reduceIte, Nat.reduceAdd, Nat.reduceMul, Nat.reduceSub, Nat.reduceLT, Nat.reduceLeDiff, Nat.reduceEqDiff, Nat.reduceDiv, Nat.reduceMod, Nat.reducePow, Nat.reduceBEq, Nat.reduceBNe, Int.reduceLT, Int.reduceLE, Int.reduceGT, Int.reduceGE, Int.reduceBEq, Int.reduceBNe, Int.reduceToNat, Int.reduceAdd, Int.reduceSub, Int.reduceMul, Int.reduceEq, Int.reduceNeg, reduceCtorEq, decide_true, decide_false, Bool.false_eq_true]

noncomputable def S29 : List AV → Option Ret := nz (sumOf (fun p : List Int × Int × Int => match p with | (v, k, w) => (W8 v)) (fun p : List Int × Int × Int => match p with | (v, k, w) => [.agg (ints .u64 v), .int .u64 k, .int .u64 w]) (fun p : List Int × Int × Int => match p with | (v, k, w) => ⟨.agg (ints .u64 (roundR v k w)), none⟩))
theorem S29_eq (v : List Int) (k : Int) (w : Int) (h0 : W8 v) : S29 [.agg (ints .u64 v), .int .u64 k, .int .u64 w] = some ⟨.agg (ints .u64 (roundR v k w)), none⟩ :=
  sumOf_eq (dom := (fun p : List Int × Int × Int => match p with | (v, k, w) => (W8 v))) (enc := (fun p : List Int × Int × Int => match p with | (v, k, w) => [.agg (ints .u64 v), .int .u64 k, .int .u64 w])) (out := (fun p : List Int × Int × Int => match p with | (v, k, w) => ⟨.agg (ints .u64 (roundR v k w)), none⟩)) (v, k, w) h0 (fun y _ e => by
    obtain ⟨y0, y1, y2⟩ := y
    simp only [List.cons.injEq, AV.agg.injEq, AV.int.injEq, AV.slc.injEq, AV.bool.injEq, AV.str.injEq, ints_injEq, dig_injEq,  Int.ofNat_inj, BitVec.toNat_inj, true_and, and_true] at e
    first | with_reducible rfl | simp only [e] | rfl)
theorem S29_inv {args : List AV} {r : Ret} (h : sumOf (fun p : List Int × Int × Int => match p with | (v, k, w) => (W8 v)) (fun p : List Int × Int × Int => match p with | (v, k, w) => [.agg (ints .u64 v), .int .u64 k, .int .u64 w]) (fun p : List Int × Int × Int => match p with | (v, k, w) => ⟨.agg (ints .u64 (roundR v k w)), none⟩) args = some r) : ∃ (v : List Int) (k : Int) (w : Int), ((W8 v)) ∧ args = [.agg (ints .u64 v), .int .u64 k, .int .u64 w] ∧ r = ⟨.agg (ints .u64 (roundR v k w)), none⟩ := by
  obtain ⟨x, h1, h2, h3⟩ := sumOf_inv h
  obtain ⟨v, k, w⟩ := x
  exact ⟨v, k, w, h1, h2.symm, h3⟩


set_option maxRecDepth 100000 in
theorem snd29 : SndE Try.prog NoG 29 S29 := by
  refine snd_nz (snd_by [(59, S59)] [] Try.func29 (by kernel_rfl) lite29 nt29 rs29 ⟨snd59, trivial⟩ trivial (fun hT args r h => ?_))
  obtain ⟨v, k, w, hd0, rfl, rfl⟩ := S29_inv h
  clear h
  have hM := hM0
  refine ⟨Nat.le_of_ble_eq_true rfl, fun F => ?_⟩
  unfold L29
  have hl := hd0.1
  have f (x : Int) : S59 [.int .u64 x, .int .i64 14] = some ⟨.int .u64 (rorI x 14), none⟩ := S59_eq x 14 (by decide)
  have f2 (x : Int) : S59 [.int .u64 x, .int .i64 18] = some ⟨.int .u64 (rorI x 18), none⟩ := S59_eq x 18 (by decide)
  have f3 (x : Int) : S59 [.int .u64 x, .int .i64 41] = some ⟨.int .u64 (rorI x 41), none⟩ := S59_eq x 41 (by decide)
  have f4 (x : Int) : S59 [.int .u64 x, .int .i64 28] = some ⟨.int .u64 (rorI x 28), none⟩ := S59_eq x 28 (by decide)
  have f5 (x : Int) : S59 [.int .u64 x, .int .i64 34] = some ⟨.int .u64 (rorI x 34), none⟩ := S59_eq x 34 (by decide)
  have f6 (x : Int) : S59 [.int .u64 x, .int .i64 39] = some ⟨.int .u64 (rorI x 39), none⟩ := S59_eq x 39 (by decide)
  have hs : IntKind.u64.signed = false := rfl
  refine Lwp.seq (Lwp.regI hT ?_)
  simp only [L29r0, go_sem, eq_self, reduceIte, Nat.reduceAdd, Nat.reduceMul, Nat.reduceSub, Nat.reduceLT, Nat.reduceLeDiff, Nat.reduceEqDiff, Nat.reduceDiv, Nat.reduceMod, Nat.reducePow, Nat.reduceBEq, Nat.reduceBNe, Int.reduceLT, Int.reduceLE, Int.reduceGT, Int.reduceGE, Int.reduceBEq, Int.reduceBNe, Int.reduceToNat, Int.reduceAdd, Int.reduceSub, Int.reduceMul, Int.reduceEq, Int.reduceNeg, reduceCtorEq, decide_true, decide_false, Bool.false_eq_true, ty3, ty4, ty5, ty9, ty27, ty29, ty30, ty76, eq30]
  refine Lwp.seq (Lwp.regI hT ?_)
  simp only [L29r1, go_sem, eq_self, reduceIte, Nat.reduceAdd, Nat.reduceMul, Nat.reduceSub, Nat.reduceLT, Nat.reduceLeDiff, Nat.reduceEqDiff, Nat.reduceDiv, Nat.reduceMod, Nat.reducePow, Nat.reduceBEq, Nat.reduceBNe, Int.reduceLT, Int.reduceLE, Int.reduceGT, Int.reduceGE, Int.reduceBEq, Int.reduceBNe, Int.reduceToNat, Int.reduceAdd, Int.reduceSub, Int.reduceMul, Int.reduceEq, Int.reduceNeg, reduceCtorEq, decide_true, decide_false, Bool.false_eq_true, ty3, ty4, ty5, ty9, ty27, ty29, ty30, ty76, eq30, hl]
  refine Lwp.seq (Lwp.regI hT ?_)
  simp only [L29r2, go_sem, eq_self, reduceIte, Nat.reduceAdd, Nat.reduceMul, Nat.reduceSub, Nat.reduceLT, Nat.reduceLeDiff, Nat.reduceEqDiff, Nat.reduceDiv, Nat.reduceMod, Nat.reducePow, Nat.reduceBEq, Nat.reduceBNe, Int.reduceLT, Int.reduceLE, Int.reduceGT, Int.reduceGE, Int.reduceBEq, Int.reduceBNe, Int.reduceToNat, Int.reduceAdd, Int.reduceSub, Int.reduceMul, Int.reduceEq, Int.reduceNeg, reduceCtorEq, decide_true, decide_false, Bool.false_eq_true, ty3, ty4, ty5, ty9, ty27, ty29, ty30, ty76, eq30, hl]
  refine Lwp.seq (Lwp.regD hT hM ?_)
  simp only [L29r3, go_sem, eq_self, reduceIte, Nat.reduceAdd, Nat.reduceMul, Nat.reduceSub, Nat.reduceLT, Nat.reduceLeDiff, Nat.reduceEqDiff, Nat.reduceDiv, Nat.reduceMod, Nat.reducePow, Nat.reduceBEq, Nat.reduceBNe, Int.reduceLT, Int.reduceLE, Int.reduceGT, Int.reduceGE, Int.reduceBEq, Int.reduceBNe, Int.reduceToNat, Int.reduceAdd, Int.reduceSub, Int.reduceMul, Int.reduceEq, Int.reduceNeg, reduceCtorEq, decide_true, decide_false, Bool.false_eq_true, ty3, ty4, ty5, ty9, ty27, ty29, ty30, ty76, eq30, hl, f, f2, f3, hs, max_u64]
  refine Lwp.seq (Lwp.regD hT hM ?_)
  simp only [L29r4, go_sem, eq_self, reduceIte, Nat.reduceAdd, Nat.reduceMul, Nat.reduceSub, Nat.reduceLT, Nat.reduceLeDiff, Nat.reduceEqDiff, Nat.reduceDiv, Nat.reduceMod, Nat.reducePow, Nat.reduceBEq, Nat.reduceBNe, Int.reduceLT, Int.reduceLE, Int.reduceGT, Int.reduceGE, Int.reduceBEq, Int.reduceBNe, Int.reduceToNat, Int.reduceAdd, Int.reduceSub, Int.reduceMul, Int.reduceEq, Int.reduceNeg, reduceCtorEq, decide_true, decide_false, Bool.false_eq_true, ty3, ty4, ty5, ty9, ty27, ty29, ty30, ty76, eq30, hl, f4, f5, f6]
  refine Lwp.seq (Lwp.regI hT ?_)
  simp only [L29r5, go_sem, eq_self, reduceIte, Nat.reduceAdd, Nat.reduceMul, Nat.reduceSub, Nat.reduceLT, Nat.reduceLeDiff, Nat.reduceEqDiff, Nat.reduceDiv, Nat.reduceMod, Nat.reducePow, Nat.reduceBEq, Nat.reduceBNe, Int.reduceLT, Int.reduceLE, Int.reduceGT, Int.reduceGE, Int.reduceBEq, Int.reduceBNe, Int.reduceToNat, Int.reduceAdd, Int.reduceSub, Int.reduceMul, Int.reduceEq, Int.reduceNeg, reduceCtorEq, decide_true, decide_false, Bool.false_eq_true, ty3, ty4, ty5, ty9, ty27, ty29, ty30, ty76, eq30, hl]
  refine Lwp.ret (post_val (v := .agg (ints .u64 (roundR v k w))) ?_ ?_)
  · simp only [go_sem, eq_self, reduceIte, Nat.reduceAdd, Nat.reduceMul, Nat.reduceSub, Nat.reduceLT, Nat.reduceLeDiff, Nat.reduceEqDiff, Nat.reduceDiv, Nat.reduceMod, Nat.reducePow, Nat.reduceBEq, Nat.reduceBNe, Int.reduceLT, Int.reduceLE, Int.reduceGT, Int.reduceGE, Int.reduceBEq, Int.reduceBNe, Int.reduceToNat, Int.reduceAdd, Int.reduceSub, Int.reduceMul, Int.reduceEq, Int.reduceNeg, reduceCtorEq, decide_true, decide_false, Bool.false_eq_true, ty30, set8, roundR, oneR, twoR, w64, ints_cons, ints_nil]
  · simp only [go_sem, eq_self, reduceIte, Nat.reduceAdd, Nat.reduceMul, Nat.reduceSub, Nat.reduceLT, Nat.reduceLeDiff, Nat.reduceEqDiff, Nat.reduceDiv, Nat.reduceMod, Nat.reducePow, Nat.reduceBEq, Nat.reduceBNe, Int.reduceLT, Int.reduceLE, Int.reduceGT, Int.reduceGE, Int.reduceBEq, Int.reduceBNe, Int.reduceToNat, Int.reduceAdd, Int.reduceSub, Int.reduceMul, Int.reduceEq, Int.reduceNeg, reduceCtorEq, decide_true, decide_false, Bool.false_eq_true]

noncomputable def S6 : List AV → Option Ret := nz (sumOf (fun p : List Int × Int × Int => match p with | (v, k, w) => (W8 v)) (fun p : List Int × Int × Int => match p with | (v, k, w) => [.agg (ints .u64 v), .int .u64 k, .int .u64 w]) (fun p : List Int × Int × Int => match p with | (v, k, w) => ⟨.bool true, none⟩))
theorem S6_eq (v : List Int) (k : Int) (w : Int) (h0 : W8 v) : S6 [.agg (ints .u64 v), .int .u64 k, .int .u64 w] = some ⟨.bool true, none⟩ :=
  sumOf_eq (dom := (fun p : List Int × Int × Int => match p with | (v, k, w) => (W8 v))) (enc := (fun p : List Int × Int × Int => match p with | (v, k, w) => [.agg (ints .u64 v), .int .u64 k, .int .u64 w])) (out := (fun p : List Int × Int × Int => match p with | (v, k, w) => ⟨.bool true, none⟩)) (v, k, w) h0 (fun y _ e => by
    obtain ⟨y0, y1, y2⟩ := y
    simp only [List.cons.injEq, AV.agg.injEq, AV.int.injEq, AV.slc.injEq, AV.bool.injEq, AV.str.injEq, ints_injEq, dig_injEq,  Int.ofNat_inj, BitVec.toNat_inj, true_and, and_true] at e
    first | with_reducible rfl | simp only [e] | rfl)
theorem S6_inv {args : List AV} {r : Ret} (h : sumOf (fun p : List Int × Int × Int => match p with | (v, k, w) => (W8 v)) (fun p : List Int × Int × Int => match p with | (v, k, w) => [.agg (ints .u64 v), .int .u64 k, .int .u64 w]) (fun p : List Int × Int × Int => match p with | (v, k, w) => ⟨.bool true, none⟩) args = some r) : ∃ (v : List Int) (k : Int) (w : Int), ((W8 v)) ∧ args = [.agg (ints .u64 v), .int .u64 k, .int .u64 w] ∧ r = ⟨.bool true, none⟩ := by
  obtain ⟨x, h1, h2, h3⟩ := sumOf_inv h
  obtain ⟨v, k, w⟩ := x
  exact ⟨v, k, w, h1, h2.symm, h3⟩


theorem zero_W8 : W8 (List.replicate 8 0) := ⟨rfl, by decide⟩
theorem zero_round : (roundR (List.replicate 8 0) 1 0).getD 0 0 = 1 := by decide +kernel
theorem zero_ints8 : ints .u64 (List.replicate 8 0) = [.int .u64 0, .int .u64 0, .int .u64 0, .int .u64 0, .int .u64 0, .int .u64 0, .int .u64 0, .int .u64 0] := rfl

set_option maxRecDepth 100000 in
theorem snd6 : SndE Try.prog NoG 6 S6 := by
  refine snd_nz (snd_by [(28, S28), (29, S29)] [] Try.func6 (by kernel_rfl) lite6 nt6 rs6 ⟨snd28, snd29, trivial⟩ trivial (fun hT args r h => ?_))
  obtain ⟨v, k, w, hd0, rfl, rfl⟩ := S6_inv h
  clear h
  have hM := hM0
  refine ⟨Nat.le_of_ble_eq_true rfl, fun F => ?_⟩
  unfold L6
  have hl := hd0.1
  have f1 := S28_eq v k w hd0
  have f2 := S29_eq v k w hd0
  have f3 := S28_eq (List.replicate 8 0) 1 0 zero_W8
  have g1 := roundR_len v k w
  have g2 := roundR_len (List.replicate 8 0) 1 0
  have g3 := zero_round
  generalize roundR (List.replicate 8 0) 1 0 = z at *
  generalize roundR v k w = r at *
  refine Lwp.seq (Lwp.regI hT ?_)
  simp only [L6r0, go_sem, eq_self, reduceIte, Nat.reduceAdd, Nat.reduceMul, Nat.reduceSub, Nat.reduceLT, Nat.reduceLeDiff, Nat.reduceEqDiff, Nat.reduceDiv, Nat.reduceMod, Nat.reducePow, Nat.reduceBEq, Nat.reduceBNe, Int.reduceLT, Int.reduceLE, Int.reduceGT, Int.reduceGE, Int.reduceBEq, Int.reduceBNe, Int.reduceToNat, Int.reduceAdd, Int.reduceSub, Int.reduceMul, Int.reduceEq, Int.reduceNeg, reduceCtorEq, decide_true, decide_false, Bool.false_eq_true, ty3, ty4, ty5, ty9, ty27, ty29, ty30, ty76, eq30]
  refine Lwp.seq (Lwp.regD hT hM ?_)
  simp only [L6r1, go_sem, eq_self, reduceIte, Nat.reduceAdd, Nat.reduceMul, Nat.reduceSub, Nat.reduceLT, Nat.reduceLeDiff, Nat.reduceEqDiff, Nat.reduceDiv, Nat.reduceMod, Nat.reducePow, Nat.reduceBEq, Nat.reduceBNe, Int.reduceLT, Int.reduceLE, Int.reduceGT, Int.reduceGE, Int.reduceBEq, Int.reduceBNe, Int.reduceToNat, Int.reduceAdd, Int.reduceSub, Int.reduceMul, Int.reduceEq, Int.reduceNeg, reduceCtorEq, decide_true, decide_false, Bool.false_eq_true, ty3, ty4, ty5, ty9, ty27, ty29, ty30, ty76, eq30, hl, f1, f2, f3, g1, g2, g3]
  refine Lwp.ret (post_val (v := .bool true) ?_ ?_)
  · simp only [go_sem, eq_self, reduceIte, Nat.reduceAdd, Nat.reduceMul, Nat.reduceSub, Nat.reduceLT, Nat.reduceLeDiff, Nat.reduceEqDiff, Nat.reduceDiv, Nat.reduceMod, Nat.reducePow, Nat.reduceBEq, Nat.reduceBNe, Int.reduceLT, Int.reduceLE, Int.reduceGT, Int.reduceGE, Int.reduceBEq, Int.reduceBNe, Int.reduceToNat, Int.reduceAdd, Int.reduceSub, Int.reduceMul, Int.reduceEq, Int.reduceNeg, reduceCtorEq, decide_true, decide_false, Bool.false_eq_true]
  · simp only [go_sem, eq_self, reduceIte, Nat.reduceAdd, Nat.reduceMul, Nat.reduceSub, Nat.reduceLT, Nat.reduceLeDiff, Nat.reduceEqDiff, Nat.reduceDiv, Nat.reduceMod, Nat.reducePow, Nat.reduceBEq, Nat.reduceBNe, Int.reduceLT, Int.reduceLE, Int.reduceGT, Int.reduceGE, Int.reduceBEq, Int.reduceBNe, Int.reduceToNat, Int.reduceAdd, Int.reduceSub, Int.reduceMul, Int.reduceEq, Int.reduceNeg, reduceCtorEq, decide_true, decide_false, Bool.false_eq_true]
theorem S6_eqI (v : List Int) (k w : Int) (h : W8 v) (_ : U64 k) (_ : U64 w) : S6 [.agg (ints .u64 v), .int .u64 k, .int .u64 w] = some ⟨.bool true, none⟩ := S6_eq v k w h
end Eng
