/- Contracts of the program's functions, and laws over them. There is no further condition. -/
import Derived.Test.YtabahlhaocmglaaGC
set_option linter.unusedVariables false
set_option linter.unusedSimpArgs false
set_option exponentiation.threshold 2000
namespace Eng
open Go Go.Proofs
set_option linter.unusedSimpArgs false
set_option linter.unusedVariables false
-- TY: ty3, ty4, ty5, ty9, ty22, ty24, ty30, ty31, ty32, ty35, ty37, ty38, ty54, ty55, ty84, eq24, eq55
-- XN: 55=subX 58=addX

theorem U6.v64_lt {a : List Int} (h : U6 a) : v64 a < 18446744073709551616 ^ 6 := by have := Eng.v64_lt h.2; rwa [h.1] at this
theorem U6.eq_lim {a : List Int} (h : U6 a) : lim6 (v64 a) = a := lim6_v64 h.1 h.2
theorem lim6_modR (x : Nat) : lim6 (x % 18446744073709551616 ^ 6) = lim6 x := by
  have : (18446744073709551616 : Nat) ^ 6 = 4294967296 ^ 12 := by decide
  rw [this]; exact lim6_mod x
theorem limZ_sub {x y : Nat} (h : y ≤ x + 18446744073709551616 ^ 6) : limZ ((x : Int) - y) = lim6 ((x + 18446744073709551616 ^ 6 - y) % 18446744073709551616 ^ 6) := by
  rw [lim6_modR, ← limZ_nat, ← limZ_add ((x : Int) - y)]
  congr 1
  have e : ((18446744073709551616 ^ 6 : Nat) : Int) = (18446744073709551616 : Int) ^ 6 := by decide
  rw [← e]
  generalize (18446744073709551616 : Nat) ^ 6 = R at *
  omega
theorem S23_bit {c : Int} {a b : List Int} (hc : c = 0 ∨ c = 1) (h : U6 a) (hb : U6 b) : S23 [.int .u64 c, .agg (ints .u64 a), .agg (ints .u64 b)] = some ⟨.agg (ints .u64 (if c = 1 then b else a)), none⟩ := by
  rw [S23_eq _ _ _ h hb, pick_eq (by omega) (by omega) h hb]
  rcases hc with rfl | rfl <;> rfl

noncomputable def S62 : List AV → Option Ret := nz (sumOf (fun p : List Int × Nat × List Int => match p with | (a, c, m) => (U6 a) ∧ (c ≤ 1) ∧ (U6 m)) (fun p : List Int × Nat × List Int => match p with | (a, c, m) => [.agg (ints .u64 a), .int .u64 c, .agg (ints .u64 m)]) (fun p : List Int × Nat × List Int => match p with | (a, c, m) => ⟨.agg (ints .u64 (lim6 (onceN (v64 a) c (v64 m)))), none⟩))
theorem S62_eq (a : List Int) (c : Nat) (m : List Int) (h0 : U6 a) (h1 : c ≤ 1) (h2 : U6 m) : S62 [.agg (ints .u64 a), .int .u64 c, .agg (ints .u64 m)] = some ⟨.agg (ints .u64 (lim6 (onceN (v64 a) c (v64 m)))), none⟩ :=
  sumOf_eq (dom := (fun p : List Int × Nat × List Int => match p with | (a, c, m) => (U6 a) ∧ (c ≤ 1) ∧ (U6 m))) (enc := (fun p : List Int × Nat × List Int => match p with | (a, c, m) => [.agg (ints .u64 a), .int .u64 c, .agg (ints .u64 m)])) (out := (fun p : List Int × Nat × List Int => match p with | (a, c, m) => ⟨.agg (ints .u64 (lim6 (onceN (v64 a) c (v64 m)))), none⟩)) (a, c, m) ⟨h0, h1, h2⟩ (fun y _ e => by
    obtain ⟨y0, y1, y2⟩ := y
    simp only [List.cons.injEq, AV.agg.injEq, AV.int.injEq, AV.slc.injEq, AV.iptr.injEq, AV.bool.injEq, AV.str.injEq, ints_injEq, dig_injEq,  Int.ofNat_inj, BitVec.toNat_inj, true_and, and_true] at e
    first | with_reducible rfl | simp only [e] | rfl)
theorem S62_inv {args : List AV} {r : Ret} (h : sumOf (fun p : List Int × Nat × List Int => match p with | (a, c, m) => (U6 a) ∧ (c ≤ 1) ∧ (U6 m)) (fun p : List Int × Nat × List Int => match p with | (a, c, m) => [.agg (ints .u64 a), .int .u64 c, .agg (ints .u64 m)]) (fun p : List Int × Nat × List Int => match p with | (a, c, m) => ⟨.agg (ints .u64 (lim6 (onceN (v64 a) c (v64 m)))), none⟩) args = some r) : ∃ (a : List Int) (c : Nat) (m : List Int), ((U6 a) ∧ (c ≤ 1) ∧ (U6 m)) ∧ args = [.agg (ints .u64 a), .int .u64 c, .agg (ints .u64 m)] ∧ r = ⟨.agg (ints .u64 (lim6 (onceN (v64 a) c (v64 m)))), none⟩ := by
  obtain ⟨x, h1, h2, h3⟩ := sumOf_inv h
  obtain ⟨a, c, m⟩ := x
  exact ⟨a, c, m, h1, h2.symm, h3⟩


theorem once_out {a : List Int} (ha : U6 a) (c m : Nat) (hm : m < 18446744073709551616 ^ 6) : (if c = 1 ∨ m ≤ v64 a then limZ ((v64 a : Int) - m) else a) = lim6 (onceN (v64 a) c m) := by
  unfold onceN
  split
  · exact limZ_sub (by omega)
  · exact ha.eq_lim.symm
theorem U6_limZ (z : Int) : U6 (limZ z) := ⟨tab_len _ _, by
  intro x hx
  obtain ⟨i, _, rfl⟩ := List.mem_map.1 hx
  exact ⟨Int.emod_nonneg _ (by decide), Int.emod_lt_of_pos _ (by decide)⟩⟩

set_option maxRecDepth 100000 in
theorem snd62 : SndE Try.prog NoG 62 S62 := by
  refine snd_nz (snd_by [(23, S23), (27, S27)] [] Try.func62 (by kernel_rfl) lite62 nt62 rs62 ⟨snd23, snd27, trivial⟩ trivial (fun hT args r h => ?_))
  obtain ⟨a, c, m, ⟨hd0, hd1, hd2⟩, rfl, rfl⟩ := S62_inv h
  clear h
  have hM := hM0
  refine ⟨Nat.le_of_ble_eq_true rfl, fun F => ?_⟩
  unfold L62
  have hl := hd0.1
  have hl2 := hd2.1
  have hx := hd0.v64_lt
  have hm := hd2.v64_lt
  have f27 : S27 [.agg (ints .u64 a), .agg (ints .u64 m)] = some ⟨.tup [.agg (ints .u64 (limZ ((v64 a : Int) - (v64 m : Nat)))), .int .u64 (if v64 a < v64 m then 1 else 0)], none⟩ := by
    have h := S27_lim (v64 a) (v64 m)
    have hs := subC_six hx hm
    rw [subC_lim _ _ 6 (Nat.le_refl 6)] at hs
    rw [hs, hd0.eq_lim, hd2.eq_lim] at h
    exact h
  have ho := once_out hd0 c (v64 m) hm
  have hz := U6_limZ ((v64 a : Int) - (v64 m : Nat))
  have hzl := hz.1
  have fin := lim6_len (onceN (v64 a) c (v64 m))
  generalize lim6 (onceN (v64 a) c (v64 m)) = out at *
  generalize limZ ((v64 a : Int) - (v64 m : Nat)) = dz at *
  have x1 : xorZ .u64 1 0 = 1 := by decide
  have x2 : xorZ .u64 1 1 = 0 := by decide
  have o1 : orZ .u64 0 1 = 1 := by decide
  have o2 : orZ .u64 0 0 = 0 := by decide
  have o3 : orZ .u64 1 1 = 1 := by decide
  have o4 : orZ .u64 1 0 = 1 := by decide
  have f23 : ∀ b : Int, (b = 0 ∨ b = 1) → S23 [.int .u64 b, .agg (ints .u64 a), .agg (ints .u64 dz)] = some ⟨.agg (ints .u64 (if b = 1 then dz else a)), none⟩ := fun b hb => S23_bit hb hd0 hz
  have f230 := f23 0 (.inl rfl)
  have f231 := f23 1 (.inr rfl)
  simp only [if_neg (show ¬ (0 : Int) = 1 by decide), if_pos] at f230 f231
  refine Lwp.seq (Lwp.regI hT ?_)
  simp only [L62r0, go_sem, List.isEmpty_nil, isC, eq_self, reduceIte, Nat.reduceAdd, Nat.reduceMul, Nat.reduceSub, Nat.reduceLT, Nat.reduceLeDiff, Nat.reduceEqDiff, Nat.reduceDiv, Nat.reduceMod, Nat.reducePow, Nat.reduceBEq, Nat.reduceBNe, Int.reduceLT, Int.reduceLE, Int.reduceGT, Int.reduceGE, Int.reduceBEq, Int.reduceBNe, Int.reduceToNat, Int.reduceAdd, Int.reduceSub, Int.reduceMul, Int.reduceEq, Int.reduceNeg, reduceCtorEq, decide_true, decide_false, Bool.false_eq_true, ty3, ty4, ty5, ty9, ty22, ty24, ty30, ty31, ty32, ty35, ty37, ty38, ty54, ty55, ty84, eq24, eq55, hl, hl2]
  refine Lwp.seq (Lwp.regI hT ?_)
  simp only [L62r1, go_sem, List.isEmpty_nil, isC, eq_self, reduceIte, Nat.reduceAdd, Nat.reduceMul, Nat.reduceSub, Nat.reduceLT, Nat.reduceLeDiff, Nat.reduceEqDiff, Nat.reduceDiv, Nat.reduceMod, Nat.reducePow, Nat.reduceBEq, Nat.reduceBNe, Int.reduceLT, Int.reduceLE, Int.reduceGT, Int.reduceGE, Int.reduceBEq, Int.reduceBNe, Int.reduceToNat, Int.reduceAdd, Int.reduceSub, Int.reduceMul, Int.reduceEq, Int.reduceNeg, reduceCtorEq, decide_true, decide_false, Bool.false_eq_true, ty3, ty4, ty5, ty9, ty22, ty24, ty30, ty31, ty32, ty35, ty37, ty38, ty54, ty55, ty84, eq24, eq55, hl, hl2, f27, hzl]
  have done : ∀ (l : List Int) (env : List (Nat × AV)) (mem : List (Nat × List AV)) (nx : Nat), l = out → find env 6 = some (.own 2 0) → find mem 2 = some (ints .u64 l) → Lwp okDraw (tb Try.prog [(23, S23), (27, S27)] []) F LC.ret (Post (tb Try.prog [(23, S23), (27, S27)] []) [.cell 6 24] ⟨.agg (ints .u64 out), none⟩) { nt := 22, env := env, mem := mem, next := nx } := by
    intro l env mem nx e1 e2 e3
    subst e1
    refine Lwp.ret (post_val (v := .agg (ints .u64 l)) ?_ ?_)
    · simp only [go_sem, List.isEmpty_nil, isC, eq_self, reduceIte, Nat.reduceAdd, Nat.reduceMul, Nat.reduceSub, Nat.reduceLT, Nat.reduceLeDiff, Nat.reduceEqDiff, Nat.reduceDiv, Nat.reduceMod, Nat.reducePow, Nat.reduceBEq, Nat.reduceBNe, Int.reduceLT, Int.reduceLE, Int.reduceGT, Int.reduceGE, Int.reduceBEq, Int.reduceBNe, Int.reduceToNat, Int.reduceAdd, Int.reduceSub, Int.reduceMul, Int.reduceEq, Int.reduceNeg, reduceCtorEq, decide_true, decide_false, Bool.false_eq_true, ty24, e2, e3, fin]
    · simp only [go_sem, List.isEmpty_nil, isC, eq_self, reduceIte, Nat.reduceAdd, Nat.reduceMul, Nat.reduceSub, Nat.reduceLT, Nat.reduceLeDiff, Nat.reduceEqDiff, Nat.reduceDiv, Nat.reduceMod, Nat.reducePow, Nat.reduceBEq, Nat.reduceBNe, Int.reduceLT, Int.reduceLE, Int.reduceGT, Int.reduceGE, Int.reduceBEq, Int.reduceBNe, Int.reduceToNat, Int.reduceAdd, Int.reduceSub, Int.reduceMul, Int.reduceEq, Int.reduceNeg, reduceCtorEq, decide_true, decide_false, Bool.false_eq_true]
  refine Lwp.seq (Lwp.regI hT ?_)
  rcases Nat.le_one_iff_eq_zero_or_eq_one.1 hd1 with rfl | rfl
  · by_cases h : v64 a < v64 m
    · rw [if_neg (by rintro (h1 | h1); (cases h1); omega)] at ho
      simp only [L62r2, go_sem, List.isEmpty_nil, isC, eq_self, reduceIte, Nat.reduceAdd, Nat.reduceMul, Nat.reduceSub, Nat.reduceLT, Nat.reduceLeDiff, Nat.reduceEqDiff, Nat.reduceDiv, Nat.reduceMod, Nat.reducePow, Nat.reduceBEq, Nat.reduceBNe, Int.reduceLT, Int.reduceLE, Int.reduceGT, Int.reduceGE, Int.reduceBEq, Int.reduceBNe, Int.reduceToNat, Int.reduceAdd, Int.reduceSub, Int.reduceMul, Int.reduceEq, Int.reduceNeg, reduceCtorEq, decide_true, decide_false, Bool.false_eq_true, ty22, ty24, if_pos h, Int.natCast_zero, x2, o2, hl, hzl, f230]
      exact done _ _ _ _ ho rfl rfl
    · rw [if_pos (.inr (by omega))] at ho
      simp only [L62r2, go_sem, List.isEmpty_nil, isC, eq_self, reduceIte, Nat.reduceAdd, Nat.reduceMul, Nat.reduceSub, Nat.reduceLT, Nat.reduceLeDiff, Nat.reduceEqDiff, Nat.reduceDiv, Nat.reduceMod, Nat.reducePow, Nat.reduceBEq, Nat.reduceBNe, Int.reduceLT, Int.reduceLE, Int.reduceGT, Int.reduceGE, Int.reduceBEq, Int.reduceBNe, Int.reduceToNat, Int.reduceAdd, Int.reduceSub, Int.reduceMul, Int.reduceEq, Int.reduceNeg, reduceCtorEq, decide_true, decide_false, Bool.false_eq_true, ty22, ty24, if_neg h, Int.natCast_zero, x1, o1, hl, hzl, f231]
      exact done _ _ _ _ ho rfl rfl
  · rw [if_pos (.inl rfl)] at ho
    have c1 : ((1 : Nat) : Int) = 1 := rfl
    by_cases h : v64 a < v64 m
    · simp only [L62r2, go_sem, List.isEmpty_nil, isC, eq_self, reduceIte, Nat.reduceAdd, Nat.reduceMul, Nat.reduceSub, Nat.reduceLT, Nat.reduceLeDiff, Nat.reduceEqDiff, Nat.reduceDiv, Nat.reduceMod, Nat.reducePow, Nat.reduceBEq, Nat.reduceBNe, Int.reduceLT, Int.reduceLE, Int.reduceGT, Int.reduceGE, Int.reduceBEq, Int.reduceBNe, Int.reduceToNat, Int.reduceAdd, Int.reduceSub, Int.reduceMul, Int.reduceEq, Int.reduceNeg, reduceCtorEq, decide_true, decide_false, Bool.false_eq_true, ty22, ty24, if_pos h, c1, x2, o4, hl, hzl, f231]
      exact done _ _ _ _ ho rfl rfl
    · simp only [L62r2, go_sem, List.isEmpty_nil, isC, eq_self, reduceIte, Nat.reduceAdd, Nat.reduceMul, Nat.reduceSub, Nat.reduceLT, Nat.reduceLeDiff, Nat.reduceEqDiff, Nat.reduceDiv, Nat.reduceMod, Nat.reducePow, Nat.reduceBEq, Nat.reduceBNe, Int.reduceLT, Int.reduceLE, Int.reduceGT, Int.reduceGE, Int.reduceBEq, Int.reduceBNe, Int.reduceToNat, Int.reduceAdd, Int.reduceSub, Int.reduceMul, Int.reduceEq, Int.reduceNeg, reduceCtorEq, decide_true, decide_false, Bool.false_eq_true, ty22, ty24, if_neg h, c1, x1, o3, hl, hzl, f231]
      exact done _ _ _ _ ho rfl rfl

theorem S62_lim {x c m : Nat} (hc : c ≤ 1) (hx : x < 18446744073709551616 ^ 6) (hm : m < 18446744073709551616 ^ 6) : S62 [.agg (ints .u64 (lim6 x)), .int .u64 c, .agg (ints .u64 (lim6 m))] = some ⟨.agg (ints .u64 (lim6 (onceN x c m))), none⟩ := by
  have := S62_eq (lim6 x) c (lim6 m) (U6_lim x) hc (U6_lim m)
  rwa [v64_lim6 hx, v64_lim6 hm] at this
theorem S62_0 {x m : Nat} (hx : x < 18446744073709551616 ^ 6) (hm : m < 18446744073709551616 ^ 6) (h : x < 2 * m) : S62 [.agg (ints .u64 (lim6 x)), .int .u64 0, .agg (ints .u64 (lim6 m))] = some ⟨.agg (ints .u64 (lim6 (x % m))), none⟩ := by
  have := S62_lim (c := 0) (by omega) hx hm
  rw [onceN_mod (by omega) hx hm (by omega), Nat.zero_mul, Nat.add_zero] at this
  exact this
/-- A sum below twice the modulus. -/
theorem S62_sum {s m : Nat} (hm : m < 18446744073709551616 ^ 6) (h : s < 2 * m) : S62 [.agg (ints .u64 (lim6 s)), .int .u64 (if s < 18446744073709551616 ^ 6 then 0 else 1), .agg (ints .u64 (lim6 m))] = some ⟨.agg (ints .u64 (lim6 (s % m))), none⟩ := by
  by_cases hs : s < 18446744073709551616 ^ 6
  · rw [if_pos hs]; exact S62_0 hs hm h
  · rw [if_neg hs]
    have e : (s % 18446744073709551616 ^ 6) + 1 * 18446744073709551616 ^ 6 = s := by
      rw [Nat.mod_eq_sub_mod (by omega), Nat.mod_eq_of_lt (by omega)]; omega
    have := S62_lim (x := s % 18446744073709551616 ^ 6) (c := 1) (by omega) (Nat.mod_lt _ (Nat.pow_pos (by decide))) hm
    rw [onceN_mod (by omega) (Nat.mod_lt _ (Nat.pow_pos (by decide))) hm (by omega), e, lim6_modR] at this
    exact this

/-- A modulus that may be. -/
def GoodM (m : List Int) : Prop := U6 m ∧ v64 m % 2 = 1 ∧ 18446744073709551616 ^ 6 < 2 * v64 m

noncomputable def S60 : List AV → Option Ret := nz (sumOf (fun p : List Int × List Int => match p with | (a, m) => (U6 a) ∧ (GoodM m) ∧ (v64 a < v64 m)) (fun p : List Int × List Int => match p with | (a, m) => [.agg (ints .u64 a), .agg (ints .u64 m)]) (fun p : List Int × List Int => match p with | (a, m) => ⟨.agg (ints .u64 (lim6 ((v64 a + v64 a) % v64 m))), none⟩))
theorem S60_eq (a : List Int) (m : List Int) (h0 : U6 a) (h1 : GoodM m) (h2 : v64 a < v64 m) : S60 [.agg (ints .u64 a), .agg (ints .u64 m)] = some ⟨.agg (ints .u64 (lim6 ((v64 a + v64 a) % v64 m))), none⟩ :=
  sumOf_eq (dom := (fun p : List Int × List Int => match p with | (a, m) => (U6 a) ∧ (GoodM m) ∧ (v64 a < v64 m))) (enc := (fun p : List Int × List Int => match p with | (a, m) => [.agg (ints .u64 a), .agg (ints .u64 m)])) (out := (fun p : List Int × List Int => match p with | (a, m) => ⟨.agg (ints .u64 (lim6 ((v64 a + v64 a) % v64 m))), none⟩)) (a, m) ⟨h0, h1, h2⟩ (fun y _ e => by
    obtain ⟨y0, y1⟩ := y
    simp only [List.cons.injEq, AV.agg.injEq, AV.int.injEq, AV.slc.injEq, AV.iptr.injEq, AV.bool.injEq, AV.str.injEq, ints_injEq, dig_injEq,  Int.ofNat_inj, BitVec.toNat_inj, true_and, and_true] at e
    first | with_reducible rfl | simp only [e] | rfl)
theorem S60_inv {args : List AV} {r : Ret} (h : sumOf (fun p : List Int × List Int => match p with | (a, m) => (U6 a) ∧ (GoodM m) ∧ (v64 a < v64 m)) (fun p : List Int × List Int => match p with | (a, m) => [.agg (ints .u64 a), .agg (ints .u64 m)]) (fun p : List Int × List Int => match p with | (a, m) => ⟨.agg (ints .u64 (lim6 ((v64 a + v64 a) % v64 m))), none⟩) args = some r) : ∃ (a : List Int) (m : List Int), ((U6 a) ∧ (GoodM m) ∧ (v64 a < v64 m)) ∧ args = [.agg (ints .u64 a), .agg (ints .u64 m)] ∧ r = ⟨.agg (ints .u64 (lim6 ((v64 a + v64 a) % v64 m))), none⟩ := by
  obtain ⟨x, h1, h2, h3⟩ := sumOf_inv h
  obtain ⟨a, m⟩ := x
  exact ⟨a, m, h1, h2.symm, h3⟩


set_option maxRecDepth 100000 in
theorem snd60 : SndE Try.prog NoG 60 S60 := by
  refine snd_nz (snd_by [(35, S35), (62, S62)] [] Try.func60 (by kernel_rfl) lite60 nt60 rs60 ⟨snd35, snd62, trivial⟩ trivial (fun hT args r h => ?_))
  obtain ⟨a, m, ⟨hd0, hd1, hd2⟩, rfl, rfl⟩ := S60_inv h
  clear h
  have hM := hM0
  refine ⟨Nat.le_of_ble_eq_true rfl, fun F => ?_⟩
  unfold L60
  have hl := hd0.1
  have hl2 := hd1.1.1
  have hx := hd0.v64_lt
  have hm := hd1.1.v64_lt
  have f35 := S35_lim hx hx
  have f62 := S62_sum (s := v64 a + v64 a) hm (by omega)
  rw [hd0.eq_lim] at f35
  rw [hd1.1.eq_lim] at f62
  have l1 := lim6_len (v64 a + v64 a)
  have l2 := lim6_len ((v64 a + v64 a) % v64 m)
  generalize (if v64 a + v64 a < 18446744073709551616 ^ 6 then (0 : Int) else 1) = cy at *
  generalize lim6 (v64 a + v64 a) = s at *
  generalize lim6 ((v64 a + v64 a) % v64 m) = out at *
  refine Lwp.seq (Lwp.regI hT ?_)
  simp only [L60r0, go_sem, List.isEmpty_nil, isC, eq_self, reduceIte, Nat.reduceAdd, Nat.reduceMul, Nat.reduceSub, Nat.reduceLT, Nat.reduceLeDiff, Nat.reduceEqDiff, Nat.reduceDiv, Nat.reduceMod, Nat.reducePow, Nat.reduceBEq, Nat.reduceBNe, Int.reduceLT, Int.reduceLE, Int.reduceGT, Int.reduceGE, Int.reduceBEq, Int.reduceBNe, Int.reduceToNat, Int.reduceAdd, Int.reduceSub, Int.reduceMul, Int.reduceEq, Int.reduceNeg, reduceCtorEq, decide_true, decide_false, Bool.false_eq_true, ty3, ty4, ty5, ty9, ty22, ty24, ty30, ty31, ty32, ty35, ty37, ty38, ty54, ty55, ty84, eq24, eq55, hl, hl2]
  refine Lwp.seq (Lwp.regI hT ?_)
  simp only [L60r1, go_sem, List.isEmpty_nil, isC, eq_self, reduceIte, Nat.reduceAdd, Nat.reduceMul, Nat.reduceSub, Nat.reduceLT, Nat.reduceLeDiff, Nat.reduceEqDiff, Nat.reduceDiv, Nat.reduceMod, Nat.reducePow, Nat.reduceBEq, Nat.reduceBNe, Int.reduceLT, Int.reduceLE, Int.reduceGT, Int.reduceGE, Int.reduceBEq, Int.reduceBNe, Int.reduceToNat, Int.reduceAdd, Int.reduceSub, Int.reduceMul, Int.reduceEq, Int.reduceNeg, reduceCtorEq, decide_true, decide_false, Bool.false_eq_true, ty3, ty4, ty5, ty9, ty22, ty24, ty30, ty31, ty32, ty35, ty37, ty38, ty54, ty55, ty84, eq24, eq55, hl, hl2, f35, l1]
  refine Lwp.seq (Lwp.regI hT ?_)
  simp only [L60r2, go_sem, List.isEmpty_nil, isC, eq_self, reduceIte, Nat.reduceAdd, Nat.reduceMul, Nat.reduceSub, Nat.reduceLT, Nat.reduceLeDiff, Nat.reduceEqDiff, Nat.reduceDiv, Nat.reduceMod, Nat.reducePow, Nat.reduceBEq, Nat.reduceBNe, Int.reduceLT, Int.reduceLE, Int.reduceGT, Int.reduceGE, Int.reduceBEq, Int.reduceBNe, Int.reduceToNat, Int.reduceAdd, Int.reduceSub, Int.reduceMul, Int.reduceEq, Int.reduceNeg, reduceCtorEq, decide_true, decide_false, Bool.false_eq_true, ty3, ty4, ty5, ty9, ty22, ty24, ty30, ty31, ty32, ty35, ty37, ty38, ty54, ty55, ty84, eq24, eq55, hl, hl2, l1, l2, f62]
  refine Lwp.ret (post_val (v := .agg (ints .u64 out)) ?_ ?_)
  · simp only [go_sem, List.isEmpty_nil, isC, eq_self, reduceIte, Nat.reduceAdd, Nat.reduceMul, Nat.reduceSub, Nat.reduceLT, Nat.reduceLeDiff, Nat.reduceEqDiff, Nat.reduceDiv, Nat.reduceMod, Nat.reducePow, Nat.reduceBEq, Nat.reduceBNe, Int.reduceLT, Int.reduceLE, Int.reduceGT, Int.reduceGE, Int.reduceBEq, Int.reduceBNe, Int.reduceToNat, Int.reduceAdd, Int.reduceSub, Int.reduceMul, Int.reduceEq, Int.reduceNeg, reduceCtorEq, decide_true, decide_false, Bool.false_eq_true, ty24, l2]
  · simp only [go_sem, List.isEmpty_nil, isC, eq_self, reduceIte, Nat.reduceAdd, Nat.reduceMul, Nat.reduceSub, Nat.reduceLT, Nat.reduceLeDiff, Nat.reduceEqDiff, Nat.reduceDiv, Nat.reduceMod, Nat.reducePow, Nat.reduceBEq, Nat.reduceBNe, Int.reduceLT, Int.reduceLE, Int.reduceGT, Int.reduceGE, Int.reduceBEq, Int.reduceBNe, Int.reduceToNat, Int.reduceAdd, Int.reduceSub, Int.reduceMul, Int.reduceEq, Int.reduceNeg, reduceCtorEq, decide_true, decide_false, Bool.false_eq_true]

def goodL (m : List Int) : List Int := (m.set 0 (orZ .u64 (m.getD 0 0) 1)).set 5 (orZ .u64 (m.getD 5 0) 9223372036854775808)
theorem or_lt (x y : Int) : 0 ≤ orZ .u64 x y ∧ orZ .u64 x y < 18446744073709551616 := by
  rw [orZ_u64]; constructor
  · omega
  · have := (BitVec.ofInt 64 x ||| BitVec.ofInt 64 y).isLt; omega
theorem or_odd (x : Int) : orZ .u64 x 1 % 2 = 1 := by
  rw [orZ_u64, BitVec.toNat_or]
  have h : ((BitVec.ofInt 64 x).toNat ||| (BitVec.ofInt 64 1).toNat).testBit 0 = true := by
    rw [Nat.testBit_or]; simp
  rw [Nat.testBit_zero] at h
  have := of_decide_eq_true h
  omega
theorem or_top (x : Int) : 9223372036854775808 ≤ orZ .u64 x 9223372036854775808 := by
  have h : (BitVec.ofInt 64 9223372036854775808).toNat ≤ (BitVec.ofInt 64 x).toNat ||| (BitVec.ofInt 64 9223372036854775808).toNat := Nat.right_le_or
  have e : (BitVec.ofInt 64 9223372036854775808).toNat = 9223372036854775808 := by decide
  rw [orZ_u64, BitVec.toNat_or, e]
  rw [e] at h
  omega
theorem v64_odd {m : List Int} (h : U6 m) : (v64 m % 2 : Nat) = ((m.getD 0 0) % 2).toNat := by
  have := v64_getD h.2 0
  rw [Nat.pow_zero, Nat.div_one] at this
  rw [this]; omega
theorem v64_top {m : List Int} (h : U6 m) : m.getD 5 0 = ((v64 m / 18446744073709551616 ^ 5 : Nat) : Int) := by
  have := v64_getD h.2 5
  have hlt : v64 m / 18446744073709551616 ^ 5 < 18446744073709551616 := Nat.div_lt_of_lt_mul (by rw [← Nat.pow_succ]; exact h.v64_lt)
  rw [Nat.mod_eq_of_lt hlt] at this
  exact this
theorem good_iff {m : List Int} (h : U6 m) : GoodM m ↔ (m.getD 0 0) % 2 = 1 ∧ 9223372036854775808 ≤ m.getD 5 0 := by
  have h0 := v64_odd h
  have h5 := v64_top h
  have hb := h.at 0
  have e : (18446744073709551616 : Nat) ^ 6 = 2 * (9223372036854775808 * 18446744073709551616 ^ 5) := by decide
  have hd : 9223372036854775808 ≤ v64 m / 18446744073709551616 ^ 5 ↔ 9223372036854775808 * 18446744073709551616 ^ 5 ≤ v64 m := Nat.le_div_iff_mul_le (Nat.pow_pos (by decide))
  unfold GoodM
  rw [e]
  have ev : (9223372036854775808 * 18446744073709551616 ^ 5) % 2 = 0 := by decide
  generalize 9223372036854775808 * 18446744073709551616 ^ 5 = H at *
  obtain ⟨hb0, hb1⟩ := hb
  constructor
  · rintro ⟨_, h1, h2⟩
    refine ⟨by omega, ?_⟩
    have := hd.2 (by omega)
    omega
  · rintro ⟨h1, h2⟩
    refine ⟨h, by omega, ?_⟩
    have := hd.1 (by omega)
    omega
theorem goodL_good {m : List Int} (h : U6 m) : GoodM (goodL m) := by
  have hU : U6 (goodL m) := ⟨by simp [goodL, h.1], (D64.set (D64.set h.2 0 (or_lt _ _).1 (or_lt _ _).2) 5 (or_lt _ _).1 (or_lt _ _).2)⟩
  have hl := h.1
  refine (good_iff hU).2 ⟨?_, ?_⟩
  · have : (goodL m).getD 0 0 = orZ .u64 (m.getD 0 0) 1 := by
      unfold goodL
      rw [getD_set' _ (by rw [List.length_set]; omega), if_neg (by decide), getD_set' _ (by omega), if_pos rfl]
    rw [this]; exact or_odd _
  · have : (goodL m).getD 5 0 = orZ .u64 (m.getD 5 0) 9223372036854775808 := by
      unfold goodL
      rw [getD_set' _ (by rw [List.length_set]; omega), if_pos rfl]
    rw [this]; exact or_top _

noncomputable def S47 : List AV → Option Ret := nz (sumOf (fun p : List Int => match p with | m => (U6 m)) (fun p : List Int => match p with | m => [.agg (ints .u64 m)]) (fun p : List Int => match p with | m => ⟨.agg (ints .u64 (goodL m)), none⟩))
theorem S47_eq (m : List Int) (h0 : U6 m) : S47 [.agg (ints .u64 m)] = some ⟨.agg (ints .u64 (goodL m)), none⟩ :=
  sumOf_eq (dom := (fun p : List Int => match p with | m => (U6 m))) (enc := (fun p : List Int => match p with | m => [.agg (ints .u64 m)])) (out := (fun p : List Int => match p with | m => ⟨.agg (ints .u64 (goodL m)), none⟩)) m h0 (fun y _ e => by
    simp only [List.cons.injEq, AV.agg.injEq, AV.int.injEq, AV.slc.injEq, AV.iptr.injEq, AV.bool.injEq, AV.str.injEq, ints_injEq, dig_injEq,  Int.ofNat_inj, BitVec.toNat_inj, true_and, and_true] at e
    first | with_reducible rfl | simp only [e] | rfl)
theorem S47_inv {args : List AV} {r : Ret} (h : sumOf (fun p : List Int => match p with | m => (U6 m)) (fun p : List Int => match p with | m => [.agg (ints .u64 m)]) (fun p : List Int => match p with | m => ⟨.agg (ints .u64 (goodL m)), none⟩) args = some r) : ∃ (m : List Int), ((U6 m)) ∧ args = [.agg (ints .u64 m)] ∧ r = ⟨.agg (ints .u64 (goodL m)), none⟩ := by
  obtain ⟨x, h1, h2, h3⟩ := sumOf_inv h
  exact ⟨x, h1, h2.symm, h3⟩


set_option maxRecDepth 100000 in
theorem snd47 : SndE Try.prog NoG 47 S47 := by
  refine snd_nz (snd_by [] [] Try.func47 (by kernel_rfl) lite47 nt47 rs47 trivial trivial (fun hT args r h => ?_))
  obtain ⟨m, hd0, rfl, rfl⟩ := S47_inv h
  clear h
  have hM := hM0
  refine ⟨Nat.le_of_ble_eq_true rfl, fun F => ?_⟩
  unfold L47
  have hl := hd0.1
  have g5 : (m.set 0 (orZ .u64 (m.getD 0 0) 1)).getD 5 0 = m.getD 5 0 := by rw [getD_set' _ (by omega), if_neg (by decide)]
  have gl : (goodL m).length = 6 := by simp [goodL, hl]
  refine Lwp.seq (Lwp.regI hT ?_)
  simp only [L47r0, go_sem, List.isEmpty_nil, isC, eq_self, reduceIte, Nat.reduceAdd, Nat.reduceMul, Nat.reduceSub, Nat.reduceLT, Nat.reduceLeDiff, Nat.reduceEqDiff, Nat.reduceDiv, Nat.reduceMod, Nat.reducePow, Nat.reduceBEq, Nat.reduceBNe, Int.reduceLT, Int.reduceLE, Int.reduceGT, Int.reduceGE, Int.reduceBEq, Int.reduceBNe, Int.reduceToNat, Int.reduceAdd, Int.reduceSub, Int.reduceMul, Int.reduceEq, Int.reduceNeg, reduceCtorEq, decide_true, decide_false, Bool.false_eq_true, ty3, ty4, ty5, ty9, ty22, ty24, ty30, ty31, ty32, ty35, ty37, ty38, ty54, ty55, ty84, eq24, eq55, hl]
  refine Lwp.seq (Lwp.regI hT ?_)
  simp only [L47r1, go_sem, List.isEmpty_nil, isC, eq_self, reduceIte, Nat.reduceAdd, Nat.reduceMul, Nat.reduceSub, Nat.reduceLT, Nat.reduceLeDiff, Nat.reduceEqDiff, Nat.reduceDiv, Nat.reduceMod, Nat.reducePow, Nat.reduceBEq, Nat.reduceBNe, Int.reduceLT, Int.reduceLE, Int.reduceGT, Int.reduceGE, Int.reduceBEq, Int.reduceBNe, Int.reduceToNat, Int.reduceAdd, Int.reduceSub, Int.reduceMul, Int.reduceEq, Int.reduceNeg, reduceCtorEq, decide_true, decide_false, Bool.false_eq_true, ty3, ty4, ty5, ty9, ty22, ty24, ty30, ty31, ty32, ty35, ty37, ty38, ty54, ty55, ty84, eq24, eq55, hl]
  refine Lwp.seq (Lwp.regI hT ?_)
  simp only [L47r2, go_sem, List.isEmpty_nil, isC, eq_self, reduceIte, Nat.reduceAdd, Nat.reduceMul, Nat.reduceSub, Nat.reduceLT, Nat.reduceLeDiff, Nat.reduceEqDiff, Nat.reduceDiv, Nat.reduceMod, Nat.reducePow, Nat.reduceBEq, Nat.reduceBNe, Int.reduceLT, Int.reduceLE, Int.reduceGT, Int.reduceGE, Int.reduceBEq, Int.reduceBNe, Int.reduceToNat, Int.reduceAdd, Int.reduceSub, Int.reduceMul, Int.reduceEq, Int.reduceNeg, reduceCtorEq, decide_true, decide_false, Bool.false_eq_true, ty3, ty4, ty5, ty9, ty22, ty24, ty30, ty31, ty32, ty35, ty37, ty38, ty54, ty55, ty84, eq24, eq55, hl, g5]
  refine Lwp.seq (Lwp.regI hT ?_)
  simp only [L47r3, go_sem, List.isEmpty_nil, isC, eq_self, reduceIte, Nat.reduceAdd, Nat.reduceMul, Nat.reduceSub, Nat.reduceLT, Nat.reduceLeDiff, Nat.reduceEqDiff, Nat.reduceDiv, Nat.reduceMod, Nat.reducePow, Nat.reduceBEq, Nat.reduceBNe, Int.reduceLT, Int.reduceLE, Int.reduceGT, Int.reduceGE, Int.reduceBEq, Int.reduceBNe, Int.reduceToNat, Int.reduceAdd, Int.reduceSub, Int.reduceMul, Int.reduceEq, Int.reduceNeg, reduceCtorEq, decide_true, decide_false, Bool.false_eq_true, ty3, ty4, ty5, ty9, ty22, ty24, ty30, ty31, ty32, ty35, ty37, ty38, ty54, ty55, ty84, eq24, eq55, hl]
  refine Lwp.ret (post_val (v := .agg (ints .u64 (goodL m))) ?_ ?_)
  · simp only [go_sem, List.isEmpty_nil, isC, eq_self, reduceIte, Nat.reduceAdd, Nat.reduceMul, Nat.reduceSub, Nat.reduceLT, Nat.reduceLeDiff, Nat.reduceEqDiff, Nat.reduceDiv, Nat.reduceMod, Nat.reducePow, Nat.reduceBEq, Nat.reduceBNe, Int.reduceLT, Int.reduceLE, Int.reduceGT, Int.reduceGE, Int.reduceBEq, Int.reduceBNe, Int.reduceToNat, Int.reduceAdd, Int.reduceSub, Int.reduceMul, Int.reduceEq, Int.reduceNeg, reduceCtorEq, decide_true, decide_false, Bool.false_eq_true, ty24, hl, goodL]
  · simp only [go_sem, List.isEmpty_nil, isC, eq_self, reduceIte, Nat.reduceAdd, Nat.reduceMul, Nat.reduceSub, Nat.reduceLT, Nat.reduceLeDiff, Nat.reduceEqDiff, Nat.reduceDiv, Nat.reduceMod, Nat.reducePow, Nat.reduceBEq, Nat.reduceBNe, Int.reduceLT, Int.reduceLE, Int.reduceGT, Int.reduceGE, Int.reduceBEq, Int.reduceBNe, Int.reduceToNat, Int.reduceAdd, Int.reduceSub, Int.reduceMul, Int.reduceEq, Int.reduceNeg, reduceCtorEq, decide_true, decide_false, Bool.false_eq_true]
end Eng

namespace Eng
open Go Go.Proofs
set_option linter.unusedSimpArgs false
set_option linter.unusedVariables false
-- TY: ty3, ty4, ty5, ty9, ty22, ty24, ty30, ty31, ty32, ty35, ty37, ty38, ty54, ty55, ty60, ty84, eq24, eq55
-- XN: 55=subX 58=addX

/-- A modulus with what is reckoned of it once. -/
def modL (m : List Int) : List Int := m ++ ((negInv (m.getD 0 0).toNat : Nat) : Int) :: lim6 (18446744073709551616 ^ 6 * 18446744073709551616 ^ 6 % v64 m)
def ModL (d : List Int) : Prop := ∃ m, GoodM m ∧ d = modL m
theorem modL_len {m : List Int} (h : U6 m) : (modL m).length = 13 := by simp [modL, h.1, lim6_len]
theorem modL_take {m : List Int} (h : U6 m) : (modL m).take 6 = m := by rw [modL, List.take_left' h.1]
theorem modL_at {m : List Int} (h : U6 m) {j : Nat} (hj : j < 6) : (modL m).getD j 0 = m.getD j 0 := by
  simp [modL, List.getD_eq_getElem?_getD, List.getElem?_append_left (show j < m.length by rw [h.1]; exact hj)]
theorem modL_inv {m : List Int} (h : U6 m) : (modL m).getD 6 0 = ((negInv (m.getD 0 0).toNat : Nat) : Int) := by
  simp [modL, List.getD_eq_getElem?_getD, List.getElem?_append_right (show m.length ≤ 6 by rw [h.1]; exact Nat.le_refl 6), h.1]
theorem modL_two {m : List Int} (h : U6 m) : ((modL m).drop 7).take 6 = lim6 (18446744073709551616 ^ 6 * 18446744073709551616 ^ 6 % v64 m) := by
  have e : (modL m).drop 7 = lim6 (18446744073709551616 ^ 6 * 18446744073709551616 ^ 6 % v64 m) := by
    have : modL m = (m ++ [((negInv (m.getD 0 0).toNat : Nat) : Int)]) ++ lim6 (18446744073709551616 ^ 6 * 18446744073709551616 ^ 6 % v64 m) := by simp [modL]
    rw [this, List.drop_left' (by simp [h.1])]
  rw [e]; exact List.take_of_length_le (by rw [lim6_len]; exact Nat.le_refl 6)
theorem good_inv {m : List Int} (h : GoodM m) : (v64 m * negInv (m.getD 0 0).toNat + 1) % 18446744073709551616 = 0 := by
  have hg := v64_getD h.1.2 0
  rw [Nat.pow_zero, Nat.div_one] at hg
  rw [hg, Int.toNat_natCast]
  have hodd : (v64 m % 18446744073709551616) % 2 = 1 := by have := h.2.1; omega
  have := negInv_mul hodd
  rw [Nat.add_mod, Nat.mod_mul_mod] at this
  rw [Nat.add_mod]; exact this
theorem mod_build (inv : Int) {m two : List Int} (hm : m.length = 6) (ht : two.length = 6) : setAt ((setAt (ints .u64 (List.replicate 13 0)) 0 (ints .u64 m)).set 6 (.int .u64 inv)) 7 (ints .u64 two) = ints .u64 (m ++ inv :: two) := by
  rw [ints_setAt .u64 _ 0 m (by simp; omega), ints_set, ints_setAt .u64 _ 7 two (by simp; omega)]
  congr 1
  match m, hm with
  | [a, b, c, d, e, f], _ => match two, ht with
    | [g, h, i, j, k, l], _ => rfl

noncomputable def newV (m : List Int) : AV := open Classical in if GoodM m then .tup [.agg (ints .u64 (modL m)), .nili] else .tup [.agg (ints .u64 (List.replicate 13 0)), .iface 35 (.int .i64 1)]
noncomputable def S44 : List AV → Option Ret := nz (sumOf (fun p : List Int => match p with | m => (U6 m)) (fun p : List Int => match p with | m => [.agg (ints .u64 m)]) (fun p : List Int => match p with | m => ⟨newV m, none⟩))
theorem S44_eq (m : List Int) (h0 : U6 m) : S44 [.agg (ints .u64 m)] = some ⟨newV m, none⟩ :=
  sumOf_eq (dom := (fun p : List Int => match p with | m => (U6 m))) (enc := (fun p : List Int => match p with | m => [.agg (ints .u64 m)])) (out := (fun p : List Int => match p with | m => ⟨newV m, none⟩)) m h0 (fun y _ e => by
    simp only [List.cons.injEq, AV.agg.injEq, AV.int.injEq, AV.slc.injEq, AV.iptr.injEq, AV.bool.injEq, AV.str.injEq, ints_injEq, dig_injEq,  Int.ofNat_inj, BitVec.toNat_inj, true_and, and_true] at e
    first | with_reducible rfl | simp only [e] | rfl)
theorem S44_inv {args : List AV} {r : Ret} (h : sumOf (fun p : List Int => match p with | m => (U6 m)) (fun p : List Int => match p with | m => [.agg (ints .u64 m)]) (fun p : List Int => match p with | m => ⟨newV m, none⟩) args = some r) : ∃ (m : List Int), ((U6 m)) ∧ args = [.agg (ints .u64 m)] ∧ r = ⟨newV m, none⟩ := by
  obtain ⟨x, h1, h2, h3⟩ := sumOf_inv h
  exact ⟨x, h1, h2.symm, h3⟩

theorem S44_good {m : List Int} (h : GoodM m) : S44 [.agg (ints .u64 m)] = some ⟨.tup [.agg (ints .u64 (modL m)), .nili], none⟩ := by
  rw [S44_eq m h.1, newV, if_pos h]
theorem S44_bad {m : List Int} (hU : U6 m) (h : ¬ GoodM m) : S44 [.agg (ints .u64 m)] = some ⟨.tup [.agg (ints .u64 (List.replicate 13 0)), .iface 35 (.int .i64 1)], none⟩ := by
  rw [S44_eq m hU, newV, if_neg h]

theorem twice_pow {R M k : Nat} : (R * 2 ^ k % M + R * 2 ^ k % M) % M = R * 2 ^ (k + 1) % M := by
  rw [← Nat.add_mod, Nat.pow_succ, ← Nat.mul_assoc, Nat.mul_two]

set_option maxRecDepth 100000 in
theorem snd44 : SndE Try.prog NoG 44 S44 := by
  refine snd_nz (snd_by [(27, S27), (60, S60)] [] Try.func44 (by kernel_rfl) lite44 nt44 rs44 ⟨snd27, snd60, trivial⟩ trivial (fun hT args r h => ?_))
  obtain ⟨m, hd0, rfl, rfl⟩ := S44_inv h
  clear h
  have hM := hM0
  refine ⟨Nat.le_of_ble_eq_true rfl, fun F => ?_⟩
  unfold L44
  have hl := hd0.1
  have b0 := hd0.at 0
  have b5 := hd0.at 5
  obtain ⟨b00, b01⟩ := b0
  obtain ⟨b50, b51⟩ := b5
  have hgi := good_iff hd0
  refine Lwp.seq (Lwp.regI hT ?_)
  simp only [L44r0, go_sem, List.isEmpty_nil, isC, eq_self, reduceIte, Nat.reduceAdd, Nat.reduceMul, Nat.reduceSub, Nat.reduceLT, Nat.reduceLeDiff, Nat.reduceEqDiff, Nat.reduceDiv, Nat.reduceMod, Nat.reducePow, Nat.reduceBEq, Nat.reduceBNe, Int.reduceLT, Int.reduceLE, Int.reduceGT, Int.reduceGE, Int.reduceBEq, Int.reduceBNe, Int.reduceToNat, Int.reduceAdd, Int.reduceSub, Int.reduceMul, Int.reduceEq, Int.reduceNeg, reduceCtorEq, decide_true, decide_false, Bool.false_eq_true, ty3, ty4, ty5, ty9, ty22, ty24, ty30, ty31, ty32, ty35, ty37, ty38, ty54, ty55, ty60, ty84, eq24, eq55, hl]
  refine Lwp.seq (Lwp.seq (Lwp.regI hT ?_))
  obtain ⟨m0, hm0⟩ : ∃ n : Nat, m.getD 0 0 = n := ⟨(m.getD 0 0).toNat, by omega⟩
  by_cases hG : GoodM m
  · obtain ⟨h1, h2⟩ := hgi.1 hG
    have c1 : ((m0 : Int).tmod 2 == 0) = false := by rw [hm0] at h1; rw [Int.tmod_eq_emod_of_nonneg (by omega), h1]; rfl
    have c2 : ¬ m.getD 5 0 < 9223372036854775808 := by omega
    have hM : v64 m < 18446744073709551616 ^ 6 := hd0.v64_lt
    have nv : newV m = .tup [.agg (ints .u64 (modL m)), .nili] := by rw [newV, if_pos hG]
    simp only [L44r1, go_sem, List.isEmpty_nil, isC, eq_self, reduceIte, Nat.reduceAdd, Nat.reduceMul, Nat.reduceSub, Nat.reduceLT, Nat.reduceLeDiff, Nat.reduceEqDiff, Nat.reduceDiv, Nat.reduceMod, Nat.reducePow, Nat.reduceBEq, Nat.reduceBNe, Int.reduceLT, Int.reduceLE, Int.reduceGT, Int.reduceGE, Int.reduceBEq, Int.reduceBNe, Int.reduceToNat, Int.reduceAdd, Int.reduceSub, Int.reduceMul, Int.reduceEq, Int.reduceNeg, reduceCtorEq, decide_true, decide_false, Bool.false_eq_true, ty3, ty22, ty24, hl, hm0, c1, c2]
    refine Lwp.cond rfl (fun h => by cases h) (fun _ => Lwp.skip ?_)
    simp only [go_sem, List.isEmpty_nil, isC, eq_self, reduceIte, Nat.reduceAdd, Nat.reduceMul, Nat.reduceSub, Nat.reduceLT, Nat.reduceLeDiff, Nat.reduceEqDiff, Nat.reduceDiv, Nat.reduceMod, Nat.reducePow, Nat.reduceBEq, Nat.reduceBNe, Int.reduceLT, Int.reduceLE, Int.reduceGT, Int.reduceGE, Int.reduceBEq, Int.reduceBNe, Int.reduceToNat, Int.reduceAdd, Int.reduceSub, Int.reduceMul, Int.reduceEq, Int.reduceNeg, reduceCtorEq, decide_true, decide_false, Bool.false_eq_true]
    refine Lwp.seq (Lwp.regI hT ?_)
    simp only [L44r3, go_sem, List.isEmpty_nil, isC, eq_self, reduceIte, Nat.reduceAdd, Nat.reduceMul, Nat.reduceSub, Nat.reduceLT, Nat.reduceLeDiff, Nat.reduceEqDiff, Nat.reduceDiv, Nat.reduceMod, Nat.reducePow, Nat.reduceBEq, Nat.reduceBNe, Int.reduceLT, Int.reduceLE, Int.reduceGT, Int.reduceGE, Int.reduceBEq, Int.reduceBNe, Int.reduceToNat, Int.reduceAdd, Int.reduceSub, Int.reduceMul, Int.reduceEq, Int.reduceNeg, reduceCtorEq, decide_true, decide_false, Bool.false_eq_true, ty3, ty4, ty5, ty9, ty22, ty24, ty30, ty31, ty32, ty35, ty37, ty38, ty54, ty55, ty60, ty84, eq24, eq55]
    refine Lwp.seq ?_
    refine Lwp.seq (Lwp.regI hT ?_)
    simp only [L44r4, go_sem, List.isEmpty_nil, isC, eq_self, reduceIte, Nat.reduceAdd, Nat.reduceMul, Nat.reduceSub, Nat.reduceLT, Nat.reduceLeDiff, Nat.reduceEqDiff, Nat.reduceDiv, Nat.reduceMod, Nat.reducePow, Nat.reduceBEq, Nat.reduceBNe, Int.reduceLT, Int.reduceLE, Int.reduceGT, Int.reduceGE, Int.reduceBEq, Int.reduceBNe, Int.reduceToNat, Int.reduceAdd, Int.reduceSub, Int.reduceMul, Int.reduceEq, Int.reduceNeg, reduceCtorEq, decide_true, decide_false, Bool.false_eq_true, ty3, ty4, ty5, ty9, ty22, ty24, ty30, ty31, ty32, ty35, ty37, ty38, ty54, ty55, ty60, ty84, eq24, eq55]
    refine Lwp.block (Lwp.range (fun k => { nt := 45, env := [(1, .own 0 0), (2, .own 1 0), (3, .nili), (4, .int .u64 (invI m0 k : Nat)), (18, .int .i64 k)], mem := [(0, ints .u64 m), (1, ints .u64 (List.replicate 13 0))], next := 20 }) 6 ?_ (fun k hk => ?_) ?_)
    · refine weak_of rfl ?_ ?_ ?_
      · (simp only [go_sem, List.isEmpty_nil, isC, eq_self, reduceIte, Nat.reduceAdd, Nat.reduceMul, Nat.reduceSub, Nat.reduceLT, Nat.reduceLeDiff, Nat.reduceEqDiff, Nat.reduceDiv, Nat.reduceMod, Nat.reducePow, Nat.reduceBEq, Nat.reduceBNe, Int.reduceLT, Int.reduceLE, Int.reduceGT, Int.reduceGE, Int.reduceBEq, Int.reduceBNe, Int.reduceToNat, Int.reduceAdd, Int.reduceSub, Int.reduceMul, Int.reduceEq, Int.reduceNeg, reduceCtorEq, decide_true, decide_false, Bool.false_eq_true, invI]; try rfl)
      · (simp only [go_sem, List.isEmpty_nil, isC, eq_self, reduceIte, Nat.reduceAdd, Nat.reduceMul, Nat.reduceSub, Nat.reduceLT, Nat.reduceLeDiff, Nat.reduceEqDiff, Nat.reduceDiv, Nat.reduceMod, Nat.reducePow, Nat.reduceBEq, Nat.reduceBNe, Int.reduceLT, Int.reduceLE, Int.reduceGT, Int.reduceGE, Int.reduceBEq, Int.reduceBNe, Int.reduceToNat, Int.reduceAdd, Int.reduceSub, Int.reduceMul, Int.reduceEq, Int.reduceNeg, reduceCtorEq, decide_true, decide_false, Bool.false_eq_true, invI]; try rfl)
      · (simp only [go_sem, List.isEmpty_nil, isC, eq_self, reduceIte, Nat.reduceAdd, Nat.reduceMul, Nat.reduceSub, Nat.reduceLT, Nat.reduceLeDiff, Nat.reduceEqDiff, Nat.reduceDiv, Nat.reduceMod, Nat.reducePow, Nat.reduceBEq, Nat.reduceBNe, Int.reduceLT, Int.reduceLE, Int.reduceGT, Int.reduceGE, Int.reduceBEq, Int.reduceBNe, Int.reduceToNat, Int.reduceAdd, Int.reduceSub, Int.reduceMul, Int.reduceEq, Int.reduceNeg, reduceCtorEq, decide_true, decide_false, Bool.false_eq_true, invI]; try rfl)
    · have k1 : (k : Int) < 6 := by omega
      have k4 := wrap_succ hk (by decide)
      have il := invI_lt m0 k
      have e1 : IntKind.u64.wrap ((m0 : Int) * ((invI m0 k : Nat) : Int)) = ((m0 * invI m0 k % 18446744073709551616 : Nat) : Int) := by rw [wrap_u64_mod, ← Int.natCast_mul]; omega
      have e2 : IntKind.u64.wrap (2 - ((m0 * invI m0 k % 18446744073709551616 : Nat) : Int)) = (((2 + 18446744073709551616 - m0 * invI m0 k % 18446744073709551616) % 18446744073709551616 : Nat) : Int) := by
        have : m0 * invI m0 k % 18446744073709551616 < 18446744073709551616 := Nat.mod_lt _ (by decide)
        rw [wrap_u64_mod]; omega
      have e3 : IntKind.u64.wrap (((invI m0 k : Nat) : Int) * (((2 + 18446744073709551616 - m0 * invI m0 k % 18446744073709551616) % 18446744073709551616 : Nat) : Int)) = ((invI m0 (k + 1) : Nat) : Int) := by
        rw [wrap_u64_mod, ← Int.natCast_mul, invI]; omega
      refine Lwp.seq (Lwp.regI hT ?_)
      simp only [L44r5, go_sem, List.isEmpty_nil, isC, eq_self, reduceIte, Nat.reduceAdd, Nat.reduceMul, Nat.reduceSub, Nat.reduceLT, Nat.reduceLeDiff, Nat.reduceEqDiff, Nat.reduceDiv, Nat.reduceMod, Nat.reducePow, Nat.reduceBEq, Nat.reduceBNe, Int.reduceLT, Int.reduceLE, Int.reduceGT, Int.reduceGE, Int.reduceBEq, Int.reduceBNe, Int.reduceToNat, Int.reduceAdd, Int.reduceSub, Int.reduceMul, Int.reduceEq, Int.reduceNeg, reduceCtorEq, decide_true, decide_false, Bool.false_eq_true, ty3, ty4, ty5, ty9, ty22, ty24, ty30, ty31, ty32, ty35, ty37, ty38, ty54, ty55, ty60, ty84, eq24, eq55, k1]
      refine Lwp.seq (Lwp.cond rfl (fun _ => Lwp.skip ?_) (fun h => by cases h))
      simp only [go_sem, List.isEmpty_nil, isC, eq_self, reduceIte, Nat.reduceAdd, Nat.reduceMul, Nat.reduceSub, Nat.reduceLT, Nat.reduceLeDiff, Nat.reduceEqDiff, Nat.reduceDiv, Nat.reduceMod, Nat.reducePow, Nat.reduceBEq, Nat.reduceBNe, Int.reduceLT, Int.reduceLE, Int.reduceGT, Int.reduceGE, Int.reduceBEq, Int.reduceBNe, Int.reduceToNat, Int.reduceAdd, Int.reduceSub, Int.reduceMul, Int.reduceEq, Int.reduceNeg, reduceCtorEq, decide_true, decide_false, Bool.false_eq_true]
      refine Lwp.seq (Lwp.block ?_)
      refine Lwp.regI hT ?_
      simp only [L44r6, go_sem, List.isEmpty_nil, isC, eq_self, reduceIte, Nat.reduceAdd, Nat.reduceMul, Nat.reduceSub, Nat.reduceLT, Nat.reduceLeDiff, Nat.reduceEqDiff, Nat.reduceDiv, Nat.reduceMod, Nat.reducePow, Nat.reduceBEq, Nat.reduceBNe, Int.reduceLT, Int.reduceLE, Int.reduceGT, Int.reduceGE, Int.reduceBEq, Int.reduceBNe, Int.reduceToNat, Int.reduceAdd, Int.reduceSub, Int.reduceMul, Int.reduceEq, Int.reduceNeg, reduceCtorEq, decide_true, decide_false, Bool.false_eq_true, ty3, ty4, ty5, ty9, ty22, ty24, ty30, ty31, ty32, ty35, ty37, ty38, ty54, ty55, ty60, ty84, eq24, eq55, hl, hm0, e1, e2, e3]
      refine Lwp.regI hT ?_
      simp only [L44r7, go_sem, List.isEmpty_nil, isC, eq_self, reduceIte, Nat.reduceAdd, Nat.reduceMul, Nat.reduceSub, Nat.reduceLT, Nat.reduceLeDiff, Nat.reduceEqDiff, Nat.reduceDiv, Nat.reduceMod, Nat.reducePow, Nat.reduceBEq, Nat.reduceBNe, Int.reduceLT, Int.reduceLE, Int.reduceGT, Int.reduceGE, Int.reduceBEq, Int.reduceBNe, Int.reduceToNat, Int.reduceAdd, Int.reduceSub, Int.reduceMul, Int.reduceEq, Int.reduceNeg, reduceCtorEq, decide_true, decide_false, Bool.false_eq_true, ty3, ty4, ty5, ty9, ty22, ty24, ty30, ty31, ty32, ty35, ty37, ty38, ty54, ty55, ty60, ty84, eq24, eq55, k4]
      refine weak_of rfl ?_ ?_ ?_
      · (simp only [go_sem, List.isEmpty_nil, isC, eq_self, reduceIte, Nat.reduceAdd, Nat.reduceMul, Nat.reduceSub, Nat.reduceLT, Nat.reduceLeDiff, Nat.reduceEqDiff, Nat.reduceDiv, Nat.reduceMod, Nat.reducePow, Nat.reduceBEq, Nat.reduceBNe, Int.reduceLT, Int.reduceLE, Int.reduceGT, Int.reduceGE, Int.reduceBEq, Int.reduceBNe, Int.reduceToNat, Int.reduceAdd, Int.reduceSub, Int.reduceMul, Int.reduceEq, Int.reduceNeg, reduceCtorEq, decide_true, decide_false, Bool.false_eq_true]; try rfl)
      · (simp only [go_sem, List.isEmpty_nil, isC, eq_self, reduceIte, Nat.reduceAdd, Nat.reduceMul, Nat.reduceSub, Nat.reduceLT, Nat.reduceLeDiff, Nat.reduceEqDiff, Nat.reduceDiv, Nat.reduceMod, Nat.reducePow, Nat.reduceBEq, Nat.reduceBNe, Int.reduceLT, Int.reduceLE, Int.reduceGT, Int.reduceGE, Int.reduceBEq, Int.reduceBNe, Int.reduceToNat, Int.reduceAdd, Int.reduceSub, Int.reduceMul, Int.reduceEq, Int.reduceNeg, reduceCtorEq, decide_true, decide_false, Bool.false_eq_true]; try rfl)
      · (simp only [go_sem, List.isEmpty_nil, isC, eq_self, reduceIte, Nat.reduceAdd, Nat.reduceMul, Nat.reduceSub, Nat.reduceLT, Nat.reduceLeDiff, Nat.reduceEqDiff, Nat.reduceDiv, Nat.reduceMod, Nat.reducePow, Nat.reduceBEq, Nat.reduceBNe, Int.reduceLT, Int.reduceLE, Int.reduceGT, Int.reduceGE, Int.reduceBEq, Int.reduceBNe, Int.reduceToNat, Int.reduceAdd, Int.reduceSub, Int.reduceMul, Int.reduceEq, Int.reduceNeg, reduceCtorEq, decide_true, decide_false, Bool.false_eq_true]; try rfl)
    · refine Lwp.seq (Lwp.regI hT ?_)
      simp only [L44r5, go_sem, List.isEmpty_nil, isC, eq_self, reduceIte, Nat.reduceAdd, Nat.reduceMul, Nat.reduceSub, Nat.reduceLT, Nat.reduceLeDiff, Nat.reduceEqDiff, Nat.reduceDiv, Nat.reduceMod, Nat.reducePow, Nat.reduceBEq, Nat.reduceBNe, Int.reduceLT, Int.reduceLE, Int.reduceGT, Int.reduceGE, Int.reduceBEq, Int.reduceBNe, Int.reduceToNat, Int.reduceAdd, Int.reduceSub, Int.reduceMul, Int.reduceEq, Int.reduceNeg, reduceCtorEq, decide_true, decide_false, Bool.false_eq_true, ty3, ty4, ty5, ty9, ty22, ty24, ty30, ty31, ty32, ty35, ty37, ty38, ty54, ty55, ty60, ty84, eq24, eq55]
      refine Lwp.seq (Lwp.cond rfl (fun h => by cases h) (fun _ => Lwp.exit ?_))
      simp only [go_sem, List.isEmpty_nil, isC, eq_self, reduceIte, Nat.reduceAdd, Nat.reduceMul, Nat.reduceSub, Nat.reduceLT, Nat.reduceLeDiff, Nat.reduceEqDiff, Nat.reduceDiv, Nat.reduceMod, Nat.reducePow, Nat.reduceBEq, Nat.reduceBNe, Int.reduceLT, Int.reduceLE, Int.reduceGT, Int.reduceGE, Int.reduceBEq, Int.reduceBNe, Int.reduceToNat, Int.reduceAdd, Int.reduceSub, Int.reduceMul, Int.reduceEq, Int.reduceNeg, reduceCtorEq, decide_true, decide_false, Bool.false_eq_true]
      have hneg : negInv m0 = (18446744073709551616 - invI m0 6) % 18446744073709551616 := rfl
      have ilt := invI_lt m0 6
      generalize invI m0 6 = iv at *
      have hv0 : 0 < v64 m := Nat.pos_of_ne_zero (fun h => by have := hG.2.2; rw [h] at this; simp at this)
      have f27 : S27 [.agg (ints .u64 (List.replicate 6 0)), .agg (ints .u64 m)] = some ⟨.tup [.agg (ints .u64 (lim6 (18446744073709551616 ^ 6 * 2 ^ 0 % v64 m))), .int .u64 ((borrow 18446744073709551616 0 (v64 m) 6 : Nat) : Int)], none⟩ := by
        have h := S27_lim 0 (v64 m)
        rw [lim6_zero, hd0.eq_lim, limZ_sub (by omega)] at h
        rw [h]
        have e : (0 + 18446744073709551616 ^ 6 - v64 m) % 18446744073709551616 ^ 6 = 18446744073709551616 ^ 6 * 2 ^ 0 % v64 m := by
          have h3 := hG.2.2
          generalize (18446744073709551616 : Nat) ^ 6 = R at *
          have e1 : (0 + R - v64 m) % R = R - v64 m := by rw [show 0 + R - v64 m = R - v64 m by omega, Nat.mod_eq_of_lt (by omega)]
          have e2 : R % v64 m = R - v64 m := by rw [Nat.mod_eq_sub_mod (by omega), Nat.mod_eq_of_lt (by omega)]
          rw [Nat.pow_zero, Nat.mul_one, e1, e2]
        rw [e]
      have l0 := lim6_len (18446744073709551616 ^ 6 * 2 ^ 0 % v64 m)
      generalize ((borrow 18446744073709551616 0 (v64 m) 6 : Nat) : Int) = bb at *
      refine Lwp.seq (Lwp.regI hT ?_)
      simp only [L44r8, go_sem, List.isEmpty_nil, isC, eq_self, reduceIte, Nat.reduceAdd, Nat.reduceMul, Nat.reduceSub, Nat.reduceLT, Nat.reduceLeDiff, Nat.reduceEqDiff, Nat.reduceDiv, Nat.reduceMod, Nat.reducePow, Nat.reduceBEq, Nat.reduceBNe, Int.reduceLT, Int.reduceLE, Int.reduceGT, Int.reduceGE, Int.reduceBEq, Int.reduceBNe, Int.reduceToNat, Int.reduceAdd, Int.reduceSub, Int.reduceMul, Int.reduceEq, Int.reduceNeg, reduceCtorEq, decide_true, decide_false, Bool.false_eq_true, ty3, ty4, ty5, ty9, ty22, ty24, ty30, ty31, ty32, ty35, ty37, ty38, ty54, ty55, ty60, ty84, eq24, eq55, hl, f27, l0]
      refine Lwp.seq ?_
      refine Lwp.seq (Lwp.regI hT ?_)
      simp only [L44r9, go_sem, List.isEmpty_nil, isC, eq_self, reduceIte, Nat.reduceAdd, Nat.reduceMul, Nat.reduceSub, Nat.reduceLT, Nat.reduceLeDiff, Nat.reduceEqDiff, Nat.reduceDiv, Nat.reduceMod, Nat.reducePow, Nat.reduceBEq, Nat.reduceBNe, Int.reduceLT, Int.reduceLE, Int.reduceGT, Int.reduceGE, Int.reduceBEq, Int.reduceBNe, Int.reduceToNat, Int.reduceAdd, Int.reduceSub, Int.reduceMul, Int.reduceEq, Int.reduceNeg, reduceCtorEq, decide_true, decide_false, Bool.false_eq_true, ty3, ty4, ty5, ty9, ty22, ty24, ty30, ty31, ty32, ty35, ty37, ty38, ty54, ty55, ty60, ty84, eq24, eq55]
      refine Lwp.block (Lwp.range (fun k => { nt := 45, env := [(1, .own 0 0), (2, .own 1 0), (3, .nili), (4, .int .u64 iv), (5, .own 27 0), (34, .int .i64 k)], mem := [(0, ints .u64 m), (1, ints .u64 (List.replicate 13 0)), (27, ints .u64 (lim6 (18446744073709551616 ^ 6 * 2 ^ k % v64 m)))], next := 100 }) 384 ?_ (fun k hk => ?_) ?_)
      · refine weak_of rfl ?_ ?_ ?_
        · (simp only [go_sem, List.isEmpty_nil, isC, eq_self, reduceIte, Nat.reduceAdd, Nat.reduceMul, Nat.reduceSub, Nat.reduceLT, Nat.reduceLeDiff, Nat.reduceEqDiff, Nat.reduceDiv, Nat.reduceMod, Nat.reducePow, Nat.reduceBEq, Nat.reduceBNe, Int.reduceLT, Int.reduceLE, Int.reduceGT, Int.reduceGE, Int.reduceBEq, Int.reduceBNe, Int.reduceToNat, Int.reduceAdd, Int.reduceSub, Int.reduceMul, Int.reduceEq, Int.reduceNeg, reduceCtorEq, decide_true, decide_false, Bool.false_eq_true]; try rfl)
        · (simp only [go_sem, List.isEmpty_nil, isC, eq_self, reduceIte, Nat.reduceAdd, Nat.reduceMul, Nat.reduceSub, Nat.reduceLT, Nat.reduceLeDiff, Nat.reduceEqDiff, Nat.reduceDiv, Nat.reduceMod, Nat.reducePow, Nat.reduceBEq, Nat.reduceBNe, Int.reduceLT, Int.reduceLE, Int.reduceGT, Int.reduceGE, Int.reduceBEq, Int.reduceBNe, Int.reduceToNat, Int.reduceAdd, Int.reduceSub, Int.reduceMul, Int.reduceEq, Int.reduceNeg, reduceCtorEq, decide_true, decide_false, Bool.false_eq_true]; try rfl)
        · (simp only [go_sem, List.isEmpty_nil, isC, eq_self, reduceIte, Nat.reduceAdd, Nat.reduceMul, Nat.reduceSub, Nat.reduceLT, Nat.reduceLeDiff, Nat.reduceEqDiff, Nat.reduceDiv, Nat.reduceMod, Nat.reducePow, Nat.reduceBEq, Nat.reduceBNe, Int.reduceLT, Int.reduceLE, Int.reduceGT, Int.reduceGE, Int.reduceBEq, Int.reduceBNe, Int.reduceToNat, Int.reduceAdd, Int.reduceSub, Int.reduceMul, Int.reduceEq, Int.reduceNeg, reduceCtorEq, decide_true, decide_false, Bool.false_eq_true]; try rfl)
      · have k1 : (k : Int) < 384 := by omega
        have k4 := wrap_succ' (n := k) (by omega)
        have hx : 18446744073709551616 ^ 6 * 2 ^ k % v64 m < v64 m := Nat.mod_lt _ hv0
        have f60 : S60 [.agg (ints .u64 (lim6 (18446744073709551616 ^ 6 * 2 ^ k % v64 m))), .agg (ints .u64 m)] = some ⟨.agg (ints .u64 (lim6 (18446744073709551616 ^ 6 * 2 ^ (k + 1) % v64 m))), none⟩ := by
          have h := S60_eq (lim6 (18446744073709551616 ^ 6 * 2 ^ k % v64 m)) m (U6_lim _) hG (by rw [v64_lim6 (by omega)]; exact hx)
          rw [v64_lim6 (by omega), twice_pow] at h
          exact h
        have l1 := lim6_len (18446744073709551616 ^ 6 * 2 ^ k % v64 m)
        have l2 := lim6_len (18446744073709551616 ^ 6 * 2 ^ (k + 1) % v64 m)
        generalize lim6 (18446744073709551616 ^ 6 * 2 ^ k % v64 m) = x1 at *
        generalize lim6 (18446744073709551616 ^ 6 * 2 ^ (k + 1) % v64 m) = x2 at *
        refine Lwp.seq (Lwp.regI hT ?_)
        simp only [L44r10, go_sem, List.isEmpty_nil, isC, eq_self, reduceIte, Nat.reduceAdd, Nat.reduceMul, Nat.reduceSub, Nat.reduceLT, Nat.reduceLeDiff, Nat.reduceEqDiff, Nat.reduceDiv, Nat.reduceMod, Nat.reducePow, Nat.reduceBEq, Nat.reduceBNe, Int.reduceLT, Int.reduceLE, Int.reduceGT, Int.reduceGE, Int.reduceBEq, Int.reduceBNe, Int.reduceToNat, Int.reduceAdd, Int.reduceSub, Int.reduceMul, Int.reduceEq, Int.reduceNeg, reduceCtorEq, decide_true, decide_false, Bool.false_eq_true, ty3, ty4, ty5, ty9, ty22, ty24, ty30, ty31, ty32, ty35, ty37, ty38, ty54, ty55, ty60, ty84, eq24, eq55, k1]
        refine Lwp.seq (Lwp.cond rfl (fun _ => Lwp.skip ?_) (fun h => by cases h))
        simp only [go_sem, List.isEmpty_nil, isC, eq_self, reduceIte, Nat.reduceAdd, Nat.reduceMul, Nat.reduceSub, Nat.reduceLT, Nat.reduceLeDiff, Nat.reduceEqDiff, Nat.reduceDiv, Nat.reduceMod, Nat.reducePow, Nat.reduceBEq, Nat.reduceBNe, Int.reduceLT, Int.reduceLE, Int.reduceGT, Int.reduceGE, Int.reduceBEq, Int.reduceBNe, Int.reduceToNat, Int.reduceAdd, Int.reduceSub, Int.reduceMul, Int.reduceEq, Int.reduceNeg, reduceCtorEq, decide_true, decide_false, Bool.false_eq_true]
        refine Lwp.seq (Lwp.block ?_)
        refine Lwp.regI hT ?_
        simp only [L44r11, go_sem, List.isEmpty_nil, isC, eq_self, reduceIte, Nat.reduceAdd, Nat.reduceMul, Nat.reduceSub, Nat.reduceLT, Nat.reduceLeDiff, Nat.reduceEqDiff, Nat.reduceDiv, Nat.reduceMod, Nat.reducePow, Nat.reduceBEq, Nat.reduceBNe, Int.reduceLT, Int.reduceLE, Int.reduceGT, Int.reduceGE, Int.reduceBEq, Int.reduceBNe, Int.reduceToNat, Int.reduceAdd, Int.reduceSub, Int.reduceMul, Int.reduceEq, Int.reduceNeg, reduceCtorEq, decide_true, decide_false, Bool.false_eq_true, ty3, ty4, ty5, ty9, ty22, ty24, ty30, ty31, ty32, ty35, ty37, ty38, ty54, ty55, ty60, ty84, eq24, eq55, hl, l1, l2, f60]
        refine Lwp.regI hT ?_
        simp only [L44r12, go_sem, List.isEmpty_nil, isC, eq_self, reduceIte, Nat.reduceAdd, Nat.reduceMul, Nat.reduceSub, Nat.reduceLT, Nat.reduceLeDiff, Nat.reduceEqDiff, Nat.reduceDiv, Nat.reduceMod, Nat.reducePow, Nat.reduceBEq, Nat.reduceBNe, Int.reduceLT, Int.reduceLE, Int.reduceGT, Int.reduceGE, Int.reduceBEq, Int.reduceBNe, Int.reduceToNat, Int.reduceAdd, Int.reduceSub, Int.reduceMul, Int.reduceEq, Int.reduceNeg, reduceCtorEq, decide_true, decide_false, Bool.false_eq_true, ty3, ty4, ty5, ty9, ty22, ty24, ty30, ty31, ty32, ty35, ty37, ty38, ty54, ty55, ty60, ty84, eq24, eq55, k4]
        refine weak_of rfl ?_ ?_ ?_
        · (simp only [go_sem, List.isEmpty_nil, isC, eq_self, reduceIte, Nat.reduceAdd, Nat.reduceMul, Nat.reduceSub, Nat.reduceLT, Nat.reduceLeDiff, Nat.reduceEqDiff, Nat.reduceDiv, Nat.reduceMod, Nat.reducePow, Nat.reduceBEq, Nat.reduceBNe, Int.reduceLT, Int.reduceLE, Int.reduceGT, Int.reduceGE, Int.reduceBEq, Int.reduceBNe, Int.reduceToNat, Int.reduceAdd, Int.reduceSub, Int.reduceMul, Int.reduceEq, Int.reduceNeg, reduceCtorEq, decide_true, decide_false, Bool.false_eq_true]; try rfl)
        · (simp only [go_sem, List.isEmpty_nil, isC, eq_self, reduceIte, Nat.reduceAdd, Nat.reduceMul, Nat.reduceSub, Nat.reduceLT, Nat.reduceLeDiff, Nat.reduceEqDiff, Nat.reduceDiv, Nat.reduceMod, Nat.reducePow, Nat.reduceBEq, Nat.reduceBNe, Int.reduceLT, Int.reduceLE, Int.reduceGT, Int.reduceGE, Int.reduceBEq, Int.reduceBNe, Int.reduceToNat, Int.reduceAdd, Int.reduceSub, Int.reduceMul, Int.reduceEq, Int.reduceNeg, reduceCtorEq, decide_true, decide_false, Bool.false_eq_true]; try rfl)
        · (simp only [go_sem, List.isEmpty_nil, isC, eq_self, reduceIte, Nat.reduceAdd, Nat.reduceMul, Nat.reduceSub, Nat.reduceLT, Nat.reduceLeDiff, Nat.reduceEqDiff, Nat.reduceDiv, Nat.reduceMod, Nat.reducePow, Nat.reduceBEq, Nat.reduceBNe, Int.reduceLT, Int.reduceLE, Int.reduceGT, Int.reduceGE, Int.reduceBEq, Int.reduceBNe, Int.reduceToNat, Int.reduceAdd, Int.reduceSub, Int.reduceMul, Int.reduceEq, Int.reduceNeg, reduceCtorEq, decide_true, decide_false, Bool.false_eq_true]; try rfl)
      · refine Lwp.seq (Lwp.regI hT ?_)
        simp only [L44r10, go_sem, List.isEmpty_nil, isC, eq_self, reduceIte, Nat.reduceAdd, Nat.reduceMul, Nat.reduceSub, Nat.reduceLT, Nat.reduceLeDiff, Nat.reduceEqDiff, Nat.reduceDiv, Nat.reduceMod, Nat.reducePow, Nat.reduceBEq, Nat.reduceBNe, Int.reduceLT, Int.reduceLE, Int.reduceGT, Int.reduceGE, Int.reduceBEq, Int.reduceBNe, Int.reduceToNat, Int.reduceAdd, Int.reduceSub, Int.reduceMul, Int.reduceEq, Int.reduceNeg, reduceCtorEq, decide_true, decide_false, Bool.false_eq_true, ty3, ty4, ty5, ty9, ty22, ty24, ty30, ty31, ty32, ty35, ty37, ty38, ty54, ty55, ty60, ty84, eq24, eq55]
        refine Lwp.seq (Lwp.cond rfl (fun h => by cases h) (fun _ => Lwp.exit ?_))
        simp only [go_sem, List.isEmpty_nil, isC, eq_self, reduceIte, Nat.reduceAdd, Nat.reduceMul, Nat.reduceSub, Nat.reduceLT, Nat.reduceLeDiff, Nat.reduceEqDiff, Nat.reduceDiv, Nat.reduceMod, Nat.reducePow, Nat.reduceBEq, Nat.reduceBNe, Int.reduceLT, Int.reduceLE, Int.reduceGT, Int.reduceGE, Int.reduceBEq, Int.reduceBNe, Int.reduceToNat, Int.reduceAdd, Int.reduceSub, Int.reduceMul, Int.reduceEq, Int.reduceNeg, reduceCtorEq, decide_true, decide_false, Bool.false_eq_true]
        have hR : (2 : Nat) ^ 384 = 18446744073709551616 ^ 6 := by decide
        have l1 := lim6_len (18446744073709551616 ^ 6 * 2 ^ 384 % v64 m)
        have en : IntKind.u64.wrap (-(iv : Int)) = ((negInv m0 : Nat) : Int) := by
          rw [wrap_u64_mod, hneg]; omega
        have en' : IntKind.u64.wrap (0 - (iv : Int)) = ((negInv m0 : Nat) : Int) := by
          rw [wrap_u64_mod, hneg]; omega
        have hml : modL m = m ++ ((negInv m0 : Nat) : Int) :: lim6 (18446744073709551616 ^ 6 * 2 ^ 384 % v64 m) := by
          rw [modL, hm0, Int.toNat_natCast, hR]
        have bl := mod_build ((negInv m0 : Nat) : Int) hl l1
        have ml := modL_len hd0
        have sl : (setAt (ints .u64 (List.replicate 13 0)) 0 (ints .u64 m)).length = 13 := by rw [ints_setAt .u64 _ 0 m (by simp; omega), ints_len]; simp; omega
        have n1 : (7 : Nat) ≤ 13 := by decide
        have n2 : (13 : Nat) ≤ 13 := by decide
        rw [← hml] at bl
        generalize modL m = md at *
        generalize lim6 (18446744073709551616 ^ 6 * 2 ^ 384 % v64 m) = x1 at *
        refine Lwp.seq (Lwp.regI hT ?_)
        simp only [L44r13, go_sem, List.isEmpty_nil, isC, eq_self, reduceIte, Nat.reduceAdd, Nat.reduceMul, Nat.reduceSub, Nat.reduceLT, Nat.reduceLeDiff, Nat.reduceEqDiff, Nat.reduceDiv, Nat.reduceMod, Nat.reducePow, Nat.reduceBEq, Nat.reduceBNe, Int.reduceLT, Int.reduceLE, Int.reduceGT, Int.reduceGE, Int.reduceBEq, Int.reduceBNe, Int.reduceToNat, Int.reduceAdd, Int.reduceSub, Int.reduceMul, Int.reduceEq, Int.reduceNeg, reduceCtorEq, decide_true, decide_false, Bool.false_eq_true, ty3, ty4, ty5, ty9, ty22, ty24, ty30, ty31, ty32, ty35, ty37, ty38, ty54, ty55, ty60, ty84, eq24, eq55, hl, l1, en, en', bl, ml, sl, n1, n2]
        refine Lwp.ret (post_val (v := .tup [.agg (ints .u64 md), .nili]) ?_ ?_)
        · simp only [go_sem, List.isEmpty_nil, isC, eq_self, reduceIte, Nat.reduceAdd, Nat.reduceMul, Nat.reduceSub, Nat.reduceLT, Nat.reduceLeDiff, Nat.reduceEqDiff, Nat.reduceDiv, Nat.reduceMod, Nat.reducePow, Nat.reduceBEq, Nat.reduceBNe, Int.reduceLT, Int.reduceLE, Int.reduceGT, Int.reduceGE, Int.reduceBEq, Int.reduceBNe, Int.reduceToNat, Int.reduceAdd, Int.reduceSub, Int.reduceMul, Int.reduceEq, Int.reduceNeg, reduceCtorEq, decide_true, decide_false, Bool.false_eq_true, ty60, ml]
        · rw [nv]; simp only [go_sem, List.isEmpty_nil, isC, eq_self, reduceIte, Nat.reduceAdd, Nat.reduceMul, Nat.reduceSub, Nat.reduceLT, Nat.reduceLeDiff, Nat.reduceEqDiff, Nat.reduceDiv, Nat.reduceMod, Nat.reducePow, Nat.reduceBEq, Nat.reduceBNe, Int.reduceLT, Int.reduceLE, Int.reduceGT, Int.reduceGE, Int.reduceBEq, Int.reduceBNe, Int.reduceToNat, Int.reduceAdd, Int.reduceSub, Int.reduceMul, Int.reduceEq, Int.reduceNeg, reduceCtorEq, decide_true, decide_false, Bool.false_eq_true]
  · have nv : newV m = .tup [.agg (ints .u64 (List.replicate 13 0)), .iface 35 (.int .i64 1)] := by rw [newV, if_neg hG]
    have done : ∀ (Q : AE → AState → Prop) (env : List (Nat × AV)) (nx : Nat), (∀ st, Post (tb Try.prog [(27, S27), (60, S60)] []) [.cell 2 60, .tmp 3] ⟨newV m, none⟩ .ret st → Q .ret st) → find env 2 = some (.own 1 0) → Lwp okDraw (tb Try.prog [(27, S27), (60, S60)] []) F ((LC.region L44r2).seq .ret) Q { nt := 45, env := env, mem := [(1, ints .u64 (List.replicate 13 0)), (0, ints .u64 m)], next := nx } := by
      intro Q env nx hQ e2
      refine Lwp.seq (Lwp.regI hT ?_)
      simp only [L44r2, go_sem, List.isEmpty_nil, isC, eq_self, reduceIte, Nat.reduceAdd, Nat.reduceMul, Nat.reduceSub, Nat.reduceLT, Nat.reduceLeDiff, Nat.reduceEqDiff, Nat.reduceDiv, Nat.reduceMod, Nat.reducePow, Nat.reduceBEq, Nat.reduceBNe, Int.reduceLT, Int.reduceLE, Int.reduceGT, Int.reduceGE, Int.reduceBEq, Int.reduceBNe, Int.reduceToNat, Int.reduceAdd, Int.reduceSub, Int.reduceMul, Int.reduceEq, Int.reduceNeg, reduceCtorEq, decide_true, decide_false, Bool.false_eq_true, ty3, ty4, ty5, ty9, ty22, ty24, ty30, ty31, ty32, ty35, ty37, ty38, ty54, ty55, ty60, ty84, eq24, eq55, e2]
      refine Lwp.ret (hQ _ (post_val (v := .tup [.agg (ints .u64 (List.replicate 13 0)), .iface 35 (.int .i64 1)]) ?_ ?_))
      · simp only [go_sem, List.isEmpty_nil, isC, eq_self, reduceIte, Nat.reduceAdd, Nat.reduceMul, Nat.reduceSub, Nat.reduceLT, Nat.reduceLeDiff, Nat.reduceEqDiff, Nat.reduceDiv, Nat.reduceMod, Nat.reducePow, Nat.reduceBEq, Nat.reduceBNe, Int.reduceLT, Int.reduceLE, Int.reduceGT, Int.reduceGE, Int.reduceBEq, Int.reduceBNe, Int.reduceToNat, Int.reduceAdd, Int.reduceSub, Int.reduceMul, Int.reduceEq, Int.reduceNeg, reduceCtorEq, decide_true, decide_false, Bool.false_eq_true, ty60, e2]
      · rw [nv]; simp only [go_sem, List.isEmpty_nil, isC, eq_self, reduceIte, Nat.reduceAdd, Nat.reduceMul, Nat.reduceSub, Nat.reduceLT, Nat.reduceLeDiff, Nat.reduceEqDiff, Nat.reduceDiv, Nat.reduceMod, Nat.reducePow, Nat.reduceBEq, Nat.reduceBNe, Int.reduceLT, Int.reduceLE, Int.reduceGT, Int.reduceGE, Int.reduceBEq, Int.reduceBNe, Int.reduceToNat, Int.reduceAdd, Int.reduceSub, Int.reduceMul, Int.reduceEq, Int.reduceNeg, reduceCtorEq, decide_true, decide_false, Bool.false_eq_true]
    by_cases hp : m.getD 0 0 % 2 = 1
    · have c1 : ((m0 : Int).tmod 2 == 0) = false := by rw [hm0] at hp; rw [Int.tmod_eq_emod_of_nonneg (by omega), hp]; rfl
      have c2 : m.getD 5 0 < 9223372036854775808 := by
        refine Int.not_le.1 fun h => hG (hgi.2 ⟨hp, h⟩)
      simp only [L44r1, go_sem, List.isEmpty_nil, isC, eq_self, reduceIte, Nat.reduceAdd, Nat.reduceMul, Nat.reduceSub, Nat.reduceLT, Nat.reduceLeDiff, Nat.reduceEqDiff, Nat.reduceDiv, Nat.reduceMod, Nat.reducePow, Nat.reduceBEq, Nat.reduceBNe, Int.reduceLT, Int.reduceLE, Int.reduceGT, Int.reduceGE, Int.reduceBEq, Int.reduceBNe, Int.reduceToNat, Int.reduceAdd, Int.reduceSub, Int.reduceMul, Int.reduceEq, Int.reduceNeg, reduceCtorEq, decide_true, decide_false, Bool.false_eq_true, ty3, ty22, ty24, hl, hm0, c1, c2]
      refine Lwp.cond rfl (fun _ => ?_) (fun h => by cases h)
      exact done _ _ _ (fun _ h => h) rfl
    · have c1 : ((m0 : Int).tmod 2 == 0) = true := by
        have : (m0 : Int) % 2 = 0 := by omega
        rw [Int.tmod_eq_emod_of_nonneg (by omega), this]; rfl
      simp only [L44r1, go_sem, List.isEmpty_nil, isC, eq_self, reduceIte, Nat.reduceAdd, Nat.reduceMul, Nat.reduceSub, Nat.reduceLT, Nat.reduceLeDiff, Nat.reduceEqDiff, Nat.reduceDiv, Nat.reduceMod, Nat.reducePow, Nat.reduceBEq, Nat.reduceBNe, Int.reduceLT, Int.reduceLE, Int.reduceGT, Int.reduceGE, Int.reduceBEq, Int.reduceBNe, Int.reduceToNat, Int.reduceAdd, Int.reduceSub, Int.reduceMul, Int.reduceEq, Int.reduceNeg, reduceCtorEq, decide_true, decide_false, Bool.false_eq_true, ty3, ty22, ty24, hl, hm0, c1]
      refine Lwp.cond rfl (fun _ => ?_) (fun h => by cases h)
      exact done _ _ _ (fun _ h => h) rfl
end Eng

namespace Eng
open Go Go.Proofs
set_option linter.unusedSimpArgs false
set_option linter.unusedVariables false
-- TY: ty3, ty4, ty5, ty9, ty22, ty24, ty30, ty31, ty32, ty35, ty37, ty38, ty54, ty55, ty60, ty84, eq24, eq55
-- XN: 55=subX 58=addX

noncomputable def S48 : List AV → Option Ret := nz (sumOf (fun p : List Int × List Int => match p with | (t, d) => (U12 t) ∧ (ModL d)) (fun p : List Int × List Int => match p with | (t, d) => [.agg (ints .u64 t), .agg (ints .u64 d)]) (fun p : List Int × List Int => match p with | (t, d) => ⟨.agg (ints .u64 (lim6 (redN (v64 t) (v64 (d.take 6))))), none⟩))
theorem S48_eq (t : List Int) (d : List Int) (h0 : U12 t) (h1 : ModL d) : S48 [.agg (ints .u64 t), .agg (ints .u64 d)] = some ⟨.agg (ints .u64 (lim6 (redN (v64 t) (v64 (d.take 6))))), none⟩ :=
  sumOf_eq (dom := (fun p : List Int × List Int => match p with | (t, d) => (U12 t) ∧ (ModL d))) (enc := (fun p : List Int × List Int => match p with | (t, d) => [.agg (ints .u64 t), .agg (ints .u64 d)])) (out := (fun p : List Int × List Int => match p with | (t, d) => ⟨.agg (ints .u64 (lim6 (redN (v64 t) (v64 (d.take 6))))), none⟩)) (t, d) ⟨h0, h1⟩ (fun y _ e => by
    obtain ⟨y0, y1⟩ := y
    simp only [List.cons.injEq, AV.agg.injEq, AV.int.injEq, AV.slc.injEq, AV.iptr.injEq, AV.bool.injEq, AV.str.injEq, ints_injEq, dig_injEq,  Int.ofNat_inj, BitVec.toNat_inj, true_and, and_true] at e
    first | with_reducible rfl | simp only [e] | rfl)
theorem S48_inv {args : List AV} {r : Ret} (h : sumOf (fun p : List Int × List Int => match p with | (t, d) => (U12 t) ∧ (ModL d)) (fun p : List Int × List Int => match p with | (t, d) => [.agg (ints .u64 t), .agg (ints .u64 d)]) (fun p : List Int × List Int => match p with | (t, d) => ⟨.agg (ints .u64 (lim6 (redN (v64 t) (v64 (d.take 6))))), none⟩) args = some r) : ∃ (t : List Int) (d : List Int), ((U12 t) ∧ (ModL d)) ∧ args = [.agg (ints .u64 t), .agg (ints .u64 d)] ∧ r = ⟨.agg (ints .u64 (lim6 (redN (v64 t) (v64 (d.take 6))))), none⟩ := by
  obtain ⟨x, h1, h2, h3⟩ := sumOf_inv h
  obtain ⟨t, d⟩ := x
  exact ⟨t, d, h1, h2.symm, h3⟩


def St48 (d : List Int) (i : Nat) (t : List Int) (o : Nat) : AState := { nt := 98, env := [(2, .own 0 0), (3, .own 1 0), (4, .own 2 0), (5, .int .u64 o), (16, .int .i64 i)], mem := [(0, ints .u64 t), (1, ints .u64 d), (2, ints .u64 (List.replicate 6 0))], next := 200 }
def St48j (d : List Int) (i : Nat) (o q : Nat) (j : Nat) (t : List Int) (c : Nat) : AState := { nt := 98, env := [(2, .own 0 0), (3, .own 1 0), (4, .own 2 0), (5, .int .u64 o), (6, .int .i64 i), (7, .int .u64 q), (8, .int .u64 c), (16, .int .i64 i), (25, .int .i64 j)], mem := [(0, ints .u64 t), (1, ints .u64 d), (2, ints .u64 (List.replicate 6 0))], next := 400 }
def St48k (d : List Int) (i : Nat) (o : Nat) (j : Nat) (t : List Int) (c : Nat) : AState := { nt := 98, env := [(2, .own 0 0), (3, .own 1 0), (4, .own 2 0), (5, .int .u64 o), (8, .int .u64 c), (14, .int .i64 j), (16, .int .i64 i)], mem := [(0, ints .u64 t), (1, ints .u64 d), (2, ints .u64 (List.replicate 6 0))], next := 600 }

set_option maxRecDepth 100000 in
theorem snd48 : SndE Try.prog NoG 48 S48 := by
  refine snd_nz (snd_by [(59, S59), (62, S62)] [(58, addX)] Try.func48 (by kernel_rfl) lite48 nt48 rs48 ⟨snd59, snd62, trivial⟩ ⟨ext58, trivial⟩ (fun hT args r h => ?_))
  obtain ⟨t, d, ⟨hd0, hd1⟩, rfl, rfl⟩ := S48_inv h
  clear h
  have hM := hM0
  refine ⟨Nat.le_of_ble_eq_true rfl, fun F => ?_⟩
  unfold L48
  obtain ⟨m, hG, hmd⟩ := hd1
  have hU := hG.1
  have hm := hU.v64_lt
  have hodd := hG.2.1
  have h2 := hG.2.2
  have dl : d.length = 13 := by rw [hmd]; exact modL_len hU
  have dt : d.take 6 = m := by rw [hmd]; exact modL_take hU
  have da : ∀ j, j < 6 → d.getD j 0 = ((v64 m / 18446744073709551616 ^ j % 18446744073709551616 : Nat) : Int) := fun j hj => by rw [hmd, modL_at hU hj]; exact v64_getD hU.2 j
  have di : d.getD 6 0 = ((negInv (m.getD 0 0).toNat : Nat) : Int) := by rw [hmd]; exact modL_inv hU
  have hinv := good_inv hG
  have hil := negInv_lt (m.getD 0 0).toNat
  have tl := hd0.1
  have hTb : v64 t < 18446744073709551616 ^ 12 := by have := v64_lt hd0.2; rwa [tl] at this
  have hfirst := out_first (m := v64 m) tl hd0.2 rfl
  have hel := hU.eq_lim
  have f62 := fun (x c : Nat) (hx : x < 18446744073709551616 ^ 6) (hc : c ≤ 1) => S62_lim hc hx hm
  rw [hel] at f62
  rw [dt]
  generalize negInv (m.getD 0 0).toNat = inv at *
  clear hmd
  generalize hTT : v64 t = T at *
  refine Lwp.seq (Lwp.regI hT ?_)
  simp only [L48r0, go_sem, List.isEmpty_nil, isC, eq_self, reduceIte, Nat.reduceAdd, Nat.reduceMul, Nat.reduceSub, Nat.reduceLT, Nat.reduceLeDiff, Nat.reduceEqDiff, Nat.reduceDiv, Nat.reduceMod, Nat.reducePow, Nat.reduceBEq, Nat.reduceBNe, Int.reduceLT, Int.reduceLE, Int.reduceGT, Int.reduceGE, Int.reduceBEq, Int.reduceBNe, Int.reduceToNat, Int.reduceAdd, Int.reduceSub, Int.reduceMul, Int.reduceEq, Int.reduceNeg, reduceCtorEq, decide_true, decide_false, Bool.false_eq_true, ty3, ty4, ty5, ty9, ty22, ty24, ty30, ty31, ty32, ty35, ty37, ty38, ty54, ty55, ty60, ty84, eq24, eq55, tl, dl]
  refine Lwp.seq (Lwp.regI hT ?_)
  simp only [L48r1, go_sem, List.isEmpty_nil, isC, eq_self, reduceIte, Nat.reduceAdd, Nat.reduceMul, Nat.reduceSub, Nat.reduceLT, Nat.reduceLeDiff, Nat.reduceEqDiff, Nat.reduceDiv, Nat.reduceMod, Nat.reducePow, Nat.reduceBEq, Nat.reduceBNe, Int.reduceLT, Int.reduceLE, Int.reduceGT, Int.reduceGE, Int.reduceBEq, Int.reduceBNe, Int.reduceToNat, Int.reduceAdd, Int.reduceSub, Int.reduceMul, Int.reduceEq, Int.reduceNeg, reduceCtorEq, decide_true, decide_false, Bool.false_eq_true, ty3, ty4, ty5, ty9, ty22, ty24, ty30, ty31, ty32, ty35, ty37, ty38, ty54, ty55, ty60, ty84, eq24, eq55]
  refine Lwp.seq ?_
  refine Lwp.seq (Lwp.regI hT ?_)
  simp only [L48r2, go_sem, List.isEmpty_nil, isC, eq_self, reduceIte, Nat.reduceAdd, Nat.reduceMul, Nat.reduceSub, Nat.reduceLT, Nat.reduceLeDiff, Nat.reduceEqDiff, Nat.reduceDiv, Nat.reduceMod, Nat.reducePow, Nat.reduceBEq, Nat.reduceBNe, Int.reduceLT, Int.reduceLE, Int.reduceGT, Int.reduceGE, Int.reduceBEq, Int.reduceBNe, Int.reduceToNat, Int.reduceAdd, Int.reduceSub, Int.reduceMul, Int.reduceEq, Int.reduceNeg, reduceCtorEq, decide_true, decide_false, Bool.false_eq_true, ty3, ty4, ty5, ty9, ty22, ty24, ty30, ty31, ty32, ty35, ty37, ty38, ty54, ty55, ty60, ty84, eq24, eq55]
  refine Lwp.block (Lwp.whl (fun p : Nat × List Int × Nat => St48 d p.1 p.2.1 p.2.2) (fun p => p.1 ≤ 6 ∧ OutI T (v64 m) p.1 p.2.1 p.2.2) (fun p => 6 - p.1) (0, t, 0) ⟨by simp, hfirst⟩ ?_ ?_)
  · refine weak_of rfl ?_ ?_ ?_
    · (simp only [go_sem, List.isEmpty_nil, isC, eq_self, reduceIte, Nat.reduceAdd, Nat.reduceMul, Nat.reduceSub, Nat.reduceLT, Nat.reduceLeDiff, Nat.reduceEqDiff, Nat.reduceDiv, Nat.reduceMod, Nat.reducePow, Nat.reduceBEq, Nat.reduceBNe, Int.reduceLT, Int.reduceLE, Int.reduceGT, Int.reduceGE, Int.reduceBEq, Int.reduceBNe, Int.reduceToNat, Int.reduceAdd, Int.reduceSub, Int.reduceMul, Int.reduceEq, Int.reduceNeg, reduceCtorEq, decide_true, decide_false, Bool.false_eq_true, St48]; try rfl)
    · (simp only [go_sem, List.isEmpty_nil, isC, eq_self, reduceIte, Nat.reduceAdd, Nat.reduceMul, Nat.reduceSub, Nat.reduceLT, Nat.reduceLeDiff, Nat.reduceEqDiff, Nat.reduceDiv, Nat.reduceMod, Nat.reducePow, Nat.reduceBEq, Nat.reduceBNe, Int.reduceLT, Int.reduceLE, Int.reduceGT, Int.reduceGE, Int.reduceBEq, Int.reduceBNe, Int.reduceToNat, Int.reduceAdd, Int.reduceSub, Int.reduceMul, Int.reduceEq, Int.reduceNeg, reduceCtorEq, decide_true, decide_false, Bool.false_eq_true, St48]; try rfl)
    · (simp only [go_sem, List.isEmpty_nil, isC, eq_self, reduceIte, Nat.reduceAdd, Nat.reduceMul, Nat.reduceSub, Nat.reduceLT, Nat.reduceLeDiff, Nat.reduceEqDiff, Nat.reduceDiv, Nat.reduceMod, Nat.reducePow, Nat.reduceBEq, Nat.reduceBNe, Int.reduceLT, Int.reduceLE, Int.reduceGT, Int.reduceGE, Int.reduceBEq, Int.reduceBNe, Int.reduceToNat, Int.reduceAdd, Int.reduceSub, Int.reduceMul, Int.reduceEq, Int.reduceNeg, reduceCtorEq, decide_true, decide_false, Bool.false_eq_true, St48]; try rfl)
  · rintro ⟨i, t, o⟩ ⟨hi6, hO⟩
    simp only at hi6 hO
    have tl := hO.len
    have ho1 := hO.le hi6 hTb hm
    unfold St48
    by_cases hi : i < 6
    · have i1 : (i : Int) < 6 := by omega
      have i2 : (0 : Int) ≤ i := by omega
      have i3 : (i : Int) < 12 := by omega
      have i4 : i < 12 := by omega
      have i5 : i ≤ 11 := by omega
      have iw := wrap_succ hi (by decide)
      have hti := hO.d.at i
      obtain ⟨tv, htv⟩ : ∃ n : Nat, t.getD i 0 = (n : Int) := ⟨(t.getD i 0).toNat, by omega⟩
      have htvt : (t.getD i 0).toNat = tv := by omega
      have hq : IntKind.u64.wrap ((tv : Int) * (inv : Int)) = ((tv * inv % 18446744073709551616 : Nat) : Int) := by rw [wrap_u64_mod, ← Int.natCast_mul]; omega
      have hql : tv * inv % 18446744073709551616 < 18446744073709551616 := Nat.mod_lt _ (by decide)
      have hnx := fun (t' : List Int) (c : Nat) (h : CarI (v64 t + tv * inv % 18446744073709551616 * v64 m * 18446744073709551616 ^ i) i 12 t' c) => out_next hi hO hinv (by rw [htvt]) h
      have rf := red_first (q := tv * inv % 18446744073709551616) (m := v64 m) (i := i) tl hO.d
      generalize tv * inv % 18446744073709551616 = q at *
      have d6 : (6 : Nat) < 13 := by decide
      refine Lwp.seq (Lwp.regI hT ?_)
      simp only [L48r3, go_sem, List.isEmpty_nil, isC, eq_self, reduceIte, Nat.reduceAdd, Nat.reduceMul, Nat.reduceSub, Nat.reduceLT, Nat.reduceLeDiff, Nat.reduceEqDiff, Nat.reduceDiv, Nat.reduceMod, Nat.reducePow, Nat.reduceBEq, Nat.reduceBNe, Int.reduceLT, Int.reduceLE, Int.reduceGT, Int.reduceGE, Int.reduceBEq, Int.reduceBNe, Int.reduceToNat, Int.reduceAdd, Int.reduceSub, Int.reduceMul, Int.reduceEq, Int.reduceNeg, reduceCtorEq, decide_true, decide_false, Bool.false_eq_true, ty3, ty4, ty5, ty9, ty22, ty24, ty30, ty31, ty32, ty35, ty37, ty38, ty54, ty55, ty60, ty84, eq24, eq55, i1]
      refine Lwp.seq (Lwp.cond rfl (fun _ => Lwp.skip ?_) (fun h => by cases h))
      simp only [go_sem, List.isEmpty_nil, isC, eq_self, reduceIte, Nat.reduceAdd, Nat.reduceMul, Nat.reduceSub, Nat.reduceLT, Nat.reduceLeDiff, Nat.reduceEqDiff, Nat.reduceDiv, Nat.reduceMod, Nat.reducePow, Nat.reduceBEq, Nat.reduceBNe, Int.reduceLT, Int.reduceLE, Int.reduceGT, Int.reduceGE, Int.reduceBEq, Int.reduceBNe, Int.reduceToNat, Int.reduceAdd, Int.reduceSub, Int.reduceMul, Int.reduceEq, Int.reduceNeg, reduceCtorEq, decide_true, decide_false, Bool.false_eq_true]
      refine Lwp.seq (Lwp.block ?_)
      refine Lwp.seq (Lwp.regI hT ?_)
      simp only [L48r4, go_sem, List.isEmpty_nil, isC, eq_self, reduceIte, Nat.reduceAdd, Nat.reduceMul, Nat.reduceSub, Nat.reduceLT, Nat.reduceLeDiff, Nat.reduceEqDiff, Nat.reduceDiv, Nat.reduceMod, Nat.reducePow, Nat.reduceBEq, Nat.reduceBNe, Int.reduceLT, Int.reduceLE, Int.reduceGT, Int.reduceGE, Int.reduceBEq, Int.reduceBNe, Int.reduceToNat, Int.reduceAdd, Int.reduceSub, Int.reduceMul, Int.reduceEq, Int.reduceNeg, reduceCtorEq, decide_true, decide_false, Bool.false_eq_true, ty3, ty4, ty5, ty9, ty22, ty24, ty30, ty31, ty32, ty35, ty37, ty38, ty54, ty55, ty60, ty84, eq24, eq55]
      refine Lwp.seq (Lwp.regD hT hM ?_)
      simp only [L48r5, go_sem, List.isEmpty_nil, isC, eq_self, reduceIte, Nat.reduceAdd, Nat.reduceMul, Nat.reduceSub, Nat.reduceLT, Nat.reduceLeDiff, Nat.reduceEqDiff, Nat.reduceDiv, Nat.reduceMod, Nat.reducePow, Nat.reduceBEq, Nat.reduceBNe, Int.reduceLT, Int.reduceLE, Int.reduceGT, Int.reduceGE, Int.reduceBEq, Int.reduceBNe, Int.reduceToNat, Int.reduceAdd, Int.reduceSub, Int.reduceMul, Int.reduceEq, Int.reduceNeg, reduceCtorEq, decide_true, decide_false, Bool.false_eq_true, ty3, ty4, ty5, ty9, ty22, ty24, ty30, ty31, ty32, ty35, ty37, ty38, ty54, ty55, ty60, ty84, eq24, eq55, i2, i3, i4, i5, tl, dl, htv, di, d6, hq]
      refine Lwp.seq (Lwp.regI hT ?_)
      simp only [L48r6, go_sem, List.isEmpty_nil, isC, eq_self, reduceIte, Nat.reduceAdd, Nat.reduceMul, Nat.reduceSub, Nat.reduceLT, Nat.reduceLeDiff, Nat.reduceEqDiff, Nat.reduceDiv, Nat.reduceMod, Nat.reducePow, Nat.reduceBEq, Nat.reduceBNe, Int.reduceLT, Int.reduceLE, Int.reduceGT, Int.reduceGE, Int.reduceBEq, Int.reduceBNe, Int.reduceToNat, Int.reduceAdd, Int.reduceSub, Int.reduceMul, Int.reduceEq, Int.reduceNeg, reduceCtorEq, decide_true, decide_false, Bool.false_eq_true, ty3, ty4, ty5, ty9, ty22, ty24, ty30, ty31, ty32, ty35, ty37, ty38, ty54, ty55, ty60, ty84, eq24, eq55]
      refine Lwp.seq ?_
      refine Lwp.seq (Lwp.regI hT ?_)
      simp only [L48r7, go_sem, List.isEmpty_nil, isC, eq_self, reduceIte, Nat.reduceAdd, Nat.reduceMul, Nat.reduceSub, Nat.reduceLT, Nat.reduceLeDiff, Nat.reduceEqDiff, Nat.reduceDiv, Nat.reduceMod, Nat.reducePow, Nat.reduceBEq, Nat.reduceBNe, Int.reduceLT, Int.reduceLE, Int.reduceGT, Int.reduceGE, Int.reduceBEq, Int.reduceBNe, Int.reduceToNat, Int.reduceAdd, Int.reduceSub, Int.reduceMul, Int.reduceEq, Int.reduceNeg, reduceCtorEq, decide_true, decide_false, Bool.false_eq_true, ty3, ty4, ty5, ty9, ty22, ty24, ty30, ty31, ty32, ty35, ty37, ty38, ty54, ty55, ty60, ty84, eq24, eq55]
      generalize hV0 : v64 t = V0 at *
      refine Lwp.block (Lwp.whl (fun p : Nat × List Int × Nat => St48j d i o q p.1 p.2.1 p.2.2) (fun p => p.1 ≤ 6 ∧ RedI V0 q (v64 m) i p.1 t p.2.1 p.2.2) (fun p => 6 - p.1) (0, t, 0) ⟨by simp, rf⟩ ?_ ?_)
      · refine weak_of rfl ?_ ?_ ?_
        · (simp only [go_sem, List.isEmpty_nil, isC, eq_self, reduceIte, Nat.reduceAdd, Nat.reduceMul, Nat.reduceSub, Nat.reduceLT, Nat.reduceLeDiff, Nat.reduceEqDiff, Nat.reduceDiv, Nat.reduceMod, Nat.reducePow, Nat.reduceBEq, Nat.reduceBNe, Int.reduceLT, Int.reduceLE, Int.reduceGT, Int.reduceGE, Int.reduceBEq, Int.reduceBNe, Int.reduceToNat, Int.reduceAdd, Int.reduceSub, Int.reduceMul, Int.reduceEq, Int.reduceNeg, reduceCtorEq, decide_true, decide_false, Bool.false_eq_true, St48j]; try rfl)
        · (simp only [go_sem, List.isEmpty_nil, isC, eq_self, reduceIte, Nat.reduceAdd, Nat.reduceMul, Nat.reduceSub, Nat.reduceLT, Nat.reduceLeDiff, Nat.reduceEqDiff, Nat.reduceDiv, Nat.reduceMod, Nat.reducePow, Nat.reduceBEq, Nat.reduceBNe, Int.reduceLT, Int.reduceLE, Int.reduceGT, Int.reduceGE, Int.reduceBEq, Int.reduceBNe, Int.reduceToNat, Int.reduceAdd, Int.reduceSub, Int.reduceMul, Int.reduceEq, Int.reduceNeg, reduceCtorEq, decide_true, decide_false, Bool.false_eq_true, St48j]; try rfl)
        · (simp only [go_sem, List.isEmpty_nil, isC, eq_self, reduceIte, Nat.reduceAdd, Nat.reduceMul, Nat.reduceSub, Nat.reduceLT, Nat.reduceLeDiff, Nat.reduceEqDiff, Nat.reduceDiv, Nat.reduceMod, Nat.reducePow, Nat.reduceBEq, Nat.reduceBNe, Int.reduceLT, Int.reduceLE, Int.reduceGT, Int.reduceGE, Int.reduceBEq, Int.reduceBNe, Int.reduceToNat, Int.reduceAdd, Int.reduceSub, Int.reduceMul, Int.reduceEq, Int.reduceNeg, reduceCtorEq, decide_true, decide_false, Bool.false_eq_true, St48j]; try rfl)
      · rintro ⟨j, s, c⟩ ⟨hj6, hI⟩
        simp only at hj6 hI
        have lo := hI.len
        have ho := hI.d.at (i + j)
        have hc := hI.cb
        unfold St48j
        by_cases hj : j < 6
        · have j1 : (j : Int) < 6 := by omega
          have j2 : (0 : Int) ≤ j := by omega
          have j3 : j < 13 := by omega
          have j5 : j + 1 ≤ 13 := by omega
          have j6 : j ≤ 12 := by omega
          have j4 := wrap_succ hj (by decide)
          have gb := da j hj
          have hyj : v64 m / 18446744073709551616 ^ j % 18446744073709551616 < 18446744073709551616 := Nat.mod_lt _ (by decide)
          have hN := red_next hi hj hI hql rfl
          generalize v64 m / 18446744073709551616 ^ j % 18446744073709551616 = yj at *
          obtain ⟨ov, hov⟩ : ∃ n : Nat, s.getD (i + j) 0 = (n : Int) := ⟨(s.getD (i + j) 0).toNat, by omega⟩
          have hovl : ov < 18446744073709551616 := by omega
          have hovt : (s.getD (i + j) 0).toNat = ov := by omega
          rw [hovt] at hN
          have hP : q * yj ≤ 18446744073709551615 * 18446744073709551615 := Nat.mul_le_mul (by omega) (by omega)
          have f59 := S59_eq q yj hql hyj
          have k1 : IntKind.i64.wrap ((i : Int) + (j : Int)) = ((i + j : Nat) : Int) := by rw [wrap_i64 (by omega) (by omega)]; omega
          have k2 : (0 : Int) ≤ ((i + j : Nat) : Int) := by omega
          have k3 : ((i + j : Nat) : Int) < 12 := by omega
          have k4 : i + j < 12 := by omega
          have k5 : i + j ≤ 11 := by omega
          generalize q * yj = P at *
          have g1 := addX_nat (P % 18446744073709551616) ov (by omega) hovl
          have g2 : IntKind.u64.wrap (((P / 18446744073709551616 : Nat) : Int) + (((P % 18446744073709551616 + ov) / 18446744073709551616 : Nat) : Int)) = ((P / 18446744073709551616 + (P % 18446744073709551616 + ov) / 18446744073709551616 : Nat) : Int) := by rw [wrap_u64 (by omega) (by omega)]; omega
          have g3 := addX_nat ((P % 18446744073709551616 + ov) % 18446744073709551616) c (by omega) hc
          have g4 : IntKind.u64.wrap (((P / 18446744073709551616 + (P % 18446744073709551616 + ov) / 18446744073709551616 : Nat) : Int) + ((((P % 18446744073709551616 + ov) % 18446744073709551616 + c) / 18446744073709551616 : Nat) : Int)) = (((P + ov + c) / 18446744073709551616 : Nat) : Int) := by rw [wrap_u64 (by omega) (by omega)]; omega
          have g5 : (((P % 18446744073709551616 + ov) % 18446744073709551616 + c) % 18446744073709551616 : Nat) = (P + ov + c) % 18446744073709551616 := by omega
          generalize i + j = x at *
          refine Lwp.seq (Lwp.regI hT ?_)
          simp only [L48r8, go_sem, List.isEmpty_nil, isC, eq_self, reduceIte, Nat.reduceAdd, Nat.reduceMul, Nat.reduceSub, Nat.reduceLT, Nat.reduceLeDiff, Nat.reduceEqDiff, Nat.reduceDiv, Nat.reduceMod, Nat.reducePow, Nat.reduceBEq, Nat.reduceBNe, Int.reduceLT, Int.reduceLE, Int.reduceGT, Int.reduceGE, Int.reduceBEq, Int.reduceBNe, Int.reduceToNat, Int.reduceAdd, Int.reduceSub, Int.reduceMul, Int.reduceEq, Int.reduceNeg, reduceCtorEq, decide_true, decide_false, Bool.false_eq_true, ty3, ty4, ty5, ty9, ty22, ty24, ty30, ty31, ty32, ty35, ty37, ty38, ty54, ty55, ty60, ty84, eq24, eq55, j1]
          refine Lwp.seq (Lwp.cond rfl (fun _ => Lwp.skip ?_) (fun h => by cases h))
          simp only [go_sem, List.isEmpty_nil, isC, eq_self, reduceIte, Nat.reduceAdd, Nat.reduceMul, Nat.reduceSub, Nat.reduceLT, Nat.reduceLeDiff, Nat.reduceEqDiff, Nat.reduceDiv, Nat.reduceMod, Nat.reducePow, Nat.reduceBEq, Nat.reduceBNe, Int.reduceLT, Int.reduceLE, Int.reduceGT, Int.reduceGE, Int.reduceBEq, Int.reduceBNe, Int.reduceToNat, Int.reduceAdd, Int.reduceSub, Int.reduceMul, Int.reduceEq, Int.reduceNeg, reduceCtorEq, decide_true, decide_false, Bool.false_eq_true]
          refine Lwp.seq (Lwp.block ?_)
          refine Lwp.seq (Lwp.regI hT ?_)
          simp only [L48r9, go_sem, List.isEmpty_nil, isC, eq_self, reduceIte, Nat.reduceAdd, Nat.reduceMul, Nat.reduceSub, Nat.reduceLT, Nat.reduceLeDiff, Nat.reduceEqDiff, Nat.reduceDiv, Nat.reduceMod, Nat.reducePow, Nat.reduceBEq, Nat.reduceBNe, Int.reduceLT, Int.reduceLE, Int.reduceGT, Int.reduceGE, Int.reduceBEq, Int.reduceBNe, Int.reduceToNat, Int.reduceAdd, Int.reduceSub, Int.reduceMul, Int.reduceEq, Int.reduceNeg, reduceCtorEq, decide_true, decide_false, Bool.false_eq_true, ty3, ty4, ty5, ty9, ty22, ty24, ty30, ty31, ty32, ty35, ty37, ty38, ty54, ty55, ty60, ty84, eq24, eq55]
          refine Lwp.seq (Lwp.regI hT ?_)
          simp only [L48r10, go_sem, List.isEmpty_nil, isC, eq_self, reduceIte, Nat.reduceAdd, Nat.reduceMul, Nat.reduceSub, Nat.reduceLT, Nat.reduceLeDiff, Nat.reduceEqDiff, Nat.reduceDiv, Nat.reduceMod, Nat.reducePow, Nat.reduceBEq, Nat.reduceBNe, Int.reduceLT, Int.reduceLE, Int.reduceGT, Int.reduceGE, Int.reduceBEq, Int.reduceBNe, Int.reduceToNat, Int.reduceAdd, Int.reduceSub, Int.reduceMul, Int.reduceEq, Int.reduceNeg, reduceCtorEq, decide_true, decide_false, Bool.false_eq_true, ty3, ty4, ty5, ty9, ty22, ty24, ty30, ty31, ty32, ty35, ty37, ty38, ty54, ty55, ty60, ty84, eq24, eq55, j1, j2, j3, hj, gb, f59, dl]
          refine Lwp.seq (Lwp.regI hT ?_)
          simp only [L48r11, go_sem, List.isEmpty_nil, isC, eq_self, reduceIte, Nat.reduceAdd, Nat.reduceMul, Nat.reduceSub, Nat.reduceLT, Nat.reduceLeDiff, Nat.reduceEqDiff, Nat.reduceDiv, Nat.reduceMod, Nat.reducePow, Nat.reduceBEq, Nat.reduceBNe, Int.reduceLT, Int.reduceLE, Int.reduceGT, Int.reduceGE, Int.reduceBEq, Int.reduceBNe, Int.reduceToNat, Int.reduceAdd, Int.reduceSub, Int.reduceMul, Int.reduceEq, Int.reduceNeg, reduceCtorEq, decide_true, decide_false, Bool.false_eq_true, ty3, ty4, ty5, ty9, ty22, ty24, ty30, ty31, ty32, ty35, ty37, ty38, ty54, ty55, ty60, ty84, eq24, eq55]
          refine Lwp.seq (Lwp.regI hT ?_)
          simp only [L48r12, go_sem, List.isEmpty_nil, isC, eq_self, reduceIte, Nat.reduceAdd, Nat.reduceMul, Nat.reduceSub, Nat.reduceLT, Nat.reduceLeDiff, Nat.reduceEqDiff, Nat.reduceDiv, Nat.reduceMod, Nat.reducePow, Nat.reduceBEq, Nat.reduceBNe, Int.reduceLT, Int.reduceLE, Int.reduceGT, Int.reduceGE, Int.reduceBEq, Int.reduceBNe, Int.reduceToNat, Int.reduceAdd, Int.reduceSub, Int.reduceMul, Int.reduceEq, Int.reduceNeg, reduceCtorEq, decide_true, decide_false, Bool.false_eq_true, ty3, ty4, ty5, ty9, ty22, ty24, ty30, ty31, ty32, ty35, ty37, ty38, ty54, ty55, ty60, ty84, eq24, eq55, k1, k2, k3, k4, k5, hov, lo, g1]
          refine Lwp.seq (Lwp.regI hT ?_)
          simp only [L48r13, go_sem, List.isEmpty_nil, isC, eq_self, reduceIte, Nat.reduceAdd, Nat.reduceMul, Nat.reduceSub, Nat.reduceLT, Nat.reduceLeDiff, Nat.reduceEqDiff, Nat.reduceDiv, Nat.reduceMod, Nat.reducePow, Nat.reduceBEq, Nat.reduceBNe, Int.reduceLT, Int.reduceLE, Int.reduceGT, Int.reduceGE, Int.reduceBEq, Int.reduceBNe, Int.reduceToNat, Int.reduceAdd, Int.reduceSub, Int.reduceMul, Int.reduceEq, Int.reduceNeg, reduceCtorEq, decide_true, decide_false, Bool.false_eq_true, ty3, ty4, ty5, ty9, ty22, ty24, ty30, ty31, ty32, ty35, ty37, ty38, ty54, ty55, ty60, ty84, eq24, eq55, g2]
          refine Lwp.seq (Lwp.regI hT ?_)
          simp only [L48r14, go_sem, List.isEmpty_nil, isC, eq_self, reduceIte, Nat.reduceAdd, Nat.reduceMul, Nat.reduceSub, Nat.reduceLT, Nat.reduceLeDiff, Nat.reduceEqDiff, Nat.reduceDiv, Nat.reduceMod, Nat.reducePow, Nat.reduceBEq, Nat.reduceBNe, Int.reduceLT, Int.reduceLE, Int.reduceGT, Int.reduceGE, Int.reduceBEq, Int.reduceBNe, Int.reduceToNat, Int.reduceAdd, Int.reduceSub, Int.reduceMul, Int.reduceEq, Int.reduceNeg, reduceCtorEq, decide_true, decide_false, Bool.false_eq_true, ty3, ty4, ty5, ty9, ty22, ty24, ty30, ty31, ty32, ty35, ty37, ty38, ty54, ty55, ty60, ty84, eq24, eq55, g3, g5]
          refine Lwp.regI hT ?_
          simp only [L48r15, go_sem, List.isEmpty_nil, isC, eq_self, reduceIte, Nat.reduceAdd, Nat.reduceMul, Nat.reduceSub, Nat.reduceLT, Nat.reduceLeDiff, Nat.reduceEqDiff, Nat.reduceDiv, Nat.reduceMod, Nat.reducePow, Nat.reduceBEq, Nat.reduceBNe, Int.reduceLT, Int.reduceLE, Int.reduceGT, Int.reduceGE, Int.reduceBEq, Int.reduceBNe, Int.reduceToNat, Int.reduceAdd, Int.reduceSub, Int.reduceMul, Int.reduceEq, Int.reduceNeg, reduceCtorEq, decide_true, decide_false, Bool.false_eq_true, ty3, ty4, ty5, ty9, ty22, ty24, ty30, ty31, ty32, ty35, ty37, ty38, ty54, ty55, ty60, ty84, eq24, eq55, k1, k2, k3, k4, k5, lo, g4]
          refine Lwp.regI hT ?_
          simp only [L48r16, go_sem, List.isEmpty_nil, isC, eq_self, reduceIte, Nat.reduceAdd, Nat.reduceMul, Nat.reduceSub, Nat.reduceLT, Nat.reduceLeDiff, Nat.reduceEqDiff, Nat.reduceDiv, Nat.reduceMod, Nat.reducePow, Nat.reduceBEq, Nat.reduceBNe, Int.reduceLT, Int.reduceLE, Int.reduceGT, Int.reduceGE, Int.reduceBEq, Int.reduceBNe, Int.reduceToNat, Int.reduceAdd, Int.reduceSub, Int.reduceMul, Int.reduceEq, Int.reduceNeg, reduceCtorEq, decide_true, decide_false, Bool.false_eq_true, ty3, ty4, ty5, ty9, ty22, ty24, ty30, ty31, ty32, ty35, ty37, ty38, ty54, ty55, ty60, ty84, eq24, eq55, j4]
          refine ⟨(j + 1, s.set x (((P + ov + c) % 18446744073709551616 : Nat) : Int), (P + ov + c) / 18446744073709551616), ⟨by simp only; omega, hN⟩, by simp only; omega, ?_⟩
          refine weak_of rfl ?_ ?_ ?_
          · (simp only [go_sem, List.isEmpty_nil, isC, eq_self, reduceIte, Nat.reduceAdd, Nat.reduceMul, Nat.reduceSub, Nat.reduceLT, Nat.reduceLeDiff, Nat.reduceEqDiff, Nat.reduceDiv, Nat.reduceMod, Nat.reducePow, Nat.reduceBEq, Nat.reduceBNe, Int.reduceLT, Int.reduceLE, Int.reduceGT, Int.reduceGE, Int.reduceBEq, Int.reduceBNe, Int.reduceToNat, Int.reduceAdd, Int.reduceSub, Int.reduceMul, Int.reduceEq, Int.reduceNeg, reduceCtorEq, decide_true, decide_false, Bool.false_eq_true]; try rfl)
          · (simp only [go_sem, List.isEmpty_nil, isC, eq_self, reduceIte, Nat.reduceAdd, Nat.reduceMul, Nat.reduceSub, Nat.reduceLT, Nat.reduceLeDiff, Nat.reduceEqDiff, Nat.reduceDiv, Nat.reduceMod, Nat.reducePow, Nat.reduceBEq, Nat.reduceBNe, Int.reduceLT, Int.reduceLE, Int.reduceGT, Int.reduceGE, Int.reduceBEq, Int.reduceBNe, Int.reduceToNat, Int.reduceAdd, Int.reduceSub, Int.reduceMul, Int.reduceEq, Int.reduceNeg, reduceCtorEq, decide_true, decide_false, Bool.false_eq_true]; try rfl)
          · (simp only [go_sem, List.isEmpty_nil, isC, eq_self, reduceIte, Nat.reduceAdd, Nat.reduceMul, Nat.reduceSub, Nat.reduceLT, Nat.reduceLeDiff, Nat.reduceEqDiff, Nat.reduceDiv, Nat.reduceMod, Nat.reducePow, Nat.reduceBEq, Nat.reduceBNe, Int.reduceLT, Int.reduceLE, Int.reduceGT, Int.reduceGE, Int.reduceBEq, Int.reduceBNe, Int.reduceToNat, Int.reduceAdd, Int.reduceSub, Int.reduceMul, Int.reduceEq, Int.reduceNeg, reduceCtorEq, decide_true, decide_false, Bool.false_eq_true]; try rfl)
        · have hj7 : j = 6 := by omega
          subst hj7
          have cf : CarI (V0 + q * v64 m * 18446744073709551616 ^ i) i (i + 6) s c := ⟨lo, hI.d, hc, by have := hI.v; rwa [Nat.mod_eq_of_lt hm] at this⟩
          have d3 : IntKind.i64.wrap ((i : Int) + 6) = ((i + 6 : Nat) : Int) := by rw [wrap_i64 (by omega) (by omega)]; omega
          refine Lwp.seq (Lwp.regI hT ?_)
          simp only [L48r8, go_sem, List.isEmpty_nil, isC, eq_self, reduceIte, Nat.reduceAdd, Nat.reduceMul, Nat.reduceSub, Nat.reduceLT, Nat.reduceLeDiff, Nat.reduceEqDiff, Nat.reduceDiv, Nat.reduceMod, Nat.reducePow, Nat.reduceBEq, Nat.reduceBNe, Int.reduceLT, Int.reduceLE, Int.reduceGT, Int.reduceGE, Int.reduceBEq, Int.reduceBNe, Int.reduceToNat, Int.reduceAdd, Int.reduceSub, Int.reduceMul, Int.reduceEq, Int.reduceNeg, reduceCtorEq, decide_true, decide_false, Bool.false_eq_true, ty3, ty4, ty5, ty9, ty22, ty24, ty30, ty31, ty32, ty35, ty37, ty38, ty54, ty55, ty60, ty84, eq24, eq55]
          refine Lwp.seq (Lwp.cond rfl (fun h => by cases h) (fun _ => Lwp.exit ?_))
          simp only [go_sem, List.isEmpty_nil, isC, eq_self, reduceIte, Nat.reduceAdd, Nat.reduceMul, Nat.reduceSub, Nat.reduceLT, Nat.reduceLeDiff, Nat.reduceEqDiff, Nat.reduceDiv, Nat.reduceMod, Nat.reducePow, Nat.reduceBEq, Nat.reduceBNe, Int.reduceLT, Int.reduceLE, Int.reduceGT, Int.reduceGE, Int.reduceBEq, Int.reduceBNe, Int.reduceToNat, Int.reduceAdd, Int.reduceSub, Int.reduceMul, Int.reduceEq, Int.reduceNeg, reduceCtorEq, decide_true, decide_false, Bool.false_eq_true]
          refine Lwp.seq (Lwp.regI hT ?_)
          simp only [L48r17, go_sem, List.isEmpty_nil, isC, eq_self, reduceIte, Nat.reduceAdd, Nat.reduceMul, Nat.reduceSub, Nat.reduceLT, Nat.reduceLeDiff, Nat.reduceEqDiff, Nat.reduceDiv, Nat.reduceMod, Nat.reducePow, Nat.reduceBEq, Nat.reduceBNe, Int.reduceLT, Int.reduceLE, Int.reduceGT, Int.reduceGE, Int.reduceBEq, Int.reduceBNe, Int.reduceToNat, Int.reduceAdd, Int.reduceSub, Int.reduceMul, Int.reduceEq, Int.reduceNeg, reduceCtorEq, decide_true, decide_false, Bool.false_eq_true, ty3, ty4, ty5, ty9, ty22, ty24, ty30, ty31, ty32, ty35, ty37, ty38, ty54, ty55, ty60, ty84, eq24, eq55]
          refine Lwp.seq ?_
          refine Lwp.seq (Lwp.regI hT ?_)
          simp only [L48r18, go_sem, List.isEmpty_nil, isC, eq_self, reduceIte, Nat.reduceAdd, Nat.reduceMul, Nat.reduceSub, Nat.reduceLT, Nat.reduceLeDiff, Nat.reduceEqDiff, Nat.reduceDiv, Nat.reduceMod, Nat.reducePow, Nat.reduceBEq, Nat.reduceBNe, Int.reduceLT, Int.reduceLE, Int.reduceGT, Int.reduceGE, Int.reduceBEq, Int.reduceBNe, Int.reduceToNat, Int.reduceAdd, Int.reduceSub, Int.reduceMul, Int.reduceEq, Int.reduceNeg, reduceCtorEq, decide_true, decide_false, Bool.false_eq_true, ty3, ty4, ty5, ty9, ty22, ty24, ty30, ty31, ty32, ty35, ty37, ty38, ty54, ty55, ty60, ty84, eq24, eq55, d3]
          refine Lwp.block (Lwp.whl (fun p : Nat × List Int × Nat => St48k d i o p.1 p.2.1 p.2.2) (fun p => p.1 ≤ 12 ∧ (p.1 = 12 → p.2.2 ≤ 1) ∧ CarI (V0 + q * v64 m * 18446744073709551616 ^ i) i p.1 p.2.1 p.2.2) (fun p => 12 - p.1) (i + 6, s, c) ⟨by simp only; omega, fun h => by simp only at h; omega, cf⟩ ?_ ?_)
          · refine weak_of rfl ?_ ?_ ?_
            · (simp only [go_sem, List.isEmpty_nil, isC, eq_self, reduceIte, Nat.reduceAdd, Nat.reduceMul, Nat.reduceSub, Nat.reduceLT, Nat.reduceLeDiff, Nat.reduceEqDiff, Nat.reduceDiv, Nat.reduceMod, Nat.reducePow, Nat.reduceBEq, Nat.reduceBNe, Int.reduceLT, Int.reduceLE, Int.reduceGT, Int.reduceGE, Int.reduceBEq, Int.reduceBNe, Int.reduceToNat, Int.reduceAdd, Int.reduceSub, Int.reduceMul, Int.reduceEq, Int.reduceNeg, reduceCtorEq, decide_true, decide_false, Bool.false_eq_true, St48k]; try rfl)
            · (simp only [go_sem, List.isEmpty_nil, isC, eq_self, reduceIte, Nat.reduceAdd, Nat.reduceMul, Nat.reduceSub, Nat.reduceLT, Nat.reduceLeDiff, Nat.reduceEqDiff, Nat.reduceDiv, Nat.reduceMod, Nat.reducePow, Nat.reduceBEq, Nat.reduceBNe, Int.reduceLT, Int.reduceLE, Int.reduceGT, Int.reduceGE, Int.reduceBEq, Int.reduceBNe, Int.reduceToNat, Int.reduceAdd, Int.reduceSub, Int.reduceMul, Int.reduceEq, Int.reduceNeg, reduceCtorEq, decide_true, decide_false, Bool.false_eq_true, St48k]; try rfl)
            · (simp only [go_sem, List.isEmpty_nil, isC, eq_self, reduceIte, Nat.reduceAdd, Nat.reduceMul, Nat.reduceSub, Nat.reduceLT, Nat.reduceLeDiff, Nat.reduceEqDiff, Nat.reduceDiv, Nat.reduceMod, Nat.reducePow, Nat.reduceBEq, Nat.reduceBNe, Int.reduceLT, Int.reduceLE, Int.reduceGT, Int.reduceGE, Int.reduceBEq, Int.reduceBNe, Int.reduceToNat, Int.reduceAdd, Int.reduceSub, Int.reduceMul, Int.reduceEq, Int.reduceNeg, reduceCtorEq, decide_true, decide_false, Bool.false_eq_true, St48k]; try rfl)
          · rintro ⟨k, s, c⟩ ⟨hk12, hkc, hC⟩
            simp only at hk12 hkc hC
            have lo := hC.len
            have ho := hC.d.at k
            have hc := hC.cb
            unfold St48k
            by_cases hk : k < 12
            · have e1 : (k : Int) < 12 := by omega
              have e2 : (0 : Int) ≤ k := by omega
              have e3 : k ≤ 11 := by omega
              have e4 := wrap_succ' (n := k) (by omega)
              obtain ⟨ov, hov⟩ : ∃ n : Nat, s.getD k 0 = (n : Int) := ⟨(s.getD k 0).toNat, by omega⟩
              have hovl : ov < 18446744073709551616 := by omega
              have hN := car_next hk hC
              have hovt : (s.getD k 0).toNat = ov := by omega
              rw [hovt] at hN
              have g1 := addX_nat ov c hovl hc
              refine Lwp.seq ?_
              refine Lwp.seq (Lwp.regI hT ?_)
              simp only [L48r19, go_sem, List.isEmpty_nil, isC, eq_self, reduceIte, Nat.reduceAdd, Nat.reduceMul, Nat.reduceSub, Nat.reduceLT, Nat.reduceLeDiff, Nat.reduceEqDiff, Nat.reduceDiv, Nat.reduceMod, Nat.reducePow, Nat.reduceBEq, Nat.reduceBNe, Int.reduceLT, Int.reduceLE, Int.reduceGT, Int.reduceGE, Int.reduceBEq, Int.reduceBNe, Int.reduceToNat, Int.reduceAdd, Int.reduceSub, Int.reduceMul, Int.reduceEq, Int.reduceNeg, reduceCtorEq, decide_true, decide_false, Bool.false_eq_true, ty3, e1]
              refine Lwp.cond rfl (fun _ => Lwp.skip ?_) (fun h => by cases h)
              simp only [go_sem, List.isEmpty_nil, isC, eq_self, reduceIte, Nat.reduceAdd, Nat.reduceMul, Nat.reduceSub, Nat.reduceLT, Nat.reduceLeDiff, Nat.reduceEqDiff, Nat.reduceDiv, Nat.reduceMod, Nat.reducePow, Nat.reduceBEq, Nat.reduceBNe, Int.reduceLT, Int.reduceLE, Int.reduceGT, Int.reduceGE, Int.reduceBEq, Int.reduceBNe, Int.reduceToNat, Int.reduceAdd, Int.reduceSub, Int.reduceMul, Int.reduceEq, Int.reduceNeg, reduceCtorEq, decide_true, decide_false, Bool.false_eq_true]
              refine Lwp.seq (Lwp.block ?_)
              refine Lwp.seq (Lwp.regI hT ?_)
              simp only [L48r21, go_sem, List.isEmpty_nil, isC, eq_self, reduceIte, Nat.reduceAdd, Nat.reduceMul, Nat.reduceSub, Nat.reduceLT, Nat.reduceLeDiff, Nat.reduceEqDiff, Nat.reduceDiv, Nat.reduceMod, Nat.reducePow, Nat.reduceBEq, Nat.reduceBNe, Int.reduceLT, Int.reduceLE, Int.reduceGT, Int.reduceGE, Int.reduceBEq, Int.reduceBNe, Int.reduceToNat, Int.reduceAdd, Int.reduceSub, Int.reduceMul, Int.reduceEq, Int.reduceNeg, reduceCtorEq, decide_true, decide_false, Bool.false_eq_true, ty3, ty4, ty5, ty9, ty22, ty24, ty30, ty31, ty32, ty35, ty37, ty38, ty54, ty55, ty60, ty84, eq24, eq55, e1, e2, e3, hk, hov, lo, g1]
              refine Lwp.regI hT ?_
              simp only [L48r22, go_sem, List.isEmpty_nil, isC, eq_self, reduceIte, Nat.reduceAdd, Nat.reduceMul, Nat.reduceSub, Nat.reduceLT, Nat.reduceLeDiff, Nat.reduceEqDiff, Nat.reduceDiv, Nat.reduceMod, Nat.reducePow, Nat.reduceBEq, Nat.reduceBNe, Int.reduceLT, Int.reduceLE, Int.reduceGT, Int.reduceGE, Int.reduceBEq, Int.reduceBNe, Int.reduceToNat, Int.reduceAdd, Int.reduceSub, Int.reduceMul, Int.reduceEq, Int.reduceNeg, reduceCtorEq, decide_true, decide_false, Bool.false_eq_true, ty3, ty4, ty5, ty9, ty22, ty24, ty30, ty31, ty32, ty35, ty37, ty38, ty54, ty55, ty60, ty84, eq24, eq55]
              refine Lwp.regI hT ?_
              simp only [L48r20, go_sem, List.isEmpty_nil, isC, eq_self, reduceIte, Nat.reduceAdd, Nat.reduceMul, Nat.reduceSub, Nat.reduceLT, Nat.reduceLeDiff, Nat.reduceEqDiff, Nat.reduceDiv, Nat.reduceMod, Nat.reducePow, Nat.reduceBEq, Nat.reduceBNe, Int.reduceLT, Int.reduceLE, Int.reduceGT, Int.reduceGE, Int.reduceBEq, Int.reduceBNe, Int.reduceToNat, Int.reduceAdd, Int.reduceSub, Int.reduceMul, Int.reduceEq, Int.reduceNeg, reduceCtorEq, decide_true, decide_false, Bool.false_eq_true, ty3, ty4, ty5, ty9, ty22, ty24, ty30, ty31, ty32, ty35, ty37, ty38, ty54, ty55, ty60, ty84, eq24, eq55, e4]
              refine ⟨(k + 1, s.set k (((ov + c) % 18446744073709551616 : Nat) : Int), (ov + c) / 18446744073709551616), ⟨by simp only; omega, fun _ => by simp only; omega, hN⟩, by simp only; omega, ?_⟩
              refine weak_of rfl ?_ ?_ ?_
              · (simp only [go_sem, List.isEmpty_nil, isC, eq_self, reduceIte, Nat.reduceAdd, Nat.reduceMul, Nat.reduceSub, Nat.reduceLT, Nat.reduceLeDiff, Nat.reduceEqDiff, Nat.reduceDiv, Nat.reduceMod, Nat.reducePow, Nat.reduceBEq, Nat.reduceBNe, Int.reduceLT, Int.reduceLE, Int.reduceGT, Int.reduceGE, Int.reduceBEq, Int.reduceBNe, Int.reduceToNat, Int.reduceAdd, Int.reduceSub, Int.reduceMul, Int.reduceEq, Int.reduceNeg, reduceCtorEq, decide_true, decide_false, Bool.false_eq_true]; try rfl)
              · (simp only [go_sem, List.isEmpty_nil, isC, eq_self, reduceIte, Nat.reduceAdd, Nat.reduceMul, Nat.reduceSub, Nat.reduceLT, Nat.reduceLeDiff, Nat.reduceEqDiff, Nat.reduceDiv, Nat.reduceMod, Nat.reducePow, Nat.reduceBEq, Nat.reduceBNe, Int.reduceLT, Int.reduceLE, Int.reduceGT, Int.reduceGE, Int.reduceBEq, Int.reduceBNe, Int.reduceToNat, Int.reduceAdd, Int.reduceSub, Int.reduceMul, Int.reduceEq, Int.reduceNeg, reduceCtorEq, decide_true, decide_false, Bool.false_eq_true]; try rfl)
              · (simp only [go_sem, List.isEmpty_nil, isC, eq_self, reduceIte, Nat.reduceAdd, Nat.reduceMul, Nat.reduceSub, Nat.reduceLT, Nat.reduceLeDiff, Nat.reduceEqDiff, Nat.reduceDiv, Nat.reduceMod, Nat.reducePow, Nat.reduceBEq, Nat.reduceBNe, Int.reduceLT, Int.reduceLE, Int.reduceGT, Int.reduceGE, Int.reduceBEq, Int.reduceBNe, Int.reduceToNat, Int.reduceAdd, Int.reduceSub, Int.reduceMul, Int.reduceEq, Int.reduceNeg, reduceCtorEq, decide_true, decide_false, Bool.false_eq_true]; try rfl)
            · have hk7 : k = 12 := by omega
              subst hk7
              have hF := hnx s c hC
              have hoc := hF.le (by omega) hTb hm
              have e1 : IntKind.u64.wrap ((o : Int) + (c : Int)) = ((o + c : Nat) : Int) := by rw [wrap_u64 (by omega) (by omega)]; omega
              refine Lwp.seq ?_
              refine Lwp.seq (Lwp.regI hT ?_)
              simp only [L48r19, go_sem, List.isEmpty_nil, isC, eq_self, reduceIte, Nat.reduceAdd, Nat.reduceMul, Nat.reduceSub, Nat.reduceLT, Nat.reduceLeDiff, Nat.reduceEqDiff, Nat.reduceDiv, Nat.reduceMod, Nat.reducePow, Nat.reduceBEq, Nat.reduceBNe, Int.reduceLT, Int.reduceLE, Int.reduceGT, Int.reduceGE, Int.reduceBEq, Int.reduceBNe, Int.reduceToNat, Int.reduceAdd, Int.reduceSub, Int.reduceMul, Int.reduceEq, Int.reduceNeg, reduceCtorEq, decide_true, decide_false, Bool.false_eq_true, ty3]
              refine Lwp.cond rfl (fun h => by cases h) (fun _ => Lwp.exit ?_)
              simp only [go_sem, List.isEmpty_nil, isC, eq_self, reduceIte, Nat.reduceAdd, Nat.reduceMul, Nat.reduceSub, Nat.reduceLT, Nat.reduceLeDiff, Nat.reduceEqDiff, Nat.reduceDiv, Nat.reduceMod, Nat.reducePow, Nat.reduceBEq, Nat.reduceBNe, Int.reduceLT, Int.reduceLE, Int.reduceGT, Int.reduceGE, Int.reduceBEq, Int.reduceBNe, Int.reduceToNat, Int.reduceAdd, Int.reduceSub, Int.reduceMul, Int.reduceEq, Int.reduceNeg, reduceCtorEq, decide_true, decide_false, Bool.false_eq_true]
              refine Lwp.regI hT ?_
              simp only [L48r23, go_sem, List.isEmpty_nil, isC, eq_self, reduceIte, Nat.reduceAdd, Nat.reduceMul, Nat.reduceSub, Nat.reduceLT, Nat.reduceLeDiff, Nat.reduceEqDiff, Nat.reduceDiv, Nat.reduceMod, Nat.reducePow, Nat.reduceBEq, Nat.reduceBNe, Int.reduceLT, Int.reduceLE, Int.reduceGT, Int.reduceGE, Int.reduceBEq, Int.reduceBNe, Int.reduceToNat, Int.reduceAdd, Int.reduceSub, Int.reduceMul, Int.reduceEq, Int.reduceNeg, reduceCtorEq, decide_true, decide_false, Bool.false_eq_true, ty3, ty4, ty5, ty9, ty22, ty24, ty30, ty31, ty32, ty35, ty37, ty38, ty54, ty55, ty60, ty84, eq24, eq55, e1]
              refine Lwp.regI hT ?_
              simp only [L48r24, go_sem, List.isEmpty_nil, isC, eq_self, reduceIte, Nat.reduceAdd, Nat.reduceMul, Nat.reduceSub, Nat.reduceLT, Nat.reduceLeDiff, Nat.reduceEqDiff, Nat.reduceDiv, Nat.reduceMod, Nat.reducePow, Nat.reduceBEq, Nat.reduceBNe, Int.reduceLT, Int.reduceLE, Int.reduceGT, Int.reduceGE, Int.reduceBEq, Int.reduceBNe, Int.reduceToNat, Int.reduceAdd, Int.reduceSub, Int.reduceMul, Int.reduceEq, Int.reduceNeg, reduceCtorEq, decide_true, decide_false, Bool.false_eq_true, ty3, ty4, ty5, ty9, ty22, ty24, ty30, ty31, ty32, ty35, ty37, ty38, ty54, ty55, ty60, ty84, eq24, eq55, iw]
              refine ⟨(i + 1, s, o + c), ⟨by simp only; omega, hF⟩, by simp only; omega, ?_⟩
              refine weak_of rfl ?_ ?_ ?_
              · (simp only [go_sem, List.isEmpty_nil, isC, eq_self, reduceIte, Nat.reduceAdd, Nat.reduceMul, Nat.reduceSub, Nat.reduceLT, Nat.reduceLeDiff, Nat.reduceEqDiff, Nat.reduceDiv, Nat.reduceMod, Nat.reducePow, Nat.reduceBEq, Nat.reduceBNe, Int.reduceLT, Int.reduceLE, Int.reduceGT, Int.reduceGE, Int.reduceBEq, Int.reduceBNe, Int.reduceToNat, Int.reduceAdd, Int.reduceSub, Int.reduceMul, Int.reduceEq, Int.reduceNeg, reduceCtorEq, decide_true, decide_false, Bool.false_eq_true, St48]; try rfl)
              · (simp only [go_sem, List.isEmpty_nil, isC, eq_self, reduceIte, Nat.reduceAdd, Nat.reduceMul, Nat.reduceSub, Nat.reduceLT, Nat.reduceLeDiff, Nat.reduceEqDiff, Nat.reduceDiv, Nat.reduceMod, Nat.reducePow, Nat.reduceBEq, Nat.reduceBNe, Int.reduceLT, Int.reduceLE, Int.reduceGT, Int.reduceGE, Int.reduceBEq, Int.reduceBNe, Int.reduceToNat, Int.reduceAdd, Int.reduceSub, Int.reduceMul, Int.reduceEq, Int.reduceNeg, reduceCtorEq, decide_true, decide_false, Bool.false_eq_true, St48]; try rfl)
              · (simp only [go_sem, List.isEmpty_nil, isC, eq_self, reduceIte, Nat.reduceAdd, Nat.reduceMul, Nat.reduceSub, Nat.reduceLT, Nat.reduceLeDiff, Nat.reduceEqDiff, Nat.reduceDiv, Nat.reduceMod, Nat.reducePow, Nat.reduceBEq, Nat.reduceBNe, Int.reduceLT, Int.reduceLE, Int.reduceGT, Int.reduceGE, Int.reduceBEq, Int.reduceBNe, Int.reduceToNat, Int.reduceAdd, Int.reduceSub, Int.reduceMul, Int.reduceEq, Int.reduceNeg, reduceCtorEq, decide_true, decide_false, Bool.false_eq_true, St48]; try rfl)
    · have hi7 : i = 6 := by omega
      subst hi7
      have fin := out_last hO hTb hm hodd h2
      have dr := drop_lim tl hO.d
      have hx : v64 t / 18446744073709551616 ^ 6 < 18446744073709551616 ^ 6 := Nat.div_lt_of_lt_mul (by have := v64_lt hO.d; rw [tl] at this; rw [← Nat.pow_add]; exact this)
      have f1 := f62 (v64 t / 18446744073709551616 ^ 6) o hx ho1
      have f2 := f62 (onceN (v64 t / 18446744073709551616 ^ 6) o (v64 m)) 0 (onceN_lt hx) (by omega)
      rw [fin] at f2
      have l1 := lim6_len (v64 t / 18446744073709551616 ^ 6)
      have l2 := lim6_len (onceN (v64 t / 18446744073709551616 ^ 6) o (v64 m))
      have l3 := lim6_len (redN T (v64 m))
      have dr2 : (t.drop 6).take 6 = lim6 (v64 t / 18446744073709551616 ^ 6) := by rw [dr]; exact List.take_of_length_le (by omega)
      have dt2 : (d.drop 0).take 6 = m := by rw [List.drop_zero]; exact dt
      have n1 : (0 : Int) ≤ 6 := by decide
      have n2 : (6 : Nat) ≤ 13 := by decide
      generalize lim6 (v64 t / 18446744073709551616 ^ 6) = x1 at *
      generalize lim6 (onceN (v64 t / 18446744073709551616 ^ 6) o (v64 m)) = x2 at *
      generalize lim6 (redN T (v64 m)) = x3 at *
      have f2' : S62 [.agg (ints .u64 x2), .int .u64 0, .agg (ints .u64 m)] = some ⟨.agg (ints .u64 x3), none⟩ := f2
      have hml := hU.1
      have ds : sub (ints .u64 d) 0 6 = ints .u64 m := by rw [ints_sub, dt2]
      have ts : sub (ints .u64 t) 6 6 = ints .u64 x1 := by rw [ints_sub, dr2]
      refine Lwp.seq (Lwp.regI hT ?_)
      simp only [L48r3, go_sem, List.isEmpty_nil, isC, eq_self, reduceIte, Nat.reduceAdd, Nat.reduceMul, Nat.reduceSub, Nat.reduceLT, Nat.reduceLeDiff, Nat.reduceEqDiff, Nat.reduceDiv, Nat.reduceMod, Nat.reducePow, Nat.reduceBEq, Nat.reduceBNe, Int.reduceLT, Int.reduceLE, Int.reduceGT, Int.reduceGE, Int.reduceBEq, Int.reduceBNe, Int.reduceToNat, Int.reduceAdd, Int.reduceSub, Int.reduceMul, Int.reduceEq, Int.reduceNeg, reduceCtorEq, decide_true, decide_false, Bool.false_eq_true, ty3, ty4, ty5, ty9, ty22, ty24, ty30, ty31, ty32, ty35, ty37, ty38, ty54, ty55, ty60, ty84, eq24, eq55]
      refine Lwp.seq (Lwp.cond rfl (fun h => by cases h) (fun _ => Lwp.exit ?_))
      simp only [go_sem, List.isEmpty_nil, isC, eq_self, reduceIte, Nat.reduceAdd, Nat.reduceMul, Nat.reduceSub, Nat.reduceLT, Nat.reduceLeDiff, Nat.reduceEqDiff, Nat.reduceDiv, Nat.reduceMod, Nat.reducePow, Nat.reduceBEq, Nat.reduceBNe, Int.reduceLT, Int.reduceLE, Int.reduceGT, Int.reduceGE, Int.reduceBEq, Int.reduceBNe, Int.reduceToNat, Int.reduceAdd, Int.reduceSub, Int.reduceMul, Int.reduceEq, Int.reduceNeg, reduceCtorEq, decide_true, decide_false, Bool.false_eq_true]
      refine Lwp.seq (Lwp.regI hT ?_)
      simp only [L48r25, go_sem, List.isEmpty_nil, isC, eq_self, reduceIte, Nat.reduceAdd, Nat.reduceMul, Nat.reduceSub, Nat.reduceLT, Nat.reduceLeDiff, Nat.reduceEqDiff, Nat.reduceDiv, Nat.reduceMod, Nat.reducePow, Nat.reduceBEq, Nat.reduceBNe, Int.reduceLT, Int.reduceLE, Int.reduceGT, Int.reduceGE, Int.reduceBEq, Int.reduceBNe, Int.reduceToNat, Int.reduceAdd, Int.reduceSub, Int.reduceMul, Int.reduceEq, Int.reduceNeg, reduceCtorEq, decide_true, decide_false, Bool.false_eq_true, ty3, ty4, ty5, ty9, ty22, ty24, ty30, ty31, ty32, ty35, ty37, ty38, ty54, ty55, ty60, ty84, eq24, eq55, sliceA, boundA, arrayPtrA, tl, dl, ts, l1, n1]
      refine Lwp.seq (Lwp.regI hT ?_)
      simp only [L48r26, go_sem, List.isEmpty_nil, isC, eq_self, reduceIte, Nat.reduceAdd, Nat.reduceMul, Nat.reduceSub, Nat.reduceLT, Nat.reduceLeDiff, Nat.reduceEqDiff, Nat.reduceDiv, Nat.reduceMod, Nat.reducePow, Nat.reduceBEq, Nat.reduceBNe, Int.reduceLT, Int.reduceLE, Int.reduceGT, Int.reduceGE, Int.reduceBEq, Int.reduceBNe, Int.reduceToNat, Int.reduceAdd, Int.reduceSub, Int.reduceMul, Int.reduceEq, Int.reduceNeg, reduceCtorEq, decide_true, decide_false, Bool.false_eq_true, ty3, ty4, ty5, ty9, ty22, ty24, ty30, ty31, ty32, ty35, ty37, ty38, ty54, ty55, ty60, ty84, eq24, eq55, tl, dl, ds, n2, l1, l2, f1]
      refine Lwp.seq (Lwp.regI hT ?_)
      simp only [L48r27, go_sem, List.isEmpty_nil, isC, eq_self, reduceIte, Nat.reduceAdd, Nat.reduceMul, Nat.reduceSub, Nat.reduceLT, Nat.reduceLeDiff, Nat.reduceEqDiff, Nat.reduceDiv, Nat.reduceMod, Nat.reducePow, Nat.reduceBEq, Nat.reduceBNe, Int.reduceLT, Int.reduceLE, Int.reduceGT, Int.reduceGE, Int.reduceBEq, Int.reduceBNe, Int.reduceToNat, Int.reduceAdd, Int.reduceSub, Int.reduceMul, Int.reduceEq, Int.reduceNeg, reduceCtorEq, decide_true, decide_false, Bool.false_eq_true, ty3, ty4, ty5, ty9, ty22, ty24, ty30, ty31, ty32, ty35, ty37, ty38, ty54, ty55, ty60, ty84, eq24, eq55, tl, dl, ds, n2, l2, l3, f2']
      refine Lwp.ret (post_val (v := .agg (ints .u64 x3)) ?_ ?_)
      · simp only [go_sem, List.isEmpty_nil, isC, eq_self, reduceIte, Nat.reduceAdd, Nat.reduceMul, Nat.reduceSub, Nat.reduceLT, Nat.reduceLeDiff, Nat.reduceEqDiff, Nat.reduceDiv, Nat.reduceMod, Nat.reducePow, Nat.reduceBEq, Nat.reduceBNe, Int.reduceLT, Int.reduceLE, Int.reduceGT, Int.reduceGE, Int.reduceBEq, Int.reduceBNe, Int.reduceToNat, Int.reduceAdd, Int.reduceSub, Int.reduceMul, Int.reduceEq, Int.reduceNeg, reduceCtorEq, decide_true, decide_false, Bool.false_eq_true, ty24, l3]
      · simp only [go_sem, List.isEmpty_nil, isC, eq_self, reduceIte, Nat.reduceAdd, Nat.reduceMul, Nat.reduceSub, Nat.reduceLT, Nat.reduceLeDiff, Nat.reduceEqDiff, Nat.reduceDiv, Nat.reduceMod, Nat.reducePow, Nat.reduceBEq, Nat.reduceBNe, Int.reduceLT, Int.reduceLE, Int.reduceGT, Int.reduceGE, Int.reduceBEq, Int.reduceBNe, Int.reduceToNat, Int.reduceAdd, Int.reduceSub, Int.reduceMul, Int.reduceEq, Int.reduceNeg, reduceCtorEq, decide_true, decide_false, Bool.false_eq_true]
end Eng

namespace Eng
open Go Go.Proofs
set_option linter.unusedSimpArgs false
set_option linter.unusedVariables false
-- TY: ty3, ty4, ty5, ty9, ty22, ty24, ty30, ty31, ty32, ty35, ty37, ty38, ty54, ty55, ty60, ty84, eq24, eq55
-- XN: 55=subX 58=addX

theorem ModL.modL {m : List Int} (h : GoodM m) : ModL (modL m) := ⟨m, h, rfl⟩

noncomputable def S63 : List AV → Option Ret := nz (sumOf (fun p : List Int × List Int × List Int => match p with | (a, b, d) => (U6 a) ∧ (U6 b) ∧ (ModL d)) (fun p : List Int × List Int × List Int => match p with | (a, b, d) => [.agg (ints .u64 a), .agg (ints .u64 b), .agg (ints .u64 d)]) (fun p : List Int × List Int × List Int => match p with | (a, b, d) => ⟨.agg (ints .u64 (lim6 (redN (v64 a * v64 b) (v64 (d.take 6))))), none⟩))
theorem S63_eq (a : List Int) (b : List Int) (d : List Int) (h0 : U6 a) (h1 : U6 b) (h2 : ModL d) : S63 [.agg (ints .u64 a), .agg (ints .u64 b), .agg (ints .u64 d)] = some ⟨.agg (ints .u64 (lim6 (redN (v64 a * v64 b) (v64 (d.take 6))))), none⟩ :=
  sumOf_eq (dom := (fun p : List Int × List Int × List Int => match p with | (a, b, d) => (U6 a) ∧ (U6 b) ∧ (ModL d))) (enc := (fun p : List Int × List Int × List Int => match p with | (a, b, d) => [.agg (ints .u64 a), .agg (ints .u64 b), .agg (ints .u64 d)])) (out := (fun p : List Int × List Int × List Int => match p with | (a, b, d) => ⟨.agg (ints .u64 (lim6 (redN (v64 a * v64 b) (v64 (d.take 6))))), none⟩)) (a, b, d) ⟨h0, h1, h2⟩ (fun y _ e => by
    obtain ⟨y0, y1, y2⟩ := y
    simp only [List.cons.injEq, AV.agg.injEq, AV.int.injEq, AV.slc.injEq, AV.iptr.injEq, AV.bool.injEq, AV.str.injEq, ints_injEq, dig_injEq,  Int.ofNat_inj, BitVec.toNat_inj, true_and, and_true] at e
    first | with_reducible rfl | simp only [e] | rfl)
theorem S63_inv {args : List AV} {r : Ret} (h : sumOf (fun p : List Int × List Int × List Int => match p with | (a, b, d) => (U6 a) ∧ (U6 b) ∧ (ModL d)) (fun p : List Int × List Int × List Int => match p with | (a, b, d) => [.agg (ints .u64 a), .agg (ints .u64 b), .agg (ints .u64 d)]) (fun p : List Int × List Int × List Int => match p with | (a, b, d) => ⟨.agg (ints .u64 (lim6 (redN (v64 a * v64 b) (v64 (d.take 6))))), none⟩) args = some r) : ∃ (a : List Int) (b : List Int) (d : List Int), ((U6 a) ∧ (U6 b) ∧ (ModL d)) ∧ args = [.agg (ints .u64 a), .agg (ints .u64 b), .agg (ints .u64 d)] ∧ r = ⟨.agg (ints .u64 (lim6 (redN (v64 a * v64 b) (v64 (d.take 6))))), none⟩ := by
  obtain ⟨x, h1, h2, h3⟩ := sumOf_inv h
  obtain ⟨a, b, d⟩ := x
  exact ⟨a, b, d, h1, h2.symm, h3⟩


set_option maxRecDepth 100000 in
theorem snd63 : SndE Try.prog NoG 63 S63 := by
  refine snd_nz (snd_by [(40, S40), (48, S48)] [] Try.func63 (by kernel_rfl) lite63 nt63 rs63 ⟨snd40, snd48, trivial⟩ trivial (fun hT args r h => ?_))
  obtain ⟨a, b, d, ⟨hd0, hd1, hd2⟩, rfl, rfl⟩ := S63_inv h
  clear h
  have hM := hM0
  refine ⟨Nat.le_of_ble_eq_true rfl, fun F => ?_⟩
  unfold L63
  have hl := hd0.1
  have hl1 := hd1.1
  have dl : d.length = 13 := by obtain ⟨m, hG, rfl⟩ := hd2; exact modL_len hG.1
  have f40 := S40_eq a b hd0 hd1
  have f48 := S48_eq (limN 12 (v64 a * v64 b)) d ⟨limN_len _ _, limN_D64 _ _⟩ hd2
  rw [limN_v64 (Nat.lt_of_lt_of_le (Nat.mul_lt_mul_of_lt_of_le hd0.v64_lt (Nat.le_of_lt hd1.v64_lt) (Nat.pow_pos (by decide))) (by decide))] at f48
  have l1 := limN_len 12 (v64 a * v64 b)
  have l2 := lim6_len (redN (v64 a * v64 b) (v64 (d.take 6)))
  generalize limN 12 (v64 a * v64 b) = x1 at *
  generalize lim6 (redN (v64 a * v64 b) (v64 (d.take 6))) = x2 at *
  refine Lwp.seq (Lwp.regI hT ?_)
  simp only [L63r0, go_sem, List.isEmpty_nil, isC, eq_self, reduceIte, Nat.reduceAdd, Nat.reduceMul, Nat.reduceSub, Nat.reduceLT, Nat.reduceLeDiff, Nat.reduceEqDiff, Nat.reduceDiv, Nat.reduceMod, Nat.reducePow, Nat.reduceBEq, Nat.reduceBNe, Int.reduceLT, Int.reduceLE, Int.reduceGT, Int.reduceGE, Int.reduceBEq, Int.reduceBNe, Int.reduceToNat, Int.reduceAdd, Int.reduceSub, Int.reduceMul, Int.reduceEq, Int.reduceNeg, reduceCtorEq, decide_true, decide_false, Bool.false_eq_true, ty3, ty4, ty5, ty9, ty22, ty24, ty30, ty31, ty32, ty35, ty37, ty38, ty54, ty55, ty60, ty84, eq24, eq55, hl, hl1, dl]
  refine Lwp.seq (Lwp.regD hT hM ?_)
  simp only [L63r1, go_sem, List.isEmpty_nil, isC, eq_self, reduceIte, Nat.reduceAdd, Nat.reduceMul, Nat.reduceSub, Nat.reduceLT, Nat.reduceLeDiff, Nat.reduceEqDiff, Nat.reduceDiv, Nat.reduceMod, Nat.reducePow, Nat.reduceBEq, Nat.reduceBNe, Int.reduceLT, Int.reduceLE, Int.reduceGT, Int.reduceGE, Int.reduceBEq, Int.reduceBNe, Int.reduceToNat, Int.reduceAdd, Int.reduceSub, Int.reduceMul, Int.reduceEq, Int.reduceNeg, reduceCtorEq, decide_true, decide_false, Bool.false_eq_true, ty3, ty4, ty5, ty9, ty22, ty24, ty30, ty31, ty32, ty35, ty37, ty38, ty54, ty55, ty60, ty84, eq24, eq55, hl, hl1, dl, f40, f48, l1, l2]
  refine Lwp.ret (post_val (v := .agg (ints .u64 x2)) ?_ ?_)
  · simp only [go_sem, List.isEmpty_nil, isC, eq_self, reduceIte, Nat.reduceAdd, Nat.reduceMul, Nat.reduceSub, Nat.reduceLT, Nat.reduceLeDiff, Nat.reduceEqDiff, Nat.reduceDiv, Nat.reduceMod, Nat.reducePow, Nat.reduceBEq, Nat.reduceBNe, Int.reduceLT, Int.reduceLE, Int.reduceGT, Int.reduceGE, Int.reduceBEq, Int.reduceBNe, Int.reduceToNat, Int.reduceAdd, Int.reduceSub, Int.reduceMul, Int.reduceEq, Int.reduceNeg, reduceCtorEq, decide_true, decide_false, Bool.false_eq_true, ty24, l2]
  · simp only [go_sem, List.isEmpty_nil, isC, eq_self, reduceIte, Nat.reduceAdd, Nat.reduceMul, Nat.reduceSub, Nat.reduceLT, Nat.reduceLeDiff, Nat.reduceEqDiff, Nat.reduceDiv, Nat.reduceMod, Nat.reducePow, Nat.reduceBEq, Nat.reduceBNe, Int.reduceLT, Int.reduceLE, Int.reduceGT, Int.reduceGE, Int.reduceBEq, Int.reduceBNe, Int.reduceToNat, Int.reduceAdd, Int.reduceSub, Int.reduceMul, Int.reduceEq, Int.reduceNeg, reduceCtorEq, decide_true, decide_false, Bool.false_eq_true]

noncomputable def S64 : List AV → Option Ret := nz (sumOf (fun p : List Int × List Int => match p with | (a, d) => (U6 a) ∧ (ModL d)) (fun p : List Int × List Int => match p with | (a, d) => [.agg (ints .u64 a), .agg (ints .u64 d)]) (fun p : List Int × List Int => match p with | (a, d) => ⟨.agg (ints .u64 (lim6 (v64 a % v64 (d.take 6)))), none⟩))
theorem S64_eq (a : List Int) (d : List Int) (h0 : U6 a) (h1 : ModL d) : S64 [.agg (ints .u64 a), .agg (ints .u64 d)] = some ⟨.agg (ints .u64 (lim6 (v64 a % v64 (d.take 6)))), none⟩ :=
  sumOf_eq (dom := (fun p : List Int × List Int => match p with | (a, d) => (U6 a) ∧ (ModL d))) (enc := (fun p : List Int × List Int => match p with | (a, d) => [.agg (ints .u64 a), .agg (ints .u64 d)])) (out := (fun p : List Int × List Int => match p with | (a, d) => ⟨.agg (ints .u64 (lim6 (v64 a % v64 (d.take 6)))), none⟩)) (a, d) ⟨h0, h1⟩ (fun y _ e => by
    obtain ⟨y0, y1⟩ := y
    simp only [List.cons.injEq, AV.agg.injEq, AV.int.injEq, AV.slc.injEq, AV.iptr.injEq, AV.bool.injEq, AV.str.injEq, ints_injEq, dig_injEq,  Int.ofNat_inj, BitVec.toNat_inj, true_and, and_true] at e
    first | with_reducible rfl | simp only [e] | rfl)
theorem S64_inv {args : List AV} {r : Ret} (h : sumOf (fun p : List Int × List Int => match p with | (a, d) => (U6 a) ∧ (ModL d)) (fun p : List Int × List Int => match p with | (a, d) => [.agg (ints .u64 a), .agg (ints .u64 d)]) (fun p : List Int × List Int => match p with | (a, d) => ⟨.agg (ints .u64 (lim6 (v64 a % v64 (d.take 6)))), none⟩) args = some r) : ∃ (a : List Int) (d : List Int), ((U6 a) ∧ (ModL d)) ∧ args = [.agg (ints .u64 a), .agg (ints .u64 d)] ∧ r = ⟨.agg (ints .u64 (lim6 (v64 a % v64 (d.take 6)))), none⟩ := by
  obtain ⟨x, h1, h2, h3⟩ := sumOf_inv h
  obtain ⟨a, d⟩ := x
  exact ⟨a, d, h1, h2.symm, h3⟩


set_option maxRecDepth 100000 in
theorem snd64 : SndE Try.prog NoG 64 S64 := by
  refine snd_nz (snd_by [(62, S62)] [] Try.func64 (by kernel_rfl) lite64 nt64 rs64 ⟨snd62, trivial⟩ trivial (fun hT args r h => ?_))
  obtain ⟨a, d, ⟨hd0, hd1⟩, rfl, rfl⟩ := S64_inv h
  clear h
  have hM := hM0
  refine ⟨Nat.le_of_ble_eq_true rfl, fun F => ?_⟩
  unfold L64
  have hl := hd0.1
  obtain ⟨m, hG, rfl⟩ := hd1
  have dl := modL_len hG.1
  have dt := modL_take hG.1
  have ds : sub (ints .u64 (modL m)) 0 6 = ints .u64 m := by rw [ints_sub, List.drop_zero, dt]
  rw [dt]
  have hm := hG.1.v64_lt
  have f62 := S62_0 (x := v64 a) hd0.v64_lt hm (by have := hG.2.2; have := hd0.v64_lt; omega)
  rw [hd0.eq_lim, hG.1.eq_lim] at f62
  have l1 := lim6_len (v64 a % v64 m)
  have hml := hG.1.1
  have n1 : (6 : Nat) ≤ 13 := by decide
  generalize lim6 (v64 a % v64 m) = x1 at *
  generalize modL m = d at *
  refine Lwp.seq (Lwp.regI hT ?_)
  simp only [L64r0, go_sem, List.isEmpty_nil, isC, eq_self, reduceIte, Nat.reduceAdd, Nat.reduceMul, Nat.reduceSub, Nat.reduceLT, Nat.reduceLeDiff, Nat.reduceEqDiff, Nat.reduceDiv, Nat.reduceMod, Nat.reducePow, Nat.reduceBEq, Nat.reduceBNe, Int.reduceLT, Int.reduceLE, Int.reduceGT, Int.reduceGE, Int.reduceBEq, Int.reduceBNe, Int.reduceToNat, Int.reduceAdd, Int.reduceSub, Int.reduceMul, Int.reduceEq, Int.reduceNeg, reduceCtorEq, decide_true, decide_false, Bool.false_eq_true, ty3, ty4, ty5, ty9, ty22, ty24, ty30, ty31, ty32, ty35, ty37, ty38, ty54, ty55, ty60, ty84, eq24, eq55, hl, dl]
  refine Lwp.seq (Lwp.regI hT ?_)
  simp only [L64r1, go_sem, List.isEmpty_nil, isC, eq_self, reduceIte, Nat.reduceAdd, Nat.reduceMul, Nat.reduceSub, Nat.reduceLT, Nat.reduceLeDiff, Nat.reduceEqDiff, Nat.reduceDiv, Nat.reduceMod, Nat.reducePow, Nat.reduceBEq, Nat.reduceBNe, Int.reduceLT, Int.reduceLE, Int.reduceGT, Int.reduceGE, Int.reduceBEq, Int.reduceBNe, Int.reduceToNat, Int.reduceAdd, Int.reduceSub, Int.reduceMul, Int.reduceEq, Int.reduceNeg, reduceCtorEq, decide_true, decide_false, Bool.false_eq_true, ty3, ty4, ty5, ty9, ty22, ty24, ty30, ty31, ty32, ty35, ty37, ty38, ty54, ty55, ty60, ty84, eq24, eq55, hl, dl, ds, n1, hml, l1, f62]
  refine Lwp.ret (post_val (v := .agg (ints .u64 x1)) ?_ ?_)
  · simp only [go_sem, List.isEmpty_nil, isC, eq_self, reduceIte, Nat.reduceAdd, Nat.reduceMul, Nat.reduceSub, Nat.reduceLT, Nat.reduceLeDiff, Nat.reduceEqDiff, Nat.reduceDiv, Nat.reduceMod, Nat.reducePow, Nat.reduceBEq, Nat.reduceBNe, Int.reduceLT, Int.reduceLE, Int.reduceGT, Int.reduceGE, Int.reduceBEq, Int.reduceBNe, Int.reduceToNat, Int.reduceAdd, Int.reduceSub, Int.reduceMul, Int.reduceEq, Int.reduceNeg, reduceCtorEq, decide_true, decide_false, Bool.false_eq_true, ty24, l1]
  · simp only [go_sem, List.isEmpty_nil, isC, eq_self, reduceIte, Nat.reduceAdd, Nat.reduceMul, Nat.reduceSub, Nat.reduceLT, Nat.reduceLeDiff, Nat.reduceEqDiff, Nat.reduceDiv, Nat.reduceMod, Nat.reducePow, Nat.reduceBEq, Nat.reduceBNe, Int.reduceLT, Int.reduceLE, Int.reduceGT, Int.reduceGE, Int.reduceBEq, Int.reduceBNe, Int.reduceToNat, Int.reduceAdd, Int.reduceSub, Int.reduceMul, Int.reduceEq, Int.reduceNeg, reduceCtorEq, decide_true, decide_false, Bool.false_eq_true]

noncomputable def S49 : List AV → Option Ret := nz (sumOf (fun p : List Int × List Int × List Int => match p with | (a, b, d) => (U6 a) ∧ (U6 b) ∧ (ModL d)) (fun p : List Int × List Int × List Int => match p with | (a, b, d) => [.agg (ints .u64 a), .agg (ints .u64 b), .agg (ints .u64 d)]) (fun p : List Int × List Int × List Int => match p with | (a, b, d) => ⟨.agg (ints .u64 (lim6 (v64 a * v64 b % v64 (d.take 6)))), none⟩))
theorem S49_eq (a : List Int) (b : List Int) (d : List Int) (h0 : U6 a) (h1 : U6 b) (h2 : ModL d) : S49 [.agg (ints .u64 a), .agg (ints .u64 b), .agg (ints .u64 d)] = some ⟨.agg (ints .u64 (lim6 (v64 a * v64 b % v64 (d.take 6)))), none⟩ :=
  sumOf_eq (dom := (fun p : List Int × List Int × List Int => match p with | (a, b, d) => (U6 a) ∧ (U6 b) ∧ (ModL d))) (enc := (fun p : List Int × List Int × List Int => match p with | (a, b, d) => [.agg (ints .u64 a), .agg (ints .u64 b), .agg (ints .u64 d)])) (out := (fun p : List Int × List Int × List Int => match p with | (a, b, d) => ⟨.agg (ints .u64 (lim6 (v64 a * v64 b % v64 (d.take 6)))), none⟩)) (a, b, d) ⟨h0, h1, h2⟩ (fun y _ e => by
    obtain ⟨y0, y1, y2⟩ := y
    simp only [List.cons.injEq, AV.agg.injEq, AV.int.injEq, AV.slc.injEq, AV.iptr.injEq, AV.bool.injEq, AV.str.injEq, ints_injEq, dig_injEq,  Int.ofNat_inj, BitVec.toNat_inj, true_and, and_true] at e
    first | with_reducible rfl | simp only [e] | rfl)
theorem S49_inv {args : List AV} {r : Ret} (h : sumOf (fun p : List Int × List Int × List Int => match p with | (a, b, d) => (U6 a) ∧ (U6 b) ∧ (ModL d)) (fun p : List Int × List Int × List Int => match p with | (a, b, d) => [.agg (ints .u64 a), .agg (ints .u64 b), .agg (ints .u64 d)]) (fun p : List Int × List Int × List Int => match p with | (a, b, d) => ⟨.agg (ints .u64 (lim6 (v64 a * v64 b % v64 (d.take 6)))), none⟩) args = some r) : ∃ (a : List Int) (b : List Int) (d : List Int), ((U6 a) ∧ (U6 b) ∧ (ModL d)) ∧ args = [.agg (ints .u64 a), .agg (ints .u64 b), .agg (ints .u64 d)] ∧ r = ⟨.agg (ints .u64 (lim6 (v64 a * v64 b % v64 (d.take 6)))), none⟩ := by
  obtain ⟨x, h1, h2, h3⟩ := sumOf_inv h
  obtain ⟨a, b, d⟩ := x
  exact ⟨a, b, d, h1, h2.symm, h3⟩


theorem two_lt {m : List Int} (h : GoodM m) : 18446744073709551616 ^ 6 * 18446744073709551616 ^ 6 % v64 m < 18446744073709551616 ^ 6 := by
  have hm := h.1.v64_lt
  have h0 : 0 < v64 m := Nat.pos_of_ne_zero (fun e => by have := h.2.1; rw [e] at this; simp at this)
  exact Nat.lt_trans (Nat.mod_lt _ h0) hm
theorem GoodM.pos {m : List Int} (h : GoodM m) : 0 < v64 m := Nat.pos_of_ne_zero (fun e => by have := h.2.1; rw [e] at this; simp at this)
theorem mod_lt_R {m : List Int} (h : GoodM m) (x : Nat) : x % v64 m < 18446744073709551616 ^ 6 := Nat.lt_trans (Nat.mod_lt _ h.pos) h.1.v64_lt

set_option maxRecDepth 100000 in
theorem snd49 : SndE Try.prog NoG 49 S49 := by
  refine snd_nz (snd_by [(63, S63)] [] Try.func49 (by kernel_rfl) lite49 nt49 rs49 ⟨snd63, trivial⟩ trivial (fun hT args r h => ?_))
  obtain ⟨a, b, d, ⟨hd0, hd1, hd2⟩, rfl, rfl⟩ := S49_inv h
  clear h
  have hM := hM0
  refine ⟨Nat.le_of_ble_eq_true rfl, fun F => ?_⟩
  unfold L49
  have hl := hd0.1
  have hl1 := hd1.1
  obtain ⟨m, hG, rfl⟩ := hd2
  have hM2 := ModL.modL hG
  have dl := modL_len hG.1
  have dt := modL_take hG.1
  have d7 : sub (ints .u64 (modL m)) 7 6 = ints .u64 (lim6 (18446744073709551616 ^ 6 * 18446744073709551616 ^ 6 % v64 m)) := by rw [ints_sub, modL_two hG.1]
  rw [dt]
  have f1 := S63_eq a (lim6 (18446744073709551616 ^ 6 * 18446744073709551616 ^ 6 % v64 m)) (modL m) hd0 (U6_lim _) hM2
  rw [dt, v64_lim6 (two_lt hG), redN_in hG.2.1] at f1
  have f2 := S63_eq (lim6 (v64 a * 18446744073709551616 ^ 6 % v64 m)) b (modL m) (U6_lim _) hd1 hM2
  rw [dt, v64_lim6 (mod_lt_R hG _), redN_out (u := v64 a) hG.2.1 (Nat.mod_mod _ _)] at f2
  have l0 := lim6_len (18446744073709551616 ^ 6 * 18446744073709551616 ^ 6 % v64 m)
  have l1 := lim6_len (v64 a * 18446744073709551616 ^ 6 % v64 m)
  have l2 := lim6_len (v64 a * v64 b % v64 m)
  have n1 : (13 : Nat) ≤ 13 := by decide
  obtain ⟨x0, hx0⟩ : ∃ x, x = lim6 (18446744073709551616 ^ 6 * 18446744073709551616 ^ 6 % v64 m) := ⟨_, rfl⟩
  rw [← hx0] at d7 f1 l0
  clear hx0
  generalize lim6 (v64 a * 18446744073709551616 ^ 6 % v64 m) = x1 at *
  generalize lim6 (v64 a * v64 b % v64 m) = x2 at *
  generalize modL m = d at *
  refine Lwp.seq (Lwp.regI hT ?_)
  simp only [L49r0, go_sem, List.isEmpty_nil, isC, eq_self, reduceIte, Nat.reduceAdd, Nat.reduceMul, Nat.reduceSub, Nat.reduceLT, Nat.reduceLeDiff, Nat.reduceEqDiff, Nat.reduceDiv, Nat.reduceMod, Nat.reducePow, Nat.reduceBEq, Nat.reduceBNe, Int.reduceLT, Int.reduceLE, Int.reduceGT, Int.reduceGE, Int.reduceBEq, Int.reduceBNe, Int.reduceToNat, Int.reduceAdd, Int.reduceSub, Int.reduceMul, Int.reduceEq, Int.reduceNeg, reduceCtorEq, decide_true, decide_false, Bool.false_eq_true, ty3, ty4, ty5, ty9, ty22, ty24, ty30, ty31, ty32, ty35, ty37, ty38, ty54, ty55, ty60, ty84, eq24, eq55, hl, hl1, dl]
  refine Lwp.seq (Lwp.regD hT hM ?_)
  simp only [L49r1, go_sem, List.isEmpty_nil, isC, eq_self, reduceIte, Nat.reduceAdd, Nat.reduceMul, Nat.reduceSub, Nat.reduceLT, Nat.reduceLeDiff, Nat.reduceEqDiff, Nat.reduceDiv, Nat.reduceMod, Nat.reducePow, Nat.reduceBEq, Nat.reduceBNe, Int.reduceLT, Int.reduceLE, Int.reduceGT, Int.reduceGE, Int.reduceBEq, Int.reduceBNe, Int.reduceToNat, Int.reduceAdd, Int.reduceSub, Int.reduceMul, Int.reduceEq, Int.reduceNeg, reduceCtorEq, decide_true, decide_false, Bool.false_eq_true, ty3, ty4, ty5, ty9, ty22, ty24, ty30, ty31, ty32, ty35, ty37, ty38, ty54, ty55, ty60, ty84, eq24, eq55, hl, hl1, dl, d7, n1, f1, f2, l0, l1, l2]
  refine Lwp.ret (post_val (v := .agg (ints .u64 x2)) ?_ ?_)
  · simp only [go_sem, List.isEmpty_nil, isC, eq_self, reduceIte, Nat.reduceAdd, Nat.reduceMul, Nat.reduceSub, Nat.reduceLT, Nat.reduceLeDiff, Nat.reduceEqDiff, Nat.reduceDiv, Nat.reduceMod, Nat.reducePow, Nat.reduceBEq, Nat.reduceBNe, Int.reduceLT, Int.reduceLE, Int.reduceGT, Int.reduceGE, Int.reduceBEq, Int.reduceBNe, Int.reduceToNat, Int.reduceAdd, Int.reduceSub, Int.reduceMul, Int.reduceEq, Int.reduceNeg, reduceCtorEq, decide_true, decide_false, Bool.false_eq_true, ty24, l2]
  · simp only [go_sem, List.isEmpty_nil, isC, eq_self, reduceIte, Nat.reduceAdd, Nat.reduceMul, Nat.reduceSub, Nat.reduceLT, Nat.reduceLeDiff, Nat.reduceEqDiff, Nat.reduceDiv, Nat.reduceMod, Nat.reducePow, Nat.reduceBEq, Nat.reduceBNe, Int.reduceLT, Int.reduceLE, Int.reduceGT, Int.reduceGE, Int.reduceBEq, Int.reduceBNe, Int.reduceToNat, Int.reduceAdd, Int.reduceSub, Int.reduceMul, Int.reduceEq, Int.reduceNeg, reduceCtorEq, decide_true, decide_false, Bool.false_eq_true]

noncomputable def S50 : List AV → Option Ret := nz (sumOf (fun p : List Int × List Int × List Int => match p with | (a, b, d) => (U6 a) ∧ (U6 b) ∧ (ModL d)) (fun p : List Int × List Int × List Int => match p with | (a, b, d) => [.agg (ints .u64 a), .agg (ints .u64 b), .agg (ints .u64 d)]) (fun p : List Int × List Int × List Int => match p with | (a, b, d) => ⟨.agg (ints .u64 (lim6 ((v64 a + v64 b) % v64 (d.take 6)))), none⟩))
theorem S50_eq (a : List Int) (b : List Int) (d : List Int) (h0 : U6 a) (h1 : U6 b) (h2 : ModL d) : S50 [.agg (ints .u64 a), .agg (ints .u64 b), .agg (ints .u64 d)] = some ⟨.agg (ints .u64 (lim6 ((v64 a + v64 b) % v64 (d.take 6)))), none⟩ :=
  sumOf_eq (dom := (fun p : List Int × List Int × List Int => match p with | (a, b, d) => (U6 a) ∧ (U6 b) ∧ (ModL d))) (enc := (fun p : List Int × List Int × List Int => match p with | (a, b, d) => [.agg (ints .u64 a), .agg (ints .u64 b), .agg (ints .u64 d)])) (out := (fun p : List Int × List Int × List Int => match p with | (a, b, d) => ⟨.agg (ints .u64 (lim6 ((v64 a + v64 b) % v64 (d.take 6)))), none⟩)) (a, b, d) ⟨h0, h1, h2⟩ (fun y _ e => by
    obtain ⟨y0, y1, y2⟩ := y
    simp only [List.cons.injEq, AV.agg.injEq, AV.int.injEq, AV.slc.injEq, AV.iptr.injEq, AV.bool.injEq, AV.str.injEq, ints_injEq, dig_injEq,  Int.ofNat_inj, BitVec.toNat_inj, true_and, and_true] at e
    first | with_reducible rfl | simp only [e] | rfl)
theorem S50_inv {args : List AV} {r : Ret} (h : sumOf (fun p : List Int × List Int × List Int => match p with | (a, b, d) => (U6 a) ∧ (U6 b) ∧ (ModL d)) (fun p : List Int × List Int × List Int => match p with | (a, b, d) => [.agg (ints .u64 a), .agg (ints .u64 b), .agg (ints .u64 d)]) (fun p : List Int × List Int × List Int => match p with | (a, b, d) => ⟨.agg (ints .u64 (lim6 ((v64 a + v64 b) % v64 (d.take 6)))), none⟩) args = some r) : ∃ (a : List Int) (b : List Int) (d : List Int), ((U6 a) ∧ (U6 b) ∧ (ModL d)) ∧ args = [.agg (ints .u64 a), .agg (ints .u64 b), .agg (ints .u64 d)] ∧ r = ⟨.agg (ints .u64 (lim6 ((v64 a + v64 b) % v64 (d.take 6)))), none⟩ := by
  obtain ⟨x, h1, h2, h3⟩ := sumOf_inv h
  obtain ⟨a, b, d⟩ := x
  exact ⟨a, b, d, h1, h2.symm, h3⟩


set_option maxRecDepth 100000 in
theorem snd50 : SndE Try.prog NoG 50 S50 := by
  refine snd_nz (snd_by [(35, S35), (62, S62), (64, S64)] [] Try.func50 (by kernel_rfl) lite50 nt50 rs50 ⟨snd35, snd62, snd64, trivial⟩ trivial (fun hT args r h => ?_))
  obtain ⟨a, b, d, ⟨hd0, hd1, hd2⟩, rfl, rfl⟩ := S50_inv h
  clear h
  have hM := hM0
  refine ⟨Nat.le_of_ble_eq_true rfl, fun F => ?_⟩
  unfold L50
  have hl := hd0.1
  have hl1 := hd1.1
  obtain ⟨m, hG, rfl⟩ := hd2
  have hM2 := ModL.modL hG
  have dl := modL_len hG.1
  have dt := modL_take hG.1
  have ds : sub (ints .u64 (modL m)) 0 6 = ints .u64 m := by rw [ints_sub, List.drop_zero, dt]
  have f1 := S64_eq a (modL m) hd0 hM2
  have f2 := S64_eq b (modL m) hd1 hM2
  rw [dt] at f1 f2 ⊢
  have hm := hG.1.v64_lt
  have hp := hG.pos
  have f35 := S35_lim (mod_lt_R hG (v64 a)) (mod_lt_R hG (v64 b))
  have f62 := S62_sum (s := v64 a % v64 m + v64 b % v64 m) hm (by have := Nat.mod_lt (v64 a) hp; have := Nat.mod_lt (v64 b) hp; omega)
  rw [← Nat.add_mod, hG.1.eq_lim] at f62
  have l1 := lim6_len (v64 a % v64 m)
  have l2 := lim6_len (v64 b % v64 m)
  have l3 := lim6_len (v64 a % v64 m + v64 b % v64 m)
  have l4 := lim6_len ((v64 a + v64 b) % v64 m)
  have n1 : (6 : Nat) ≤ 13 := by decide
  have hml := hG.1.1
  generalize (if v64 a % v64 m + v64 b % v64 m < 18446744073709551616 ^ 6 then (0 : Int) else 1) = cy at *
  generalize lim6 (v64 a % v64 m) = x1 at *
  generalize lim6 (v64 b % v64 m) = x2 at *
  generalize lim6 (v64 a % v64 m + v64 b % v64 m) = x3 at *
  generalize lim6 ((v64 a + v64 b) % v64 m) = x4 at *
  generalize modL m = d at *
  refine Lwp.seq (Lwp.regI hT ?_)
  simp only [L50r0, go_sem, List.isEmpty_nil, isC, eq_self, reduceIte, Nat.reduceAdd, Nat.reduceMul, Nat.reduceSub, Nat.reduceLT, Nat.reduceLeDiff, Nat.reduceEqDiff, Nat.reduceDiv, Nat.reduceMod, Nat.reducePow, Nat.reduceBEq, Nat.reduceBNe, Int.reduceLT, Int.reduceLE, Int.reduceGT, Int.reduceGE, Int.reduceBEq, Int.reduceBNe, Int.reduceToNat, Int.reduceAdd, Int.reduceSub, Int.reduceMul, Int.reduceEq, Int.reduceNeg, reduceCtorEq, decide_true, decide_false, Bool.false_eq_true, ty3, ty4, ty5, ty9, ty22, ty24, ty30, ty31, ty32, ty35, ty37, ty38, ty54, ty55, ty60, ty84, eq24, eq55, hl, hl1, dl]
  refine Lwp.seq (Lwp.regD hT hM ?_)
  simp only [L50r1, go_sem, List.isEmpty_nil, isC, eq_self, reduceIte, Nat.reduceAdd, Nat.reduceMul, Nat.reduceSub, Nat.reduceLT, Nat.reduceLeDiff, Nat.reduceEqDiff, Nat.reduceDiv, Nat.reduceMod, Nat.reducePow, Nat.reduceBEq, Nat.reduceBNe, Int.reduceLT, Int.reduceLE, Int.reduceGT, Int.reduceGE, Int.reduceBEq, Int.reduceBNe, Int.reduceToNat, Int.reduceAdd, Int.reduceSub, Int.reduceMul, Int.reduceEq, Int.reduceNeg, reduceCtorEq, decide_true, decide_false, Bool.false_eq_true, ty3, ty4, ty5, ty9, ty22, ty24, ty30, ty31, ty32, ty35, ty37, ty38, ty54, ty55, ty60, ty84, eq24, eq55, hl, hl1, dl, f1, f2, f35, l1, l2, l3]
  refine Lwp.seq (Lwp.regI hT ?_)
  simp only [L50r2, go_sem, List.isEmpty_nil, isC, eq_self, reduceIte, Nat.reduceAdd, Nat.reduceMul, Nat.reduceSub, Nat.reduceLT, Nat.reduceLeDiff, Nat.reduceEqDiff, Nat.reduceDiv, Nat.reduceMod, Nat.reducePow, Nat.reduceBEq, Nat.reduceBNe, Int.reduceLT, Int.reduceLE, Int.reduceGT, Int.reduceGE, Int.reduceBEq, Int.reduceBNe, Int.reduceToNat, Int.reduceAdd, Int.reduceSub, Int.reduceMul, Int.reduceEq, Int.reduceNeg, reduceCtorEq, decide_true, decide_false, Bool.false_eq_true, ty3, ty4, ty5, ty9, ty22, ty24, ty30, ty31, ty32, ty35, ty37, ty38, ty54, ty55, ty60, ty84, eq24, eq55, hl, hl1, dl, ds, n1, hml, l3, l4, f62]
  refine Lwp.ret (post_val (v := .agg (ints .u64 x4)) ?_ ?_)
  · simp only [go_sem, List.isEmpty_nil, isC, eq_self, reduceIte, Nat.reduceAdd, Nat.reduceMul, Nat.reduceSub, Nat.reduceLT, Nat.reduceLeDiff, Nat.reduceEqDiff, Nat.reduceDiv, Nat.reduceMod, Nat.reducePow, Nat.reduceBEq, Nat.reduceBNe, Int.reduceLT, Int.reduceLE, Int.reduceGT, Int.reduceGE, Int.reduceBEq, Int.reduceBNe, Int.reduceToNat, Int.reduceAdd, Int.reduceSub, Int.reduceMul, Int.reduceEq, Int.reduceNeg, reduceCtorEq, decide_true, decide_false, Bool.false_eq_true, ty24, l4]
  · simp only [go_sem, List.isEmpty_nil, isC, eq_self, reduceIte, Nat.reduceAdd, Nat.reduceMul, Nat.reduceSub, Nat.reduceLT, Nat.reduceLeDiff, Nat.reduceEqDiff, Nat.reduceDiv, Nat.reduceMod, Nat.reducePow, Nat.reduceBEq, Nat.reduceBNe, Int.reduceLT, Int.reduceLE, Int.reduceGT, Int.reduceGE, Int.reduceBEq, Int.reduceBNe, Int.reduceToNat, Int.reduceAdd, Int.reduceSub, Int.reduceMul, Int.reduceEq, Int.reduceNeg, reduceCtorEq, decide_true, decide_false, Bool.false_eq_true]

theorem sub_fin {m x y : Nat} (hm : m < 18446744073709551616 ^ 6) (hx : x < m) (hy : y < m) :
    (if x < y then lim6 ((x + 18446744073709551616 ^ 6 - y) % 18446744073709551616 ^ 6 + m) else lim6 ((x + 18446744073709551616 ^ 6 - y) % 18446744073709551616 ^ 6)) = lim6 ((x + (m - y)) % m) := by
  have e1 : x < y → ((x + 18446744073709551616 ^ 6 - y) % 18446744073709551616 ^ 6 + m) % 18446744073709551616 ^ 6 = (x + (m - y)) % m := by
    intro hxy
    generalize (18446744073709551616 : Nat) ^ 6 = R at *
    have a1 : (x + R - y) % R = x + R - y := Nat.mod_eq_of_lt (by omega)
    have a2 : x + R - y + m = (x + (m - y)) + R := by omega
    have a3 : (x + (m - y)) % R = x + (m - y) := Nat.mod_eq_of_lt (by omega)
    have a4 : (x + (m - y)) % m = x + (m - y) := Nat.mod_eq_of_lt (by omega)
    rw [a1, a2, Nat.add_mod_right, a3, a4]
  have e2 : ¬ x < y → (x + 18446744073709551616 ^ 6 - y) % 18446744073709551616 ^ 6 = (x + (m - y)) % m := by
    intro hxy
    generalize (18446744073709551616 : Nat) ^ 6 = R at *
    have a1 : x + R - y = (x - y) + R := by omega
    have a2 : x + (m - y) = (x - y) + m := by omega
    have a3 : (x - y) % R = x - y := Nat.mod_eq_of_lt (by omega)
    have a4 : (x - y) % m = x - y := Nat.mod_eq_of_lt (by omega)
    rw [a1, a2, Nat.add_mod_right, Nat.add_mod_right, a3, a4]
  by_cases h : x < y
  · rw [if_pos h, ← e1 h, lim6_modR]
  · rw [if_neg h, ← e2 h]

noncomputable def S51 : List AV → Option Ret := nz (sumOf (fun p : List Int × List Int × List Int => match p with | (a, b, d) => (U6 a) ∧ (U6 b) ∧ (ModL d)) (fun p : List Int × List Int × List Int => match p with | (a, b, d) => [.agg (ints .u64 a), .agg (ints .u64 b), .agg (ints .u64 d)]) (fun p : List Int × List Int × List Int => match p with | (a, b, d) => ⟨.agg (ints .u64 (lim6 ((v64 a % v64 (d.take 6) + (v64 (d.take 6) - v64 b % v64 (d.take 6))) % v64 (d.take 6)))), none⟩))
theorem S51_eq (a : List Int) (b : List Int) (d : List Int) (h0 : U6 a) (h1 : U6 b) (h2 : ModL d) : S51 [.agg (ints .u64 a), .agg (ints .u64 b), .agg (ints .u64 d)] = some ⟨.agg (ints .u64 (lim6 ((v64 a % v64 (d.take 6) + (v64 (d.take 6) - v64 b % v64 (d.take 6))) % v64 (d.take 6)))), none⟩ :=
  sumOf_eq (dom := (fun p : List Int × List Int × List Int => match p with | (a, b, d) => (U6 a) ∧ (U6 b) ∧ (ModL d))) (enc := (fun p : List Int × List Int × List Int => match p with | (a, b, d) => [.agg (ints .u64 a), .agg (ints .u64 b), .agg (ints .u64 d)])) (out := (fun p : List Int × List Int × List Int => match p with | (a, b, d) => ⟨.agg (ints .u64 (lim6 ((v64 a % v64 (d.take 6) + (v64 (d.take 6) - v64 b % v64 (d.take 6))) % v64 (d.take 6)))), none⟩)) (a, b, d) ⟨h0, h1, h2⟩ (fun y _ e => by
    obtain ⟨y0, y1, y2⟩ := y
    simp only [List.cons.injEq, AV.agg.injEq, AV.int.injEq, AV.slc.injEq, AV.iptr.injEq, AV.bool.injEq, AV.str.injEq, ints_injEq, dig_injEq,  Int.ofNat_inj, BitVec.toNat_inj, true_and, and_true] at e
    first | with_reducible rfl | simp only [e] | rfl)
theorem S51_inv {args : List AV} {r : Ret} (h : sumOf (fun p : List Int × List Int × List Int => match p with | (a, b, d) => (U6 a) ∧ (U6 b) ∧ (ModL d)) (fun p : List Int × List Int × List Int => match p with | (a, b, d) => [.agg (ints .u64 a), .agg (ints .u64 b), .agg (ints .u64 d)]) (fun p : List Int × List Int × List Int => match p with | (a, b, d) => ⟨.agg (ints .u64 (lim6 ((v64 a % v64 (d.take 6) + (v64 (d.take 6) - v64 b % v64 (d.take 6))) % v64 (d.take 6)))), none⟩) args = some r) : ∃ (a : List Int) (b : List Int) (d : List Int), ((U6 a) ∧ (U6 b) ∧ (ModL d)) ∧ args = [.agg (ints .u64 a), .agg (ints .u64 b), .agg (ints .u64 d)] ∧ r = ⟨.agg (ints .u64 (lim6 ((v64 a % v64 (d.take 6) + (v64 (d.take 6) - v64 b % v64 (d.take 6))) % v64 (d.take 6)))), none⟩ := by
  obtain ⟨x, h1, h2, h3⟩ := sumOf_inv h
  obtain ⟨a, b, d⟩ := x
  exact ⟨a, b, d, h1, h2.symm, h3⟩


set_option maxRecDepth 100000 in
theorem walk51 (hT : (tb Try.prog [(23, S23), (27, S27), (35, S35), (64, S64)] []).Ok) (hM : Try.prog.follows .mixedOrders = true) (F : Fr) {a b d m x1 x2 x3 x4 x5 : List Int} {cb cy : Int} (hl : a.length = 6) (hl1 : b.length = 6) (dl : d.length = 13) (hml : m.length = 6)
    (ds : sub (ints .u64 d) 0 6 = ints .u64 m) (l1 : x1.length = 6) (l2 : x2.length = 6) (l3 : x3.length = 6) (l4 : x4.length = 6) (l5 : x5.length = 6)
    (f1 : S64 [.agg (ints .u64 a), .agg (ints .u64 d)] = some ⟨.agg (ints .u64 x1), none⟩) (f2 : S64 [.agg (ints .u64 b), .agg (ints .u64 d)] = some ⟨.agg (ints .u64 x2), none⟩)
    (f27 : S27 [.agg (ints .u64 x1), .agg (ints .u64 x2)] = some ⟨.tup [.agg (ints .u64 x3), .int .u64 cb], none⟩) (f35 : S35 [.agg (ints .u64 x3), .agg (ints .u64 m)] = some ⟨.tup [.agg (ints .u64 x4), .int .u64 cy], none⟩)
    (f23 : S23 [.int .u64 cb, .agg (ints .u64 x3), .agg (ints .u64 x4)] = some ⟨.agg (ints .u64 x5), none⟩) :
    Lwp okDraw (tb Try.prog [(23, S23), (27, S27), (35, S35), (64, S64)] []) F L51 (Post (tb Try.prog [(23, S23), (27, S27), (35, S35), (64, S64)] []) [.cell 6 24] ⟨.agg (ints .u64 x5), none⟩) (entry 32 [.agg (ints .u64 a), .agg (ints .u64 b), .agg (ints .u64 d)]) := by
  have n1 : (6 : Nat) ≤ 13 := by decide
  unfold L51
  refine Lwp.seq (Lwp.regI hT ?_)
  simp only [L51r0, go_sem, List.isEmpty_nil, isC, eq_self, reduceIte, Nat.reduceAdd, Nat.reduceMul, Nat.reduceSub, Nat.reduceLT, Nat.reduceLeDiff, Nat.reduceEqDiff, Nat.reduceDiv, Nat.reduceMod, Nat.reducePow, Nat.reduceBEq, Nat.reduceBNe, Int.reduceLT, Int.reduceLE, Int.reduceGT, Int.reduceGE, Int.reduceBEq, Int.reduceBNe, Int.reduceToNat, Int.reduceAdd, Int.reduceSub, Int.reduceMul, Int.reduceEq, Int.reduceNeg, reduceCtorEq, decide_true, decide_false, Bool.false_eq_true, ty3, ty4, ty5, ty9, ty22, ty24, ty30, ty31, ty32, ty35, ty37, ty38, ty54, ty55, ty60, ty84, eq24, eq55, hl, hl1, dl]
  refine Lwp.seq (Lwp.regD hT hM ?_)
  simp only [L51r1, go_sem, List.isEmpty_nil, isC, eq_self, reduceIte, Nat.reduceAdd, Nat.reduceMul, Nat.reduceSub, Nat.reduceLT, Nat.reduceLeDiff, Nat.reduceEqDiff, Nat.reduceDiv, Nat.reduceMod, Nat.reducePow, Nat.reduceBEq, Nat.reduceBNe, Int.reduceLT, Int.reduceLE, Int.reduceGT, Int.reduceGE, Int.reduceBEq, Int.reduceBNe, Int.reduceToNat, Int.reduceAdd, Int.reduceSub, Int.reduceMul, Int.reduceEq, Int.reduceNeg, reduceCtorEq, decide_true, decide_false, Bool.false_eq_true, ty3, ty4, ty5, ty9, ty22, ty24, ty30, ty31, ty32, ty35, ty37, ty38, ty54, ty55, ty60, ty84, eq24, eq55, hl, hl1, dl, f1, f2, f27, l1, l2, l3]
  refine Lwp.seq (Lwp.regI hT ?_)
  simp only [L51r2, go_sem, List.isEmpty_nil, isC, eq_self, reduceIte, Nat.reduceAdd, Nat.reduceMul, Nat.reduceSub, Nat.reduceLT, Nat.reduceLeDiff, Nat.reduceEqDiff, Nat.reduceDiv, Nat.reduceMod, Nat.reducePow, Nat.reduceBEq, Nat.reduceBNe, Int.reduceLT, Int.reduceLE, Int.reduceGT, Int.reduceGE, Int.reduceBEq, Int.reduceBNe, Int.reduceToNat, Int.reduceAdd, Int.reduceSub, Int.reduceMul, Int.reduceEq, Int.reduceNeg, reduceCtorEq, decide_true, decide_false, Bool.false_eq_true, ty3, ty4, ty5, ty9, ty22, ty24, ty30, ty31, ty32, ty35, ty37, ty38, ty54, ty55, ty60, ty84, eq24, eq55, hl, hl1, dl, ds, n1, hml, l3, l4, f35]
  refine Lwp.seq (Lwp.regI hT ?_)
  simp only [L51r3, go_sem, List.isEmpty_nil, isC, eq_self, reduceIte, Nat.reduceAdd, Nat.reduceMul, Nat.reduceSub, Nat.reduceLT, Nat.reduceLeDiff, Nat.reduceEqDiff, Nat.reduceDiv, Nat.reduceMod, Nat.reducePow, Nat.reduceBEq, Nat.reduceBNe, Int.reduceLT, Int.reduceLE, Int.reduceGT, Int.reduceGE, Int.reduceBEq, Int.reduceBNe, Int.reduceToNat, Int.reduceAdd, Int.reduceSub, Int.reduceMul, Int.reduceEq, Int.reduceNeg, reduceCtorEq, decide_true, decide_false, Bool.false_eq_true, ty3, ty4, ty5, ty9, ty22, ty24, ty30, ty31, ty32, ty35, ty37, ty38, ty54, ty55, ty60, ty84, eq24, eq55, hl, hl1, l3, l4, l5, f23]
  refine Lwp.ret (post_val (v := .agg (ints .u64 x5)) ?_ ?_)
  · simp only [go_sem, List.isEmpty_nil, isC, eq_self, reduceIte, Nat.reduceAdd, Nat.reduceMul, Nat.reduceSub, Nat.reduceLT, Nat.reduceLeDiff, Nat.reduceEqDiff, Nat.reduceDiv, Nat.reduceMod, Nat.reducePow, Nat.reduceBEq, Nat.reduceBNe, Int.reduceLT, Int.reduceLE, Int.reduceGT, Int.reduceGE, Int.reduceBEq, Int.reduceBNe, Int.reduceToNat, Int.reduceAdd, Int.reduceSub, Int.reduceMul, Int.reduceEq, Int.reduceNeg, reduceCtorEq, decide_true, decide_false, Bool.false_eq_true, ty24, l5]
  · simp only [go_sem, List.isEmpty_nil, isC, eq_self, reduceIte, Nat.reduceAdd, Nat.reduceMul, Nat.reduceSub, Nat.reduceLT, Nat.reduceLeDiff, Nat.reduceEqDiff, Nat.reduceDiv, Nat.reduceMod, Nat.reducePow, Nat.reduceBEq, Nat.reduceBNe, Int.reduceLT, Int.reduceLE, Int.reduceGT, Int.reduceGE, Int.reduceBEq, Int.reduceBNe, Int.reduceToNat, Int.reduceAdd, Int.reduceSub, Int.reduceMul, Int.reduceEq, Int.reduceNeg, reduceCtorEq, decide_true, decide_false, Bool.false_eq_true]

set_option maxRecDepth 100000 in
theorem snd51 : SndE Try.prog NoG 51 S51 := by
  refine snd_nz (snd_by [(23, S23), (27, S27), (35, S35), (64, S64)] [] Try.func51 (by kernel_rfl) lite51 nt51 rs51 ⟨snd23, snd27, snd35, snd64, trivial⟩ trivial (fun hT args r h => ?_))
  obtain ⟨a, b, d, ⟨hd0, hd1, hd2⟩, rfl, rfl⟩ := S51_inv h
  clear h
  have hM := hM0
  refine ⟨Nat.le_of_ble_eq_true rfl, fun F => ?_⟩
  unfold L51
  have hl := hd0.1
  have hl1 := hd1.1
  obtain ⟨m, hG, rfl⟩ := hd2
  have hM2 := ModL.modL hG
  have dl := modL_len hG.1
  have dt := modL_take hG.1
  have ds : sub (ints .u64 (modL m)) 0 6 = ints .u64 m := by rw [ints_sub, List.drop_zero, dt]
  have f1 := S64_eq a (modL m) hd0 hM2
  have f2 := S64_eq b (modL m) hd1 hM2
  rw [dt] at f1 f2 ⊢
  have hm := hG.1.v64_lt
  have hp := hG.pos
  have ha := Nat.mod_lt (v64 a) hp
  have hb := Nat.mod_lt (v64 b) hp
  have hu := U6_limZ (((v64 a % v64 m : Nat) : Int) - (v64 b % v64 m : Nat))
  have f27 : S27 [.agg (ints .u64 (lim6 (v64 a % v64 m))), .agg (ints .u64 (lim6 (v64 b % v64 m)))] = some ⟨.tup [.agg (ints .u64 (limZ (((v64 a % v64 m : Nat) : Int) - (v64 b % v64 m : Nat)))), .int .u64 (if v64 a % v64 m < v64 b % v64 m then 1 else 0)], none⟩ := by
    have h := S27_lim (v64 a % v64 m) (v64 b % v64 m)
    have hs := subC_six (mod_lt_R hG (v64 a)) (mod_lt_R hG (v64 b))
    rw [subC_lim _ _ 6 (Nat.le_refl 6)] at hs
    rw [hs] at h
    exact h
  have hz : limZ (((v64 a % v64 m : Nat) : Int) - (v64 b % v64 m : Nat)) = lim6 ((v64 a % v64 m + 18446744073709551616 ^ 6 - v64 b % v64 m) % 18446744073709551616 ^ 6) := limZ_sub (by omega)
  have hzl : (v64 a % v64 m + 18446744073709551616 ^ 6 - v64 b % v64 m) % 18446744073709551616 ^ 6 < 18446744073709551616 ^ 6 := Nat.mod_lt _ (Nat.pow_pos (by decide))
  have f35 := S35_lim hzl hm
  rw [← hz, hG.1.eq_lim] at f35
  have hk2 := sub_fin hm ha hb
  have f23 : ∀ c : Int, (c = 0 ∨ c = 1) → ∀ x y : List Int, U6 x → U6 y → S23 [.int .u64 c, .agg (ints .u64 x), .agg (ints .u64 y)] = some ⟨.agg (ints .u64 (if c = 1 then y else x)), none⟩ := fun c hc x y h1 h2 => S23_bit hc h1 h2
  have hbk := U6_lim ((v64 a % v64 m + 18446744073709551616 ^ 6 - v64 b % v64 m) % 18446744073709551616 ^ 6 + v64 m)
  have f230 := f23 0 (.inl rfl) _ _ hu hbk
  have f231 := f23 1 (.inr rfl) _ _ hu hbk
  simp only [if_neg (show ¬ (0 : Int) = 1 by decide), if_pos] at f230 f231
  rw [← hz] at hk2
  have f23' : S23 [.int .u64 (if v64 a % v64 m < v64 b % v64 m then 1 else 0), .agg (ints .u64 (limZ (((v64 a % v64 m : Nat) : Int) - (v64 b % v64 m : Nat)))), .agg (ints .u64 (lim6 ((v64 a % v64 m + 18446744073709551616 ^ 6 - v64 b % v64 m) % 18446744073709551616 ^ 6 + v64 m)))] = some ⟨.agg (ints .u64 (lim6 ((v64 a % v64 m + (v64 m - v64 b % v64 m)) % v64 m))), none⟩ := by
    by_cases hab : v64 a % v64 m < v64 b % v64 m
    · rw [if_pos hab] at hk2 ⊢; rw [f231, hk2]
    · rw [if_neg hab] at hk2 ⊢; rw [f230, hk2]
  exact walk51 hT hM F hl hl1 dl hG.1.1 ds (lim6_len _) (lim6_len _) hu.1 hbk.1 (lim6_len _) f1 f2 f27 f35 f23'
end Eng

namespace Eng
open Go Go.Proofs
set_option linter.unusedSimpArgs false
set_option linter.unusedVariables false
-- TY: ty3, ty4, ty5, ty9, ty22, ty24, ty30, ty31, ty32, ty35, ty37, ty38, ty54, ty55, ty60, ty84, eq24, eq55
-- XN: 55=subX 58=addX

theorem limb_bit (x i : Nat) : x / 18446744073709551616 ^ (i / 64) % 18446744073709551616 / 2 ^ (i % 64) % 2 = x / 2 ^ i % 2 := by
  have h1 : i = 64 * (i / 64) + i % 64 := (Nat.div_add_mod i 64).symm
  have h2 : 2 ^ i = 18446744073709551616 ^ (i / 64) * 2 ^ (i % 64) := by
    conv => lhs; rw [h1, Nat.pow_add, Nat.pow_mul]
  have h3 : i % 64 < 64 := Nat.mod_lt _ (by decide)
  rw [h2, ← Nat.div_div_eq_div_mul]
  generalize x / 18446744073709551616 ^ (i / 64) = q
  generalize i % 64 = s at *
  have h4 : (18446744073709551616 : Nat) = 2 ^ s * 2 ^ (64 - s) := by rw [← Nat.pow_add]; rw [show s + (64 - s) = 64 by omega]
  rw [h4, Nat.mod_mul_right_div_self]
  have h5 : (2 : Nat) ^ (64 - s) = 2 * 2 ^ (63 - s) := by rw [← Nat.pow_succ']; congr 1; omega
  rw [h5, Nat.mod_mul_right_mod]
theorem bitZ_nat {a : List Int} (h : U6 a) {i : Nat} (hi : i < 384) : bitZ a (i : Int) = ((v64 a / 2 ^ i % 2 : Nat) : Int) := by
  unfold bitZ
  rw [if_pos ⟨by omega, by omega⟩, Int.toNat_natCast, v64_getD h.2, ← limb_bit]
  norm_cast
theorem S21_nat {a : List Int} (h : U6 a) {i : Nat} (hi : i < 384) : S21 [.agg (ints .u64 a), .int .i64 (i : Int)] = some ⟨.int .u64 ((v64 a / 2 ^ i % 2 : Nat) : Int), none⟩ := by
  rw [S21_eq a i h ⟨by omega, by omega⟩, bitZ_nat h hi]
theorem one6_set : (List.replicate 6 (0 : Int)).set 0 1 = one6 := rfl
theorem v64_one : v64 one6 = 1 := by decide

theorem pow_half (b e i : Nat) : b ^ (e / 2 ^ i) = if e / 2 ^ i % 2 = 1 then b ^ (e / 2 ^ (i + 1)) * b ^ (e / 2 ^ (i + 1)) * b else b ^ (e / 2 ^ (i + 1)) * b ^ (e / 2 ^ (i + 1)) := by
  have h1 : e / 2 ^ (i + 1) = e / 2 ^ i / 2 := by rw [Nat.pow_succ, Nat.div_div_eq_div_mul]
  rw [h1]
  generalize e / 2 ^ i = q
  have h2 : q = q / 2 + q / 2 + q % 2 := by omega
  have h3 : b ^ q = b ^ (q / 2) * b ^ (q / 2) * b ^ (q % 2) := by rw [← Nat.pow_add, ← Nat.pow_add, ← h2]
  rcases Nat.mod_two_eq_zero_or_one q with h | h
  · rw [if_neg (by omega), h3, h, Nat.pow_zero, Nat.mul_one]
  · rw [if_pos h, h3, h, Nat.pow_one]
def St53 (d e x1 : List Int) (X : Nat → List Int) (k : Nat) : AState := { nt := 41, env := [(4, .own 1 0), (5, .own 2 0), (6, .own 3 0), (7, .own 9 0), (8, .own 16 0), (9, .int .i64 ((k : Int) - 1))], mem := [(1, ints .u64 e), (2, ints .u64 d), (3, ints .u64 (List.replicate 6 0)), (9, ints .u64 x1), (16, ints .u64 (X k))], next := 100 }

set_option maxRecDepth 100000 in
theorem walk53 (hT : (tb Try.prog [(21, S21), (23, S23), (63, S63)] []).Ok) (hM : Try.prog.follows .mixedOrders = true) (F : Fr) {a e d two x1 out : List Int} {X Y Z : Nat → List Int} {c : Nat → Int} (hl : a.length = 6) (hl1 : e.length = 6) (dl : d.length = 13)
    (d7 : sub (ints .u64 d) 7 6 = ints .u64 two) (l1 : x1.length = 6) (lX : ∀ k, (X k).length = 6) (lY : ∀ k, (Y k).length = 6) (lZ : ∀ k, (Z k).length = 6) (lo : out.length = 6)
    (fb : S63 [.agg (ints .u64 a), .agg (ints .u64 two), .agg (ints .u64 d)] = some ⟨.agg (ints .u64 x1), none⟩) (fi : S63 [.agg (ints .u64 one6), .agg (ints .u64 two), .agg (ints .u64 d)] = some ⟨.agg (ints .u64 (X 384)), none⟩)
    (fs : ∀ k, k < 384 → S63 [.agg (ints .u64 (X (k + 1))), .agg (ints .u64 (X (k + 1))), .agg (ints .u64 d)] = some ⟨.agg (ints .u64 (Y k)), none⟩)
    (fm : ∀ k, k < 384 → S63 [.agg (ints .u64 (Y k)), .agg (ints .u64 x1), .agg (ints .u64 d)] = some ⟨.agg (ints .u64 (Z k)), none⟩)
    (ft : ∀ k, k < 384 → S21 [.agg (ints .u64 e), .int .i64 (k : Nat)] = some ⟨.int .u64 (c k), none⟩)
    (fp : ∀ k, k < 384 → S23 [.int .u64 (c k), .agg (ints .u64 (Y k)), .agg (ints .u64 (Z k))] = some ⟨.agg (ints .u64 (X k)), none⟩)
    (fo : S63 [.agg (ints .u64 (X 0)), .agg (ints .u64 one6), .agg (ints .u64 d)] = some ⟨.agg (ints .u64 out), none⟩) :
    Lwp okDraw (tb Try.prog [(21, S21), (23, S23), (63, S63)] []) F L53 (Post (tb Try.prog [(21, S21), (23, S23), (63, S63)] []) [.cell 6 24] ⟨.agg (ints .u64 out), none⟩) (entry 41 [.agg (ints .u64 a), .agg (ints .u64 e), .agg (ints .u64 d)]) := by
  have n1 : (13 : Nat) ≤ 13 := by decide
  have o1 := one6_set
  have ol : one6.length = 6 := rfl
  have lX384 := lX 384
  generalize hX : X 384 = x384 at *
  unfold L53
  refine Lwp.seq (Lwp.regI hT ?_)
  simp only [L53r0, go_sem, List.isEmpty_nil, isC, eq_self, reduceIte, Nat.reduceAdd, Nat.reduceMul, Nat.reduceSub, Nat.reduceLT, Nat.reduceLeDiff, Nat.reduceEqDiff, Nat.reduceDiv, Nat.reduceMod, Nat.reducePow, Nat.reduceBEq, Nat.reduceBNe, Int.reduceLT, Int.reduceLE, Int.reduceGT, Int.reduceGE, Int.reduceBEq, Int.reduceBNe, Int.reduceToNat, Int.reduceAdd, Int.reduceSub, Int.reduceMul, Int.reduceEq, Int.reduceNeg, reduceCtorEq, decide_true, decide_false, Bool.false_eq_true, ty3, ty4, ty5, ty9, ty22, ty24, ty30, ty31, ty32, ty35, ty37, ty38, ty54, ty55, ty60, ty84, eq24, eq55, hl, hl1, dl]
  refine Lwp.seq (Lwp.regI hT ?_)
  simp only [L53r1, go_sem, List.isEmpty_nil, isC, eq_self, reduceIte, Nat.reduceAdd, Nat.reduceMul, Nat.reduceSub, Nat.reduceLT, Nat.reduceLeDiff, Nat.reduceEqDiff, Nat.reduceDiv, Nat.reduceMod, Nat.reducePow, Nat.reduceBEq, Nat.reduceBNe, Int.reduceLT, Int.reduceLE, Int.reduceGT, Int.reduceGE, Int.reduceBEq, Int.reduceBNe, Int.reduceToNat, Int.reduceAdd, Int.reduceSub, Int.reduceMul, Int.reduceEq, Int.reduceNeg, reduceCtorEq, decide_true, decide_false, Bool.false_eq_true, ty3, ty4, ty5, ty9, ty22, ty24, ty30, ty31, ty32, ty35, ty37, ty38, ty54, ty55, ty60, ty84, eq24, eq55, hl, hl1, dl, d7, n1, fb, l1]
  refine Lwp.seq (Lwp.regI hT ?_)
  simp only [L53r2, go_sem, List.isEmpty_nil, isC, eq_self, reduceIte, Nat.reduceAdd, Nat.reduceMul, Nat.reduceSub, Nat.reduceLT, Nat.reduceLeDiff, Nat.reduceEqDiff, Nat.reduceDiv, Nat.reduceMod, Nat.reducePow, Nat.reduceBEq, Nat.reduceBNe, Int.reduceLT, Int.reduceLE, Int.reduceGT, Int.reduceGE, Int.reduceBEq, Int.reduceBNe, Int.reduceToNat, Int.reduceAdd, Int.reduceSub, Int.reduceMul, Int.reduceEq, Int.reduceNeg, reduceCtorEq, decide_true, decide_false, Bool.false_eq_true, ty3, ty4, ty5, ty9, ty22, ty24, ty30, ty31, ty32, ty35, ty37, ty38, ty54, ty55, ty60, ty84, eq24, eq55, o1, hl, hl1, dl, d7, n1, fi, lX384]
  refine Lwp.seq ?_
  refine Lwp.seq (Lwp.regI hT ?_)
  simp only [L53r3, go_sem, List.isEmpty_nil, isC, eq_self, reduceIte, Nat.reduceAdd, Nat.reduceMul, Nat.reduceSub, Nat.reduceLT, Nat.reduceLeDiff, Nat.reduceEqDiff, Nat.reduceDiv, Nat.reduceMod, Nat.reducePow, Nat.reduceBEq, Nat.reduceBNe, Int.reduceLT, Int.reduceLE, Int.reduceGT, Int.reduceGE, Int.reduceBEq, Int.reduceBNe, Int.reduceToNat, Int.reduceAdd, Int.reduceSub, Int.reduceMul, Int.reduceEq, Int.reduceNeg, reduceCtorEq, decide_true, decide_false, Bool.false_eq_true, ty3, ty4, ty5, ty9, ty22, ty24, ty30, ty31, ty32, ty35, ty37, ty38, ty54, ty55, ty60, ty84, eq24, eq55]
  refine Lwp.block (Lwp.whl (St53 d e x1 X) (fun k => k ≤ 384) (fun k => k) 384 (Nat.le_refl _) ?_ ?_)
  · refine weak_of rfl ?_ ?_ ?_
    · (simp only [go_sem, List.isEmpty_nil, isC, eq_self, reduceIte, Nat.reduceAdd, Nat.reduceMul, Nat.reduceSub, Nat.reduceLT, Nat.reduceLeDiff, Nat.reduceEqDiff, Nat.reduceDiv, Nat.reduceMod, Nat.reducePow, Nat.reduceBEq, Nat.reduceBNe, Int.reduceLT, Int.reduceLE, Int.reduceGT, Int.reduceGE, Int.reduceBEq, Int.reduceBNe, Int.reduceToNat, Int.reduceAdd, Int.reduceSub, Int.reduceMul, Int.reduceEq, Int.reduceNeg, reduceCtorEq, decide_true, decide_false, Bool.false_eq_true, St53, hX]; try rfl)
    · (simp only [go_sem, List.isEmpty_nil, isC, eq_self, reduceIte, Nat.reduceAdd, Nat.reduceMul, Nat.reduceSub, Nat.reduceLT, Nat.reduceLeDiff, Nat.reduceEqDiff, Nat.reduceDiv, Nat.reduceMod, Nat.reducePow, Nat.reduceBEq, Nat.reduceBNe, Int.reduceLT, Int.reduceLE, Int.reduceGT, Int.reduceGE, Int.reduceBEq, Int.reduceBNe, Int.reduceToNat, Int.reduceAdd, Int.reduceSub, Int.reduceMul, Int.reduceEq, Int.reduceNeg, reduceCtorEq, decide_true, decide_false, Bool.false_eq_true, St53, hX]; try rfl)
    · (simp only [go_sem, List.isEmpty_nil, isC, eq_self, reduceIte, Nat.reduceAdd, Nat.reduceMul, Nat.reduceSub, Nat.reduceLT, Nat.reduceLeDiff, Nat.reduceEqDiff, Nat.reduceDiv, Nat.reduceMod, Nat.reducePow, Nat.reduceBEq, Nat.reduceBNe, Int.reduceLT, Int.reduceLE, Int.reduceGT, Int.reduceGE, Int.reduceBEq, Int.reduceBNe, Int.reduceToNat, Int.reduceAdd, Int.reduceSub, Int.reduceMul, Int.reduceEq, Int.reduceNeg, reduceCtorEq, decide_true, decide_false, Bool.false_eq_true, St53, hX]; try rfl)
  · intro k hk
    unfold St53
    refine Lwp.seq (Lwp.seq (Lwp.regI hT ?_))
    by_cases h0 : k = 0
    · subst h0
      have b1 : ¬ (((0 : Nat) : Int) - 1) ≥ 0 := by omega
      have lX0 := lX 0
      generalize X 0 = x0 at *
      simp only [L53r4, go_sem, List.isEmpty_nil, isC, eq_self, reduceIte, Nat.reduceAdd, Nat.reduceMul, Nat.reduceSub, Nat.reduceLT, Nat.reduceLeDiff, Nat.reduceEqDiff, Nat.reduceDiv, Nat.reduceMod, Nat.reducePow, Nat.reduceBEq, Nat.reduceBNe, Int.reduceLT, Int.reduceLE, Int.reduceGT, Int.reduceGE, Int.reduceBEq, Int.reduceBNe, Int.reduceToNat, Int.reduceAdd, Int.reduceSub, Int.reduceMul, Int.reduceEq, Int.reduceNeg, reduceCtorEq, decide_true, decide_false, Bool.false_eq_true, ty3, b1]
      refine Lwp.cond rfl (fun h => by cases h) (fun _ => Lwp.exit ?_)
      simp only [go_sem, List.isEmpty_nil, isC, eq_self, reduceIte, Nat.reduceAdd, Nat.reduceMul, Nat.reduceSub, Nat.reduceLT, Nat.reduceLeDiff, Nat.reduceEqDiff, Nat.reduceDiv, Nat.reduceMod, Nat.reducePow, Nat.reduceBEq, Nat.reduceBNe, Int.reduceLT, Int.reduceLE, Int.reduceGT, Int.reduceGE, Int.reduceBEq, Int.reduceBNe, Int.reduceToNat, Int.reduceAdd, Int.reduceSub, Int.reduceMul, Int.reduceEq, Int.reduceNeg, reduceCtorEq, decide_true, decide_false, Bool.false_eq_true]
      refine Lwp.seq (Lwp.regI hT ?_)
      simp only [L53r8, go_sem, List.isEmpty_nil, isC, eq_self, reduceIte, Nat.reduceAdd, Nat.reduceMul, Nat.reduceSub, Nat.reduceLT, Nat.reduceLeDiff, Nat.reduceEqDiff, Nat.reduceDiv, Nat.reduceMod, Nat.reducePow, Nat.reduceBEq, Nat.reduceBNe, Int.reduceLT, Int.reduceLE, Int.reduceGT, Int.reduceGE, Int.reduceBEq, Int.reduceBNe, Int.reduceToNat, Int.reduceAdd, Int.reduceSub, Int.reduceMul, Int.reduceEq, Int.reduceNeg, reduceCtorEq, decide_true, decide_false, Bool.false_eq_true, ty3, ty4, ty5, ty9, ty22, ty24, ty30, ty31, ty32, ty35, ty37, ty38, ty54, ty55, ty60, ty84, eq24, eq55, o1, dl, lX0, fo, lo]
      refine Lwp.ret (post_val (v := .agg (ints .u64 out)) ?_ ?_)
      · simp only [go_sem, List.isEmpty_nil, isC, eq_self, reduceIte, Nat.reduceAdd, Nat.reduceMul, Nat.reduceSub, Nat.reduceLT, Nat.reduceLeDiff, Nat.reduceEqDiff, Nat.reduceDiv, Nat.reduceMod, Nat.reducePow, Nat.reduceBEq, Nat.reduceBNe, Int.reduceLT, Int.reduceLE, Int.reduceGT, Int.reduceGE, Int.reduceBEq, Int.reduceBNe, Int.reduceToNat, Int.reduceAdd, Int.reduceSub, Int.reduceMul, Int.reduceEq, Int.reduceNeg, reduceCtorEq, decide_true, decide_false, Bool.false_eq_true, ty24, lo]
      · simp only [go_sem, List.isEmpty_nil, isC, eq_self, reduceIte, Nat.reduceAdd, Nat.reduceMul, Nat.reduceSub, Nat.reduceLT, Nat.reduceLeDiff, Nat.reduceEqDiff, Nat.reduceDiv, Nat.reduceMod, Nat.reducePow, Nat.reduceBEq, Nat.reduceBNe, Int.reduceLT, Int.reduceLE, Int.reduceGT, Int.reduceGE, Int.reduceBEq, Int.reduceBNe, Int.reduceToNat, Int.reduceAdd, Int.reduceSub, Int.reduceMul, Int.reduceEq, Int.reduceNeg, reduceCtorEq, decide_true, decide_false, Bool.false_eq_true]
    · obtain ⟨i, rfl⟩ : ∃ i, k = i + 1 := ⟨k - 1, by omega⟩
      have b0 : ((i + 1 : Nat) : Int) - 1 = (i : Int) := by omega
      have b1 : (i : Int) ≥ 0 := by omega
      have b2 : IntKind.i64.wrap ((i : Int) - 1) = (i : Int) - 1 := wrap_i64 (by omega) (by omega)
      have g1 := fs i (by omega)
      have g2 := fm i (by omega)
      have g3 := ft i (by omega)
      have g4 := fp i (by omega)
      have q1 := lX (i + 1)
      have q2 := lX i
      have q3 := lY i
      have q4 := lZ i
      simp only [b0]
      generalize X (i + 1) = xi1 at *
      generalize hxi : X i = xi at *
      generalize Y i = yi at *
      generalize Z i = zi at *
      generalize c i = ci at *
      simp only [L53r4, go_sem, List.isEmpty_nil, isC, eq_self, reduceIte, Nat.reduceAdd, Nat.reduceMul, Nat.reduceSub, Nat.reduceLT, Nat.reduceLeDiff, Nat.reduceEqDiff, Nat.reduceDiv, Nat.reduceMod, Nat.reducePow, Nat.reduceBEq, Nat.reduceBNe, Int.reduceLT, Int.reduceLE, Int.reduceGT, Int.reduceGE, Int.reduceBEq, Int.reduceBNe, Int.reduceToNat, Int.reduceAdd, Int.reduceSub, Int.reduceMul, Int.reduceEq, Int.reduceNeg, reduceCtorEq, decide_true, decide_false, Bool.false_eq_true, ty3, b1]
      refine Lwp.cond rfl (fun _ => Lwp.skip ?_) (fun h => by cases h)
      simp only [go_sem, List.isEmpty_nil, isC, eq_self, reduceIte, Nat.reduceAdd, Nat.reduceMul, Nat.reduceSub, Nat.reduceLT, Nat.reduceLeDiff, Nat.reduceEqDiff, Nat.reduceDiv, Nat.reduceMod, Nat.reducePow, Nat.reduceBEq, Nat.reduceBNe, Int.reduceLT, Int.reduceLE, Int.reduceGT, Int.reduceGE, Int.reduceBEq, Int.reduceBNe, Int.reduceToNat, Int.reduceAdd, Int.reduceSub, Int.reduceMul, Int.reduceEq, Int.reduceNeg, reduceCtorEq, decide_true, decide_false, Bool.false_eq_true]
      refine Lwp.seq (Lwp.block ?_)
      refine Lwp.seq (Lwp.regI hT ?_)
      simp only [L53r6, go_sem, List.isEmpty_nil, isC, eq_self, reduceIte, Nat.reduceAdd, Nat.reduceMul, Nat.reduceSub, Nat.reduceLT, Nat.reduceLeDiff, Nat.reduceEqDiff, Nat.reduceDiv, Nat.reduceMod, Nat.reducePow, Nat.reduceBEq, Nat.reduceBNe, Int.reduceLT, Int.reduceLE, Int.reduceGT, Int.reduceGE, Int.reduceBEq, Int.reduceBNe, Int.reduceToNat, Int.reduceAdd, Int.reduceSub, Int.reduceMul, Int.reduceEq, Int.reduceNeg, reduceCtorEq, decide_true, decide_false, Bool.false_eq_true, ty3, ty4, ty5, ty9, ty22, ty24, ty30, ty31, ty32, ty35, ty37, ty38, ty54, ty55, ty60, ty84, eq24, eq55, dl, q1, q3, g1]
      refine Lwp.regD hT hM ?_
      simp only [L53r7, go_sem, List.isEmpty_nil, isC, eq_self, reduceIte, Nat.reduceAdd, Nat.reduceMul, Nat.reduceSub, Nat.reduceLT, Nat.reduceLeDiff, Nat.reduceEqDiff, Nat.reduceDiv, Nat.reduceMod, Nat.reducePow, Nat.reduceBEq, Nat.reduceBNe, Int.reduceLT, Int.reduceLE, Int.reduceGT, Int.reduceGE, Int.reduceBEq, Int.reduceBNe, Int.reduceToNat, Int.reduceAdd, Int.reduceSub, Int.reduceMul, Int.reduceEq, Int.reduceNeg, reduceCtorEq, decide_true, decide_false, Bool.false_eq_true, ty3, ty4, ty5, ty9, ty22, ty24, ty30, ty31, ty32, ty35, ty37, ty38, ty54, ty55, ty60, ty84, eq24, eq55, hl1, dl, q3, q4, q2, l1, g2, g3, g4]
      refine Lwp.regI hT ?_
      simp only [L53r5, go_sem, List.isEmpty_nil, isC, eq_self, reduceIte, Nat.reduceAdd, Nat.reduceMul, Nat.reduceSub, Nat.reduceLT, Nat.reduceLeDiff, Nat.reduceEqDiff, Nat.reduceDiv, Nat.reduceMod, Nat.reducePow, Nat.reduceBEq, Nat.reduceBNe, Int.reduceLT, Int.reduceLE, Int.reduceGT, Int.reduceGE, Int.reduceBEq, Int.reduceBNe, Int.reduceToNat, Int.reduceAdd, Int.reduceSub, Int.reduceMul, Int.reduceEq, Int.reduceNeg, reduceCtorEq, decide_true, decide_false, Bool.false_eq_true, ty3, ty4, ty5, ty9, ty22, ty24, ty30, ty31, ty32, ty35, ty37, ty38, ty54, ty55, ty60, ty84, eq24, eq55, b2]
      refine ⟨i, by omega, by omega, ?_⟩
      refine weak_of rfl ?_ ?_ ?_
      · (simp only [go_sem, List.isEmpty_nil, isC, eq_self, reduceIte, Nat.reduceAdd, Nat.reduceMul, Nat.reduceSub, Nat.reduceLT, Nat.reduceLeDiff, Nat.reduceEqDiff, Nat.reduceDiv, Nat.reduceMod, Nat.reducePow, Nat.reduceBEq, Nat.reduceBNe, Int.reduceLT, Int.reduceLE, Int.reduceGT, Int.reduceGE, Int.reduceBEq, Int.reduceBNe, Int.reduceToNat, Int.reduceAdd, Int.reduceSub, Int.reduceMul, Int.reduceEq, Int.reduceNeg, reduceCtorEq, decide_true, decide_false, Bool.false_eq_true, St53, hxi]; try rfl)
      · (simp only [go_sem, List.isEmpty_nil, isC, eq_self, reduceIte, Nat.reduceAdd, Nat.reduceMul, Nat.reduceSub, Nat.reduceLT, Nat.reduceLeDiff, Nat.reduceEqDiff, Nat.reduceDiv, Nat.reduceMod, Nat.reducePow, Nat.reduceBEq, Nat.reduceBNe, Int.reduceLT, Int.reduceLE, Int.reduceGT, Int.reduceGE, Int.reduceBEq, Int.reduceBNe, Int.reduceToNat, Int.reduceAdd, Int.reduceSub, Int.reduceMul, Int.reduceEq, Int.reduceNeg, reduceCtorEq, decide_true, decide_false, Bool.false_eq_true, St53, hxi]; try rfl)
      · (simp only [go_sem, List.isEmpty_nil, isC, eq_self, reduceIte, Nat.reduceAdd, Nat.reduceMul, Nat.reduceSub, Nat.reduceLT, Nat.reduceLeDiff, Nat.reduceEqDiff, Nat.reduceDiv, Nat.reduceMod, Nat.reducePow, Nat.reduceBEq, Nat.reduceBNe, Int.reduceLT, Int.reduceLE, Int.reduceGT, Int.reduceGE, Int.reduceBEq, Int.reduceBNe, Int.reduceToNat, Int.reduceAdd, Int.reduceSub, Int.reduceMul, Int.reduceEq, Int.reduceNeg, reduceCtorEq, decide_true, decide_false, Bool.false_eq_true, St53, hxi]; try rfl)

noncomputable def S53 : List AV → Option Ret := nz (sumOf (fun p : List Int × List Int × List Int => match p with | (a, e, d) => (U6 a) ∧ (U6 e) ∧ (ModL d)) (fun p : List Int × List Int × List Int => match p with | (a, e, d) => [.agg (ints .u64 a), .agg (ints .u64 e), .agg (ints .u64 d)]) (fun p : List Int × List Int × List Int => match p with | (a, e, d) => ⟨.agg (ints .u64 (lim6 (v64 a ^ v64 e % v64 (d.take 6)))), none⟩))
theorem S53_eq (a : List Int) (e : List Int) (d : List Int) (h0 : U6 a) (h1 : U6 e) (h2 : ModL d) : S53 [.agg (ints .u64 a), .agg (ints .u64 e), .agg (ints .u64 d)] = some ⟨.agg (ints .u64 (lim6 (v64 a ^ v64 e % v64 (d.take 6)))), none⟩ :=
  sumOf_eq (dom := (fun p : List Int × List Int × List Int => match p with | (a, e, d) => (U6 a) ∧ (U6 e) ∧ (ModL d))) (enc := (fun p : List Int × List Int × List Int => match p with | (a, e, d) => [.agg (ints .u64 a), .agg (ints .u64 e), .agg (ints .u64 d)])) (out := (fun p : List Int × List Int × List Int => match p with | (a, e, d) => ⟨.agg (ints .u64 (lim6 (v64 a ^ v64 e % v64 (d.take 6)))), none⟩)) (a, e, d) ⟨h0, h1, h2⟩ (fun y _ e => by
    obtain ⟨y0, y1, y2⟩ := y
    simp only [List.cons.injEq, AV.agg.injEq, AV.int.injEq, AV.slc.injEq, AV.iptr.injEq, AV.bool.injEq, AV.str.injEq, ints_injEq, dig_injEq,  Int.ofNat_inj, BitVec.toNat_inj, true_and, and_true] at e
    first | with_reducible rfl | simp only [e] | rfl)
theorem S53_inv {args : List AV} {r : Ret} (h : sumOf (fun p : List Int × List Int × List Int => match p with | (a, e, d) => (U6 a) ∧ (U6 e) ∧ (ModL d)) (fun p : List Int × List Int × List Int => match p with | (a, e, d) => [.agg (ints .u64 a), .agg (ints .u64 e), .agg (ints .u64 d)]) (fun p : List Int × List Int × List Int => match p with | (a, e, d) => ⟨.agg (ints .u64 (lim6 (v64 a ^ v64 e % v64 (d.take 6)))), none⟩) args = some r) : ∃ (a : List Int) (e : List Int) (d : List Int), ((U6 a) ∧ (U6 e) ∧ (ModL d)) ∧ args = [.agg (ints .u64 a), .agg (ints .u64 e), .agg (ints .u64 d)] ∧ r = ⟨.agg (ints .u64 (lim6 (v64 a ^ v64 e % v64 (d.take 6)))), none⟩ := by
  obtain ⟨x, h1, h2, h3⟩ := sumOf_inv h
  obtain ⟨a, e, d⟩ := x
  exact ⟨a, e, d, h1, h2.symm, h3⟩


set_option maxRecDepth 100000 in
theorem snd53 : SndE Try.prog NoG 53 S53 := by
  refine snd_nz (snd_by [(21, S21), (23, S23), (63, S63)] [] Try.func53 (by kernel_rfl) lite53 nt53 rs53 ⟨snd21, snd23, snd63, trivial⟩ trivial (fun hT args r h => ?_))
  obtain ⟨a, e, d, ⟨hd0, hd1, hd2⟩, rfl, rfl⟩ := S53_inv h
  clear h
  have hM := hM0
  refine ⟨Nat.le_of_ble_eq_true rfl, fun F => ?_⟩
  unfold L53
  obtain ⟨m, hG, rfl⟩ := hd2
  have hM2 := ModL.modL hG
  have dl := modL_len hG.1
  have dt := modL_take hG.1
  have d7 : sub (ints .u64 (modL m)) 7 6 = ints .u64 (lim6 (18446744073709551616 ^ 6 * 18446744073709551616 ^ 6 % v64 m)) := by rw [ints_sub, modL_two hG.1]
  have hodd := hG.2.1
  have P : ∀ x y : Nat, x < 18446744073709551616 ^ 6 → y < 18446744073709551616 ^ 6 → S63 [.agg (ints .u64 (lim6 x)), .agg (ints .u64 (lim6 y)), .agg (ints .u64 (modL m))] = some ⟨.agg (ints .u64 (lim6 (redN (x * y) (v64 m)))), none⟩ := fun x y hx hy => by
    have := S63_eq (lim6 x) (lim6 y) (modL m) (U6_lim _) (U6_lim _) hM2
    rwa [v64_lim6 hx, v64_lim6 hy, dt] at this
  have lt := mod_lt_R hG
  have o1 : lim6 1 = one6 := by decide
  have fb := P (v64 a) _ hd0.v64_lt (two_lt hG)
  rw [redN_in hodd, hd0.eq_lim] at fb
  have fi := P 1 _ (by decide) (two_lt hG)
  rw [redN_in hodd, o1] at fi
  have fo := P (v64 a ^ (v64 e / 2 ^ 0) * 18446744073709551616 ^ 6 % v64 m) 1 (lt _) (by decide)
  rw [redN_out (u := v64 a ^ (v64 e / 2 ^ 0)) hodd (Nat.mod_mod _ _), o1, Nat.mul_one] at fo
  have e384 : v64 e / 2 ^ 384 = 0 := Nat.div_eq_of_lt (by have := hd1.v64_lt; rwa [show (18446744073709551616 : Nat) ^ 6 = 2 ^ 384 by decide] at this)
  rw [dt, ← Nat.div_one (v64 e), ← Nat.pow_zero 2]
  refine walk53 hT hM F (two := lim6 (18446744073709551616 ^ 6 * 18446744073709551616 ^ 6 % v64 m)) (X := fun k => lim6 (v64 a ^ (v64 e / 2 ^ k) * 18446744073709551616 ^ 6 % v64 m))
    (Y := fun k => lim6 (v64 a ^ (v64 e / 2 ^ (k + 1)) * v64 a ^ (v64 e / 2 ^ (k + 1)) * 18446744073709551616 ^ 6 % v64 m)) (Z := fun k => lim6 (v64 a ^ (v64 e / 2 ^ (k + 1)) * v64 a ^ (v64 e / 2 ^ (k + 1)) * v64 a * 18446744073709551616 ^ 6 % v64 m))
    (c := fun k => ((v64 e / 2 ^ k % 2 : Nat) : Int)) hd0.1 hd1.1 dl d7 (lim6_len _) (fun k => lim6_len _) (fun k => lim6_len _) (fun k => lim6_len _) (lim6_len _) fb ?_ (fun k hk => ?_) (fun k hk => ?_) (fun k hk => S21_nat hd1 hk) (fun k hk => ?_) fo
  · show S63 _ = some ⟨.agg (ints .u64 (lim6 (v64 a ^ (v64 e / 2 ^ 384) * 18446744073709551616 ^ 6 % v64 m))), none⟩
    rw [e384, Nat.pow_zero]; exact fi
  · have h := P _ _ (lt (v64 a ^ (v64 e / 2 ^ (k + 1)) * 18446744073709551616 ^ 6)) (lt (v64 a ^ (v64 e / 2 ^ (k + 1)) * 18446744073709551616 ^ 6))
    rw [redN_mul (u := v64 a ^ (v64 e / 2 ^ (k + 1))) (v := v64 a ^ (v64 e / 2 ^ (k + 1))) hodd (Nat.mod_mod _ _) (Nat.mod_mod _ _)] at h
    exact h
  · have h := P _ _ (lt (v64 a ^ (v64 e / 2 ^ (k + 1)) * v64 a ^ (v64 e / 2 ^ (k + 1)) * 18446744073709551616 ^ 6)) (lt (v64 a * 18446744073709551616 ^ 6))
    rw [redN_mul (u := v64 a ^ (v64 e / 2 ^ (k + 1)) * v64 a ^ (v64 e / 2 ^ (k + 1))) (v := v64 a) hodd (Nat.mod_mod _ _) (Nat.mod_mod _ _)] at h
    exact h
  · have hb : ((v64 e / 2 ^ k % 2 : Nat) : Int) = 0 ∨ ((v64 e / 2 ^ k % 2 : Nat) : Int) = 1 := by omega
    show S23 [.int .u64 ((v64 e / 2 ^ k % 2 : Nat) : Int), _, _] = some ⟨.agg (ints .u64 (lim6 (v64 a ^ (v64 e / 2 ^ k) * 18446744073709551616 ^ 6 % v64 m))), none⟩
    rw [S23_bit hb (U6_lim _) (U6_lim _), pow_half (v64 a) (v64 e) k]
    rcases Nat.mod_two_eq_zero_or_one (v64 e / 2 ^ k) with h | h
    · rw [if_neg (by rw [h]; decide), if_neg (by rw [h]; decide)]
    · rw [if_pos (by rw [h]; rfl), if_pos h]
end Eng
