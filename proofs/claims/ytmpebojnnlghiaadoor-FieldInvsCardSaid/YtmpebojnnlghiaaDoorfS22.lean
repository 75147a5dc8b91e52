/- Contracts of the program's functions, and laws over them. There is no further condition. -/
import Derived.Test.YtmpebojnnlghiaaDoorfS21
import Derived.Test.YtmpebojnnlghiaaDoorfS6
import Derived.Test.YtmpebojnnlghiaaDoorGC
set_option linter.unusedVariables false
set_option linter.unusedSimpArgs false
set_option exponentiation.threshold 2000
-- ALIAS: Tryd
namespace Eng
open Go Go.Proofs
set_option linter.unusedSimpArgs false
set_option linter.unusedVariables false
-- TY: ty3, ty4, ty5, ty9, ty22, ty24, ty38, ty39, ty40, ty43, ty27, ty28, ty74, ty75, ty59, eq24, eq75
-- XN: 74=subX 75=addX

theorem U6.v64_lt {a : List Int} (h : U6 a) : v64 a < 18446744073709551616 ^ 6 := by have := Eng.v64_lt h.2; rwa [h.1] at this
theorem U6.eq_lim {a : List Int} (h : U6 a) : lim6 (v64 a) = a := lim6_v64 h.1 h.2
theorem lim6_modR (x : Nat) : lim6 (x % 18446744073709551616 ^ 6) = lim6 x := by
  have : (18446744073709551616 : Nat) ^ 6 = 4294967296 ^ 12 := by decide
  rw [this]; exact lim6_mod x
theorem limZ_sub {x y : Nat} (h : y ≤ x + 18446744073709551616 ^ 6) : limZ ((x : Int) - y) = lim6 ((x + 18446744073709551616 ^ 6 - y) % 18446744073709551616 ^ 6) := by
  rw [lim6_modR, ← limZ_nat, ← limZ_add ((x : Int) - y)]
  congr 1
  have e : ((18446744073709551616 ^ 6 : Nat) : Int) = (18446744073709551616 : Int) ^ 6 := by decide
  rw [← e]
  generalize (18446744073709551616 : Nat) ^ 6 = R at *
  omega
theorem S64_bit {c : Int} {a b : List Int} (hc : c = 0 ∨ c = 1) (h : U6 a) (hb : U6 b) : S64 [.int .u64 c, .agg (ints .u64 a), .agg (ints .u64 b)] = some ⟨.agg (ints .u64 (if c = 1 then b else a)), none⟩ := by
  rw [S64_eq _ _ _ h hb, pick_eq (by omega) (by omega) h hb]
  rcases hc with rfl | rfl <;> rfl

noncomputable def S69 : List AV → Option Ret := nz (sumOf (fun p : List Int × Nat × List Int => match p with | (a, c, m) => (U6 a) ∧ (c ≤ 1) ∧ (U6 m)) (fun p : List Int × Nat × List Int => match p with | (a, c, m) => [.agg (ints .u64 a), .int .u64 c, .agg (ints .u64 m)]) (fun p : List Int × Nat × List Int => match p with | (a, c, m) => ⟨.agg (ints .u64 (lim6 (onceN (v64 a) c (v64 m)))), none⟩))
theorem S69_eq (a : List Int) (c : Nat) (m : List Int) (h0 : U6 a) (h1 : c ≤ 1) (h2 : U6 m) : S69 [.agg (ints .u64 a), .int .u64 c, .agg (ints .u64 m)] = some ⟨.agg (ints .u64 (lim6 (onceN (v64 a) c (v64 m)))), none⟩ :=
  sumOf_eq (dom := (fun p : List Int × Nat × List Int => match p with | (a, c, m) => (U6 a) ∧ (c ≤ 1) ∧ (U6 m))) (enc := (fun p : List Int × Nat × List Int => match p with | (a, c, m) => [.agg (ints .u64 a), .int .u64 c, .agg (ints .u64 m)])) (out := (fun p : List Int × Nat × List Int => match p with | (a, c, m) => ⟨.agg (ints .u64 (lim6 (onceN (v64 a) c (v64 m)))), none⟩)) (a, c, m) ⟨h0, h1, h2⟩ (fun y _ e => by
    obtain ⟨y0, y1, y2⟩ := y
    simp only [List.cons.injEq, AV.agg.injEq, AV.int.injEq, AV.slc.injEq, AV.iptr.injEq, AV.bool.injEq, AV.str.injEq, ints_injEq, dig_injEq,  Int.ofNat_inj, BitVec.toNat_inj, true_and, and_true] at e
    first | with_reducible rfl | simp only [e] | rfl)
theorem S69_inv {args : List AV} {r : Ret} (h : sumOf (fun p : List Int × Nat × List Int => match p with | (a, c, m) => (U6 a) ∧ (c ≤ 1) ∧ (U6 m)) (fun p : List Int × Nat × List Int => match p with | (a, c, m) => [.agg (ints .u64 a), .int .u64 c, .agg (ints .u64 m)]) (fun p : List Int × Nat × List Int => match p with | (a, c, m) => ⟨.agg (ints .u64 (lim6 (onceN (v64 a) c (v64 m)))), none⟩) args = some r) : ∃ (a : List Int) (c : Nat) (m : List Int), ((U6 a) ∧ (c ≤ 1) ∧ (U6 m)) ∧ args = [.agg (ints .u64 a), .int .u64 c, .agg (ints .u64 m)] ∧ r = ⟨.agg (ints .u64 (lim6 (onceN (v64 a) c (v64 m)))), none⟩ := by
  obtain ⟨x, h1, h2, h3⟩ := sumOf_inv h
  obtain ⟨a, c, m⟩ := x
  exact ⟨a, c, m, h1, h2.symm, h3⟩


theorem once_out {a : List Int} (ha : U6 a) (c m : Nat) (hm : m < 18446744073709551616 ^ 6) : (if c = 1 ∨ m ≤ v64 a then limZ ((v64 a : Int) - m) else a) = lim6 (onceN (v64 a) c m) := by
  unfold onceN
  split
  · exact limZ_sub (by omega)
  · exact ha.eq_lim.symm
theorem U6_limZ (z : Int) : U6 (limZ z) := ⟨tab_len _ _, by
  intro x hx
  obtain ⟨i, _, rfl⟩ := List.mem_map.1 hx
  exact ⟨Int.emod_nonneg _ (by decide), Int.emod_lt_of_pos _ (by decide)⟩⟩

set_option maxRecDepth 100000 in
theorem snd69 : SndE Tryd.prog NoG 69 S69 := by
  refine snd_nz (snd_by [(64, S64), (60, S60)] [] Tryd.func69 (by kernel_rfl) lite69 nt69 rs69 ⟨snd64, snd60, trivial⟩ trivial (fun hT args r h => ?_))
  obtain ⟨a, c, m, ⟨hd0, hd1, hd2⟩, rfl, rfl⟩ := S69_inv h
  clear h
  have hM := hM0
  refine ⟨Nat.le_of_ble_eq_true rfl, fun F => ?_⟩
  unfold L69
  have hl := hd0.1
  have hl2 := hd2.1
  have hx := hd0.v64_lt
  have hm := hd2.v64_lt
  have f27 : S60 [.agg (ints .u64 a), .agg (ints .u64 m)] = some ⟨.tup [.agg (ints .u64 (limZ ((v64 a : Int) - (v64 m : Nat)))), .int .u64 (if v64 a < v64 m then 1 else 0)], none⟩ := by
    have h := S60_lim (v64 a) (v64 m)
    have hs := subC_six hx hm
    rw [subC_lim _ _ 6 (Nat.le_refl 6)] at hs
    rw [hs, hd0.eq_lim, hd2.eq_lim] at h
    exact h
  have ho := once_out hd0 c (v64 m) hm
  have hz := U6_limZ ((v64 a : Int) - (v64 m : Nat))
  have hzl := hz.1
  have fin := lim6_len (onceN (v64 a) c (v64 m))
  generalize lim6 (onceN (v64 a) c (v64 m)) = out at *
  generalize limZ ((v64 a : Int) - (v64 m : Nat)) = dz at *
  have x1 : xorZ .u64 1 0 = 1 := by decide
  have x2 : xorZ .u64 1 1 = 0 := by decide
  have o1 : orZ .u64 0 1 = 1 := by decide
  have o2 : orZ .u64 0 0 = 0 := by decide
  have o3 : orZ .u64 1 1 = 1 := by decide
  have o4 : orZ .u64 1 0 = 1 := by decide
  have f23 : ∀ b : Int, (b = 0 ∨ b = 1) → S64 [.int .u64 b, .agg (ints .u64 a), .agg (ints .u64 dz)] = some ⟨.agg (ints .u64 (if b = 1 then dz else a)), none⟩ := fun b hb => S64_bit hb hd0 hz
  have f230 := f23 0 (.inl rfl)
  have f231 := f23 1 (.inr rfl)
  simp only [if_neg (show ¬ (0 : Int) = 1 by decide), if_pos] at f230 f231
  refine Lwp.seq (Lwp.regI hT ?_)
  simp only [L69r0, go_sem, List.isEmpty_nil, isC, eq_self, reduceIte, Nat.reduceAdd, Nat.reduceMul, Nat.reduceSub, Nat.reduceLT, Nat.reduceLeDiff, Nat.reduceEqDiff, Nat.reduceDiv, Nat.reduceMod, Nat.reducePow, Nat.reduceBEq, Nat.reduceBNe, Int.reduceLT, Int.reduceLE, Int.reduceGT, Int.reduceGE, Int.reduceBEq, Int.reduceBNe, Int.reduceToNat, Int.reduceAdd, Int.reduceSub, Int.reduceMul, Int.reduceEq, Int.reduceNeg, reduceCtorEq, decide_true, decide_false, Bool.false_eq_true, ty3, ty4, ty5, ty9, ty22, ty24, ty38, ty39, ty40, ty43, ty27, ty28, ty74, ty75, ty59, eq24, eq75, hl, hl2]
  refine Lwp.seq (Lwp.regI hT ?_)
  simp only [L69r1, go_sem, List.isEmpty_nil, isC, eq_self, reduceIte, Nat.reduceAdd, Nat.reduceMul, Nat.reduceSub, Nat.reduceLT, Nat.reduceLeDiff, Nat.reduceEqDiff, Nat.reduceDiv, Nat.reduceMod, Nat.reducePow, Nat.reduceBEq, Nat.reduceBNe, Int.reduceLT, Int.reduceLE, Int.reduceGT, Int.reduceGE, Int.reduceBEq, Int.reduceBNe, Int.reduceToNat, Int.reduceAdd, Int.reduceSub, Int.reduceMul, Int.reduceEq, Int.reduceNeg, reduceCtorEq, decide_true, decide_false, Bool.false_eq_true, ty3, ty4, ty5, ty9, ty22, ty24, ty38, ty39, ty40, ty43, ty27, ty28, ty74, ty75, ty59, eq24, eq75, hl, hl2, f27, hzl]
  have done : ∀ (l : List Int) (env : List (Nat × AV)) (mem : List (Nat × List AV)) (nx : Nat), l = out → find env 6 = some (.own 2 0) → find mem 2 = some (ints .u64 l) → Lwp okDraw (tb Tryd.prog [(64, S64), (60, S60)] []) F LC.ret (Post (tb Tryd.prog [(64, S64), (60, S60)] []) [.cell 6 24] ⟨.agg (ints .u64 out), none⟩) { nt := 22, env := env, mem := mem, next := nx } := by
    intro l env mem nx e1 e2 e3
    subst e1
    refine Lwp.ret (post_val (v := .agg (ints .u64 l)) ?_ ?_)
    · simp only [go_sem, List.isEmpty_nil, isC, eq_self, reduceIte, Nat.reduceAdd, Nat.reduceMul, Nat.reduceSub, Nat.reduceLT, Nat.reduceLeDiff, Nat.reduceEqDiff, Nat.reduceDiv, Nat.reduceMod, Nat.reducePow, Nat.reduceBEq, Nat.reduceBNe, Int.reduceLT, Int.reduceLE, Int.reduceGT, Int.reduceGE, Int.reduceBEq, Int.reduceBNe, Int.reduceToNat, Int.reduceAdd, Int.reduceSub, Int.reduceMul, Int.reduceEq, Int.reduceNeg, reduceCtorEq, decide_true, decide_false, Bool.false_eq_true, ty24, e2, e3, fin]
    · simp only [go_sem, List.isEmpty_nil, isC, eq_self, reduceIte, Nat.reduceAdd, Nat.reduceMul, Nat.reduceSub, Nat.reduceLT, Nat.reduceLeDiff, Nat.reduceEqDiff, Nat.reduceDiv, Nat.reduceMod, Nat.reducePow, Nat.reduceBEq, Nat.reduceBNe, Int.reduceLT, Int.reduceLE, Int.reduceGT, Int.reduceGE, Int.reduceBEq, Int.reduceBNe, Int.reduceToNat, Int.reduceAdd, Int.reduceSub, Int.reduceMul, Int.reduceEq, Int.reduceNeg, reduceCtorEq, decide_true, decide_false, Bool.false_eq_true]
  refine Lwp.seq (Lwp.regI hT ?_)
  rcases Nat.le_one_iff_eq_zero_or_eq_one.1 hd1 with rfl | rfl
  · by_cases h : v64 a < v64 m
    · rw [if_neg (by rintro (h1 | h1); (cases h1); omega)] at ho
      simp only [L69r2, go_sem, List.isEmpty_nil, isC, eq_self, reduceIte, Nat.reduceAdd, Nat.reduceMul, Nat.reduceSub, Nat.reduceLT, Nat.reduceLeDiff, Nat.reduceEqDiff, Nat.reduceDiv, Nat.reduceMod, Nat.reducePow, Nat.reduceBEq, Nat.reduceBNe, Int.reduceLT, Int.reduceLE, Int.reduceGT, Int.reduceGE, Int.reduceBEq, Int.reduceBNe, Int.reduceToNat, Int.reduceAdd, Int.reduceSub, Int.reduceMul, Int.reduceEq, Int.reduceNeg, reduceCtorEq, decide_true, decide_false, Bool.false_eq_true, ty22, ty24, if_pos h, Int.natCast_zero, x2, o2, hl, hzl, f230]
      exact done _ _ _ _ ho rfl rfl
    · rw [if_pos (.inr (by omega))] at ho
      simp only [L69r2, go_sem, List.isEmpty_nil, isC, eq_self, reduceIte, Nat.reduceAdd, Nat.reduceMul, Nat.reduceSub, Nat.reduceLT, Nat.reduceLeDiff, Nat.reduceEqDiff, Nat.reduceDiv, Nat.reduceMod, Nat.reducePow, Nat.reduceBEq, Nat.reduceBNe, Int.reduceLT, Int.reduceLE, Int.reduceGT, Int.reduceGE, Int.reduceBEq, Int.reduceBNe, Int.reduceToNat, Int.reduceAdd, Int.reduceSub, Int.reduceMul, Int.reduceEq, Int.reduceNeg, reduceCtorEq, decide_true, decide_false, Bool.false_eq_true, ty22, ty24, if_neg h, Int.natCast_zero, x1, o1, hl, hzl, f231]
      exact done _ _ _ _ ho rfl rfl
  · rw [if_pos (.inl rfl)] at ho
    have c1 : ((1 : Nat) : Int) = 1 := rfl
    by_cases h : v64 a < v64 m
    · simp only [L69r2, go_sem, List.isEmpty_nil, isC, eq_self, reduceIte, Nat.reduceAdd, Nat.reduceMul, Nat.reduceSub, Nat.reduceLT, Nat.reduceLeDiff, Nat.reduceEqDiff, Nat.reduceDiv, Nat.reduceMod, Nat.reducePow, Nat.reduceBEq, Nat.reduceBNe, Int.reduceLT, Int.reduceLE, Int.reduceGT, Int.reduceGE, Int.reduceBEq, Int.reduceBNe, Int.reduceToNat, Int.reduceAdd, Int.reduceSub, Int.reduceMul, Int.reduceEq, Int.reduceNeg, reduceCtorEq, decide_true, decide_false, Bool.false_eq_true, ty22, ty24, if_pos h, c1, x2, o4, hl, hzl, f231]
      exact done _ _ _ _ ho rfl rfl
    · simp only [L69r2, go_sem, List.isEmpty_nil, isC, eq_self, reduceIte, Nat.reduceAdd, Nat.reduceMul, Nat.reduceSub, Nat.reduceLT, Nat.reduceLeDiff, Nat.reduceEqDiff, Nat.reduceDiv, Nat.reduceMod, Nat.reducePow, Nat.reduceBEq, Nat.reduceBNe, Int.reduceLT, Int.reduceLE, Int.reduceGT, Int.reduceGE, Int.reduceBEq, Int.reduceBNe, Int.reduceToNat, Int.reduceAdd, Int.reduceSub, Int.reduceMul, Int.reduceEq, Int.reduceNeg, reduceCtorEq, decide_true, decide_false, Bool.false_eq_true, ty22, ty24, if_neg h, c1, x1, o3, hl, hzl, f231]
      exact done _ _ _ _ ho rfl rfl

theorem S69_lim {x c m : Nat} (hc : c ≤ 1) (hx : x < 18446744073709551616 ^ 6) (hm : m < 18446744073709551616 ^ 6) : S69 [.agg (ints .u64 (lim6 x)), .int .u64 c, .agg (ints .u64 (lim6 m))] = some ⟨.agg (ints .u64 (lim6 (onceN x c m))), none⟩ := by
  have := S69_eq (lim6 x) c (lim6 m) (U6_lim x) hc (U6_lim m)
  rwa [v64_lim6 hx, v64_lim6 hm] at this
theorem S69_0 {x m : Nat} (hx : x < 18446744073709551616 ^ 6) (hm : m < 18446744073709551616 ^ 6) (h : x < 2 * m) : S69 [.agg (ints .u64 (lim6 x)), .int .u64 0, .agg (ints .u64 (lim6 m))] = some ⟨.agg (ints .u64 (lim6 (x % m))), none⟩ := by
  have := S69_lim (c := 0) (by omega) hx hm
  rw [onceN_mod (by omega) hx hm (by omega), Nat.zero_mul, Nat.add_zero] at this
  exact this
/-- A sum below twice the modulus. -/
theorem S69_sum {s m : Nat} (hm : m < 18446744073709551616 ^ 6) (h : s < 2 * m) : S69 [.agg (ints .u64 (lim6 s)), .int .u64 (if s < 18446744073709551616 ^ 6 then 0 else 1), .agg (ints .u64 (lim6 m))] = some ⟨.agg (ints .u64 (lim6 (s % m))), none⟩ := by
  by_cases hs : s < 18446744073709551616 ^ 6
  · rw [if_pos hs]; exact S69_0 hs hm h
  · rw [if_neg hs]
    have e : (s % 18446744073709551616 ^ 6) + 1 * 18446744073709551616 ^ 6 = s := by
      rw [Nat.mod_eq_sub_mod (by omega), Nat.mod_eq_of_lt (by omega)]; omega
    have := S69_lim (x := s % 18446744073709551616 ^ 6) (c := 1) (by omega) (Nat.mod_lt _ (Nat.pow_pos (by decide))) hm
    rw [onceN_mod (by omega) (Nat.mod_lt _ (Nat.pow_pos (by decide))) hm (by omega), e, lim6_modR] at this
    exact this

/-- A modulus that may be. -/
def GoodM (m : List Int) : Prop := U6 m ∧ v64 m % 2 = 1 ∧ 18446744073709551616 ^ 6 < 2 * v64 m

def goodL (m : List Int) : List Int := (m.set 0 (orZ .u64 (m.getD 0 0) 1)).set 5 (orZ .u64 (m.getD 5 0) 9223372036854775808)
theorem or_lt (x y : Int) : 0 ≤ orZ .u64 x y ∧ orZ .u64 x y < 18446744073709551616 := by
  rw [orZ_u64]; constructor
  · omega
  · have := (BitVec.ofInt 64 x ||| BitVec.ofInt 64 y).isLt; omega
theorem or_odd (x : Int) : orZ .u64 x 1 % 2 = 1 := by
  rw [orZ_u64, BitVec.toNat_or]
  have h : ((BitVec.ofInt 64 x).toNat ||| (BitVec.ofInt 64 1).toNat).testBit 0 = true := by
    rw [Nat.testBit_or]; simp
  rw [Nat.testBit_zero] at h
  have := of_decide_eq_true h
  omega
theorem or_top (x : Int) : 9223372036854775808 ≤ orZ .u64 x 9223372036854775808 := by
  have h : (BitVec.ofInt 64 9223372036854775808).toNat ≤ (BitVec.ofInt 64 x).toNat ||| (BitVec.ofInt 64 9223372036854775808).toNat := Nat.right_le_or
  have e : (BitVec.ofInt 64 9223372036854775808).toNat = 9223372036854775808 := by decide
  rw [orZ_u64, BitVec.toNat_or, e]
  rw [e] at h
  omega
theorem v64_odd {m : List Int} (h : U6 m) : (v64 m % 2 : Nat) = ((m.getD 0 0) % 2).toNat := by
  have := v64_getD h.2 0
  rw [Nat.pow_zero, Nat.div_one] at this
  rw [this]; omega
theorem v64_top {m : List Int} (h : U6 m) : m.getD 5 0 = ((v64 m / 18446744073709551616 ^ 5 : Nat) : Int) := by
  have := v64_getD h.2 5
  have hlt : v64 m / 18446744073709551616 ^ 5 < 18446744073709551616 := Nat.div_lt_of_lt_mul (by rw [← Nat.pow_succ]; exact h.v64_lt)
  rw [Nat.mod_eq_of_lt hlt] at this
  exact this
theorem good_iff {m : List Int} (h : U6 m) : GoodM m ↔ (m.getD 0 0) % 2 = 1 ∧ 9223372036854775808 ≤ m.getD 5 0 := by
  have h0 := v64_odd h
  have h5 := v64_top h
  have hb := h.at 0
  have e : (18446744073709551616 : Nat) ^ 6 = 2 * (9223372036854775808 * 18446744073709551616 ^ 5) := by decide
  have hd : 9223372036854775808 ≤ v64 m / 18446744073709551616 ^ 5 ↔ 9223372036854775808 * 18446744073709551616 ^ 5 ≤ v64 m := Nat.le_div_iff_mul_le (Nat.pow_pos (by decide))
  unfold GoodM
  rw [e]
  have ev : (9223372036854775808 * 18446744073709551616 ^ 5) % 2 = 0 := by decide
  generalize 9223372036854775808 * 18446744073709551616 ^ 5 = H at *
  obtain ⟨hb0, hb1⟩ := hb
  constructor
  · rintro ⟨_, h1, h2⟩
    refine ⟨by omega, ?_⟩
    have := hd.2 (by omega)
    omega
  · rintro ⟨h1, h2⟩
    refine ⟨h, by omega, ?_⟩
    have := hd.1 (by omega)
    omega
theorem goodL_good {m : List Int} (h : U6 m) : GoodM (goodL m) := by
  have hU : U6 (goodL m) := ⟨by simp [goodL, h.1], (D64.set (D64.set h.2 0 (or_lt _ _).1 (or_lt _ _).2) 5 (or_lt _ _).1 (or_lt _ _).2)⟩
  have hl := h.1
  refine (good_iff hU).2 ⟨?_, ?_⟩
  · have : (goodL m).getD 0 0 = orZ .u64 (m.getD 0 0) 1 := by
      unfold goodL
      rw [getD_set' _ (by rw [List.length_set]; omega), if_neg (by decide), getD_set' _ (by omega), if_pos rfl]
    rw [this]; exact or_odd _
  · have : (goodL m).getD 5 0 = orZ .u64 (m.getD 5 0) 9223372036854775808 := by
      unfold goodL
      rw [getD_set' _ (by rw [List.length_set]; omega), if_pos rfl]
    rw [this]; exact or_top _

end Eng
