/- Contracts of the program's functions, and laws over them. There is no further condition. -/
import Derived.Test.YtmpebojnnlghiaaDoorU1qe
import Derived.Test.YtmpebojnnlghiaaDoorU0qe
import Derived.Test.YtmpebojnnlghiaaDoorED
import Derived.Test.YtmpebojnnlghiaaDoorEngGl
import Init.Data.Nat.Coprime
set_option linter.unusedVariables false
set_option linter.unusedSimpArgs false
set_option exponentiation.threshold 2000
namespace Eng
open Go Go.Proofs
set_option linter.unusedSimpArgs false
set_option linter.unusedVariables false
theorem eq75 : eqArr Tryd.prog 75 = true := by kernel_rfl

/-- What a row's digits are worth, in the document's product. -/
structure RowR (m x y xi i k : Nat) (o : List Int) (c : Nat) : Prop where
  len : o.length = m
  d : D32 o
  cb : c < 4294967296
  v : val o + c * 4294967296 ^ (i + k) = x % 4294967296 ^ i * y + xi * (y % 4294967296 ^ k) * 4294967296 ^ i
theorem rowR_first {m x y i lb : Nat} (hy : y < 4294967296 ^ lb) (him : i + lb ≤ m) (xi : Nat) : RowR m x y xi i 0 (low m (x % 4294967296 ^ i * y)) 0 := by
  have hlt : x % 4294967296 ^ i * y < 4294967296 ^ m := by
    have h1 : x % 4294967296 ^ i < 4294967296 ^ i := Nat.mod_lt _ (Nat.pow_pos (by decide))
    refine Nat.lt_of_lt_of_le ?_ (Nat.pow_le_pow_right (by decide) him)
    rw [Nat.pow_add]
    exact Nat.mul_lt_mul_of_lt_of_le h1 (Nat.le_of_lt hy) (Nat.pow_pos (by decide))
  refine ⟨low_len _ _, low_D32 _ _, by decide, ?_⟩
  rw [dig_low hlt, Nat.pow_zero, Nat.mod_one, Nat.zero_mul, Nat.mul_zero, Nat.zero_mul]
theorem rowR_next {m x y xi i k : Nat} {o : List Int} {c s : Nat} (hk : i + k < m) (h : RowR m x y xi i k o c) (hxi : xi < 4294967296) (hs : s = xi * (y / 4294967296 ^ k % 4294967296) + (o.getD (i + k) 0).toNat + c) :
    RowR m x y xi i (k + 1) (o.set (i + k) ((s % 4294967296 : Nat) : Int)) (s / 4294967296) := by
  have ho := h.d.at (i + k)
  have hy : y / 4294967296 ^ k % 4294967296 < 4294967296 := Nat.mod_lt _ (by decide)
  have hf := mul_fits hxi hy (show (o.getD (i + k) 0).toNat < 4294967296 by omega) h.cb
  rw [← hs] at hf
  refine ⟨by rw [List.length_set, h.len], h.d.set _ (by omega) (by omega), mul_div_lt hf, ?_⟩
  have hset := val_set o (i + k) (by rw [h.len]; omega) ((s % 4294967296 : Nat) : Int)
  rw [Int.toNat_natCast] at hset
  have hst := mul_step (B := 4294967296) hs hset h.v
  rw [show i + (k + 1) = i + k + 1 by omega, Nat.pow_succ, hst, Nat.mod_pow_succ, Nat.mul_add, Nat.add_mul, Nat.add_assoc]
  congr 2
  rw [Nat.pow_add]
  generalize (4294967296 : Nat) ^ i = p
  generalize (4294967296 : Nat) ^ k = q
  generalize y / q % 4294967296 = r
  rw [Nat.mul_comm p q, Nat.mul_assoc q p, Nat.mul_comm p, Nat.mul_left_comm q, Nat.mul_assoc, Nat.mul_assoc, Nat.mul_assoc, Nat.mul_left_comm q]
theorem rowR_bound {m x y xi i k lb : Nat} {o : List Int} {c : Nat} (h : RowR m x y xi i k o c) (hy : y < 4294967296 ^ lb) (hxi : xi < 4294967296) (hc : 0 < c) : k ≤ lb := by
  have h1 : x % 4294967296 ^ i < 4294967296 ^ i := Nat.mod_lt _ (Nat.pow_pos (by decide))
  have h2 := h.v
  have h3 : y % 4294967296 ^ k ≤ y := Nat.mod_le _ _
  have h4 : xi * (y % 4294967296 ^ k) * 4294967296 ^ i ≤ xi * 4294967296 ^ i * y := by
    rw [Nat.mul_right_comm]; exact Nat.mul_le_mul_left _ h3
  have h5 : x % 4294967296 ^ i * y + xi * 4294967296 ^ i * y = (x % 4294967296 ^ i + xi * 4294967296 ^ i) * y := by rw [Nat.add_mul]
  have h6 : x % 4294967296 ^ i + xi * 4294967296 ^ i < 4294967296 ^ (i + 1) := by
    rw [Nat.pow_succ, Nat.mul_comm (4294967296 ^ i)]
    have : xi * 4294967296 ^ i + 4294967296 ^ i ≤ 4294967296 * 4294967296 ^ i := by
      rw [← Nat.succ_mul]; exact Nat.mul_le_mul_right _ hxi
    omega
  have h7 : (x % 4294967296 ^ i + xi * 4294967296 ^ i) * y < 4294967296 ^ (i + 1) * 4294967296 ^ lb := Nat.mul_lt_mul_of_lt_of_le h6 (Nat.le_of_lt hy) (Nat.pow_pos (by decide))
  rw [← Nat.pow_add] at h7
  have h8 : 4294967296 ^ (i + k) ≤ c * 4294967296 ^ (i + k) := Nat.le_mul_of_pos_left _ hc
  have h9 : (4294967296 : Nat) ^ (i + k) < 4294967296 ^ (i + 1 + lb) := by omega
  have := (Nat.pow_lt_pow_iff_right (by decide : 1 < 4294967296)).1 h9
  omega
theorem rowR_last {m x y xi i k lb : Nat} {o : List Int} (hy : y < 4294967296 ^ lb) (hk : lb ≤ k) (hxi : xi = x / 4294967296 ^ i % 4294967296) (h : RowR m x y xi i k o 0) :
    o = low m (x % 4294967296 ^ (i + 1) * y) := by
  refine low_of h.len h.d ?_
  have hv := h.v
  have hyk : y < 4294967296 ^ k := Nat.lt_of_lt_of_le hy (Nat.pow_le_pow_right (by decide) hk)
  rw [Nat.zero_mul, Nat.add_zero, Nat.mod_eq_of_lt hyk] at hv
  rw [hv, Nat.mod_pow_succ, Nat.add_mul, ← hxi]
  congr 1
  rw [Nat.mul_right_comm, Nat.mul_comm xi]

noncomputable def S59 : List AV → Option Ret := nz (sumOf (fun p : Nat × Nat => match p with | (x, y) => ((dig x).length ≤ 1000000) ∧ ((dig y).length ≤ 1000000)) (fun p : Nat × Nat => match p with | (x, y) => [.slc (dig (x)).length (ints .u64 (dig (x))), .slc (dig (y)).length (ints .u64 (dig (y)))]) (fun p : Nat × Nat => match p with | (x, y) => ⟨.slc (dig (x * y)).length (ints .u64 (dig (x * y))), none⟩))
theorem S59_eq (x : Nat) (y : Nat) (h0 : (dig x).length ≤ 1000000) (h1 : (dig y).length ≤ 1000000) : S59 [.slc (dig (x)).length (ints .u64 (dig (x))), .slc (dig (y)).length (ints .u64 (dig (y)))] = some ⟨.slc (dig (x * y)).length (ints .u64 (dig (x * y))), none⟩ :=
  sumOf_eq (dom := (fun p : Nat × Nat => match p with | (x, y) => ((dig x).length ≤ 1000000) ∧ ((dig y).length ≤ 1000000))) (enc := (fun p : Nat × Nat => match p with | (x, y) => [.slc (dig (x)).length (ints .u64 (dig (x))), .slc (dig (y)).length (ints .u64 (dig (y)))])) (out := (fun p : Nat × Nat => match p with | (x, y) => ⟨.slc (dig (x * y)).length (ints .u64 (dig (x * y))), none⟩)) (x, y) ⟨h0, h1⟩ (fun y _ e => by
    obtain ⟨y0, y1⟩ := y
    simp only [List.cons.injEq, AV.agg.injEq, AV.int.injEq, AV.slc.injEq, AV.iptr.injEq, AV.bool.injEq, AV.str.injEq, ints_injEq, dig_injEq,  Int.ofNat_inj, BitVec.toNat_inj, true_and, and_true] at e
    first | with_reducible rfl | simp only [e] | rfl)
theorem S59_inv {args : List AV} {r : Ret} (h : sumOf (fun p : Nat × Nat => match p with | (x, y) => ((dig x).length ≤ 1000000) ∧ ((dig y).length ≤ 1000000)) (fun p : Nat × Nat => match p with | (x, y) => [.slc (dig (x)).length (ints .u64 (dig (x))), .slc (dig (y)).length (ints .u64 (dig (y)))]) (fun p : Nat × Nat => match p with | (x, y) => ⟨.slc (dig (x * y)).length (ints .u64 (dig (x * y))), none⟩) args = some r) : ∃ (x : Nat) (y : Nat), (((dig x).length ≤ 1000000) ∧ ((dig y).length ≤ 1000000)) ∧ args = [.slc (dig (x)).length (ints .u64 (dig (x))), .slc (dig (y)).length (ints .u64 (dig (y)))] ∧ r = ⟨.slc (dig (x * y)).length (ints .u64 (dig (x * y))), none⟩ := by
  obtain ⟨x, h1, h2, h3⟩ := sumOf_inv h
  obtain ⟨x, y⟩ := x
  exact ⟨x, y, h1, h2.symm, h3⟩


def St41 (x y m : Nat) (i : Nat) : AState := { nt := 61, env := [(0, .slc (dig (x)).length (ints .u64 (dig (x)))), (1, .slc (dig (y)).length (ints .u64 (dig (y)))), (5, .osl 7 0 m 1), (6, .int .i64 i)], mem := [(7, ints .u64 (low m (x % 4294967296 ^ i * y)))], next := 20 }
def St41k (x y m : Nat) (i k : Nat) (o : List Int) (c : Nat) : AState := { nt := 61, env := [(0, .slc (dig (x)).length (ints .u64 (dig (x)))), (1, .slc (dig (y)).length (ints .u64 (dig (y)))), (5, .osl 7 0 m 1), (6, .int .i64 i), (7, .int .u64 c), (8, .int .i64 k)], mem := [(7, ints .u64 o)], next := 20 }

set_option maxRecDepth 100000 in
theorem snd59 : SndE Tryd.prog NoG 59 S59 := by
  refine snd_nz (snd_by [(53, S53), (52, S52)] [] Tryd.func59 (by kernel_rfl) lite59 nt59 rs59 ⟨snd53, snd52, trivial⟩ trivial (fun hT args r h => ?_))
  obtain ⟨x, y, ⟨hd0, hd1⟩, rfl, rfl⟩ := S59_inv h
  clear h
  have hM := hM0
  refine ⟨Nat.le_of_ble_eq_true rfl, fun F => ?_⟩
  unfold L59
  have hxl : x < 4294967296 ^ (dig x).length := (dig_len_le x _).1 (Nat.le_refl _)
  have hyl : y < 4294967296 ^ (dig y).length := (dig_len_le y _).1 (Nat.le_refl _)
  have f57 := fun k : Nat => S52_eq (dig y) k (by omega)
  have gx := fun i : Nat => dig_getD x i
  have gy := fun i : Nat => dig_getD y i
  generalize hdx : dig x = dx at *
  generalize hdy : dig y = dy at *
  obtain ⟨la, hla⟩ : ∃ n, dx.length = n := ⟨_, rfl⟩
  obtain ⟨lb, hlb⟩ : ∃ n, dy.length = n := ⟨_, rfl⟩
  have hxy : x * y < 4294967296 ^ (la + lb + 1) := by
    rw [hla] at hxl; rw [hlb] at hyl
    refine Nat.lt_of_lt_of_le ?_ (Nat.pow_le_pow_right (by decide) (Nat.le_succ (la + lb)))
    rw [Nat.pow_add]
    exact Nat.mul_lt_mul_of_lt_of_le hxl (Nat.le_of_lt hyl) (Nat.pow_pos (by decide))
  have f54 : S53 [.slc (la + lb + 1) (ints .u64 (low (la + lb + 1) (x * y)))] = some ⟨.slc (dig (x * y)).length (ints .u64 (dig (x * y))), none⟩ := S53_low (by omega) hxy
  rw [hla] at hxl hd0
  rw [hlb] at hyl hd1 f57
  have z1 : IntKind.i64.wrap ((la : Int) + (lb : Int)) = ((la + lb : Nat) : Int) := by rw [wrap_i64 (by omega) (by omega)]; omega
  have z2 : IntKind.i64.wrap (((la + lb : Nat) : Int) + 1) = ((la + lb + 1 : Nat) : Int) := by rw [wrap_i64 (by omega) (by omega)]; omega
  have z4 : (0 : Int) ≤ ((la + lb + 1 : Nat) : Int) := by omega
  have z5 : ((la + lb + 1 : Nat) : Int) * 8 ≤ 281474976710656 := by omega
  have z6 : ((la + lb + 1 : Nat) : Int) ≤ 9223372036854775807 := by omega
  have ze : low (la + lb + 1) (x % 4294967296 ^ 0 * y) = List.replicate (la + lb + 1) 0 := by
    rw [Nat.pow_zero, Nat.mod_one, Nat.zero_mul, rep_tab]; exact tab_ext fun k _ => by simp
  generalize hm : la + lb + 1 = m at *
  refine Lwp.seq (Lwp.regI hT ?_)
  simp only [L59r0, go_sem, List.isEmpty_nil, isC, eq_self, reduceIte, Nat.reduceAdd, Nat.reduceMul, Nat.reduceSub, Nat.reduceLT, Nat.reduceLeDiff, Nat.reduceEqDiff, Nat.reduceDiv, Nat.reduceMod, Nat.reducePow, Nat.reduceBEq, Nat.reduceBNe, Int.reduceLT, Int.reduceLE, Int.reduceGT, Int.reduceGE, Int.reduceBEq, Int.reduceBNe, Int.reduceToNat, Int.reduceAdd, Int.reduceSub, Int.reduceMul, Int.reduceEq, Int.reduceNeg, reduceCtorEq, decide_true, decide_false, Bool.false_eq_true, ty3, ty4, ty5, ty9, ty22, ty24, ty38, ty39, ty40, ty43, ty27, ty28, ty74, ty75, ty59, eq24, eq75]
  rw [hla, hlb]
  refine Lwp.seq (Lwp.regI hT ?_)
  simp only [L59r1, go_sem, List.isEmpty_nil, isC, eq_self, reduceIte, Nat.reduceAdd, Nat.reduceMul, Nat.reduceSub, Nat.reduceLT, Nat.reduceLeDiff, Nat.reduceEqDiff, Nat.reduceDiv, Nat.reduceMod, Nat.reducePow, Nat.reduceBEq, Nat.reduceBNe, Int.reduceLT, Int.reduceLE, Int.reduceGT, Int.reduceGE, Int.reduceBEq, Int.reduceBNe, Int.reduceToNat, Int.reduceAdd, Int.reduceSub, Int.reduceMul, Int.reduceEq, Int.reduceNeg, reduceCtorEq, decide_true, decide_false, Bool.false_eq_true, ty3, ty4, ty5, ty9, ty22, ty24, ty38, ty39, ty40, ty43, ty27, ty28, ty74, ty75, ty59, eq24, eq75, z1, z2, z4, z5, z6, ints_zeros]
  refine Lwp.seq ?_
  refine Lwp.seq (Lwp.regI hT ?_)
  simp only [L59r2, go_sem, List.isEmpty_nil, isC, eq_self, reduceIte, Nat.reduceAdd, Nat.reduceMul, Nat.reduceSub, Nat.reduceLT, Nat.reduceLeDiff, Nat.reduceEqDiff, Nat.reduceDiv, Nat.reduceMod, Nat.reducePow, Nat.reduceBEq, Nat.reduceBNe, Int.reduceLT, Int.reduceLE, Int.reduceGT, Int.reduceGE, Int.reduceBEq, Int.reduceBNe, Int.reduceToNat, Int.reduceAdd, Int.reduceSub, Int.reduceMul, Int.reduceEq, Int.reduceNeg, reduceCtorEq, decide_true, decide_false, Bool.false_eq_true, ty3, ty4, ty5, ty9, ty22, ty24, ty38, ty39, ty40, ty43, ty27, ty28, ty74, ty75, ty59, eq24, eq75]
  refine Lwp.block (Lwp.range (St41 x y m) la ?_ (fun i hi => ?_) ?_)
  · refine weak_of rfl ?_ ?_ ?_
    · (simp only [go_sem, List.isEmpty_nil, isC, eq_self, reduceIte, Nat.reduceAdd, Nat.reduceMul, Nat.reduceSub, Nat.reduceLT, Nat.reduceLeDiff, Nat.reduceEqDiff, Nat.reduceDiv, Nat.reduceMod, Nat.reducePow, Nat.reduceBEq, Nat.reduceBNe, Int.reduceLT, Int.reduceLE, Int.reduceGT, Int.reduceGE, Int.reduceBEq, Int.reduceBNe, Int.reduceToNat, Int.reduceAdd, Int.reduceSub, Int.reduceMul, Int.reduceEq, Int.reduceNeg, reduceCtorEq, decide_true, decide_false, Bool.false_eq_true, St41, ze, hdx, hdy, hla, hlb]; try rfl)
    · (simp only [go_sem, List.isEmpty_nil, isC, eq_self, reduceIte, Nat.reduceAdd, Nat.reduceMul, Nat.reduceSub, Nat.reduceLT, Nat.reduceLeDiff, Nat.reduceEqDiff, Nat.reduceDiv, Nat.reduceMod, Nat.reducePow, Nat.reduceBEq, Nat.reduceBNe, Int.reduceLT, Int.reduceLE, Int.reduceGT, Int.reduceGE, Int.reduceBEq, Int.reduceBNe, Int.reduceToNat, Int.reduceAdd, Int.reduceSub, Int.reduceMul, Int.reduceEq, Int.reduceNeg, reduceCtorEq, decide_true, decide_false, Bool.false_eq_true, St41, ze, hdx, hdy, hla, hlb]; try rfl)
    · (simp only [go_sem, List.isEmpty_nil, isC, eq_self, reduceIte, Nat.reduceAdd, Nat.reduceMul, Nat.reduceSub, Nat.reduceLT, Nat.reduceLeDiff, Nat.reduceEqDiff, Nat.reduceDiv, Nat.reduceMod, Nat.reducePow, Nat.reduceBEq, Nat.reduceBNe, Int.reduceLT, Int.reduceLE, Int.reduceGT, Int.reduceGE, Int.reduceBEq, Int.reduceBNe, Int.reduceToNat, Int.reduceAdd, Int.reduceSub, Int.reduceMul, Int.reduceEq, Int.reduceNeg, reduceCtorEq, decide_true, decide_false, Bool.false_eq_true, St41, ze, hdx, hdy, hla, hlb]; try rfl)
  · have h3 : (i : Int) < (la : Nat) := by omega
    have h4 := wrap_succ hi (by omega)
    have c3 : (0 : Int) ≤ i := by omega
    have hxi : x / 4294967296 ^ i % 4294967296 < 4294967296 := Nat.mod_lt _ (by decide)
    have r0 := rowR_first (m := m) (x := x) (i := i) hyl (by omega) (x / 4294967296 ^ i % 4294967296)
    have rl := fun (k : Nat) (o : List Int) (hk : lb ≤ k) (h : RowR m x y (x / 4294967296 ^ i % 4294967296) i k o 0) => rowR_last hyl hk rfl h
    have gxi := gx i
    generalize x / 4294967296 ^ i % 4294967296 = xi at *
    unfold St41
    rw [hdx, hdy, hla, hlb]
    refine Lwp.seq ?_
    refine Lwp.seq (Lwp.regI hT ?_)
    simp only [L59r3, go_sem, List.isEmpty_nil, isC, eq_self, reduceIte, Nat.reduceAdd, Nat.reduceMul, Nat.reduceSub, Nat.reduceLT, Nat.reduceLeDiff, Nat.reduceEqDiff, Nat.reduceDiv, Nat.reduceMod, Nat.reducePow, Nat.reduceBEq, Nat.reduceBNe, Int.reduceLT, Int.reduceLE, Int.reduceGT, Int.reduceGE, Int.reduceBEq, Int.reduceBNe, Int.reduceToNat, Int.reduceAdd, Int.reduceSub, Int.reduceMul, Int.reduceEq, Int.reduceNeg, reduceCtorEq, decide_true, decide_false, Bool.false_eq_true, ty3, ty4, ty5, ty9, ty22, ty24, ty38, ty39, ty40, ty43, ty27, ty28, ty74, ty75, ty59, eq24, eq75, h3]
    refine Lwp.cond rfl (fun _ => Lwp.skip ?_) (fun h => by cases h)
    simp only [go_sem, List.isEmpty_nil, isC, eq_self, reduceIte, Nat.reduceAdd, Nat.reduceMul, Nat.reduceSub, Nat.reduceLT, Nat.reduceLeDiff, Nat.reduceEqDiff, Nat.reduceDiv, Nat.reduceMod, Nat.reducePow, Nat.reduceBEq, Nat.reduceBNe, Int.reduceLT, Int.reduceLE, Int.reduceGT, Int.reduceGE, Int.reduceBEq, Int.reduceBNe, Int.reduceToNat, Int.reduceAdd, Int.reduceSub, Int.reduceMul, Int.reduceEq, Int.reduceNeg, reduceCtorEq, decide_true, decide_false, Bool.false_eq_true]
    refine Lwp.seq (Lwp.block ?_)
    refine Lwp.seq (Lwp.regI hT ?_)
    simp only [L59r5, go_sem, List.isEmpty_nil, isC, eq_self, reduceIte, Nat.reduceAdd, Nat.reduceMul, Nat.reduceSub, Nat.reduceLT, Nat.reduceLeDiff, Nat.reduceEqDiff, Nat.reduceDiv, Nat.reduceMod, Nat.reducePow, Nat.reduceBEq, Nat.reduceBNe, Int.reduceLT, Int.reduceLE, Int.reduceGT, Int.reduceGE, Int.reduceBEq, Int.reduceBNe, Int.reduceToNat, Int.reduceAdd, Int.reduceSub, Int.reduceMul, Int.reduceEq, Int.reduceNeg, reduceCtorEq, decide_true, decide_false, Bool.false_eq_true, ty3, ty4, ty5, ty9, ty22, ty24, ty38, ty39, ty40, ty43, ty27, ty28, ty74, ty75, ty59, eq24, eq75]
    refine Lwp.seq (Lwp.regI hT ?_)
    simp only [L59r6, go_sem, List.isEmpty_nil, isC, eq_self, reduceIte, Nat.reduceAdd, Nat.reduceMul, Nat.reduceSub, Nat.reduceLT, Nat.reduceLeDiff, Nat.reduceEqDiff, Nat.reduceDiv, Nat.reduceMod, Nat.reducePow, Nat.reduceBEq, Nat.reduceBNe, Int.reduceLT, Int.reduceLE, Int.reduceGT, Int.reduceGE, Int.reduceBEq, Int.reduceBNe, Int.reduceToNat, Int.reduceAdd, Int.reduceSub, Int.reduceMul, Int.reduceEq, Int.reduceNeg, reduceCtorEq, decide_true, decide_false, Bool.false_eq_true, ty3, ty4, ty5, ty9, ty22, ty24, ty38, ty39, ty40, ty43, ty27, ty28, ty74, ty75, ty59, eq24, eq75]
    refine Lwp.block (Lwp.whl (fun p : Nat × List Int × Nat => St41k x y m i p.1 p.2.1 p.2.2) (fun p => RowR m x y xi i p.1 p.2.1 p.2.2 ∧ p.1 ≤ lb + 1) (fun p => lb + 2 - p.1) (0, low m (x % 4294967296 ^ i * y), 0) ⟨r0, by simp⟩ ?_ ?_)
    · refine weak_of rfl ?_ ?_ ?_
      · (simp only [go_sem, List.isEmpty_nil, isC, eq_self, reduceIte, Nat.reduceAdd, Nat.reduceMul, Nat.reduceSub, Nat.reduceLT, Nat.reduceLeDiff, Nat.reduceEqDiff, Nat.reduceDiv, Nat.reduceMod, Nat.reducePow, Nat.reduceBEq, Nat.reduceBNe, Int.reduceLT, Int.reduceLE, Int.reduceGT, Int.reduceGE, Int.reduceBEq, Int.reduceBNe, Int.reduceToNat, Int.reduceAdd, Int.reduceSub, Int.reduceMul, Int.reduceEq, Int.reduceNeg, reduceCtorEq, decide_true, decide_false, Bool.false_eq_true, St41k, hdx, hdy, hla, hlb]; try rfl)
      · (simp only [go_sem, List.isEmpty_nil, isC, eq_self, reduceIte, Nat.reduceAdd, Nat.reduceMul, Nat.reduceSub, Nat.reduceLT, Nat.reduceLeDiff, Nat.reduceEqDiff, Nat.reduceDiv, Nat.reduceMod, Nat.reducePow, Nat.reduceBEq, Nat.reduceBNe, Int.reduceLT, Int.reduceLE, Int.reduceGT, Int.reduceGE, Int.reduceBEq, Int.reduceBNe, Int.reduceToNat, Int.reduceAdd, Int.reduceSub, Int.reduceMul, Int.reduceEq, Int.reduceNeg, reduceCtorEq, decide_true, decide_false, Bool.false_eq_true, St41k, hdx, hdy, hla, hlb]; try rfl)
      · (simp only [go_sem, List.isEmpty_nil, isC, eq_self, reduceIte, Nat.reduceAdd, Nat.reduceMul, Nat.reduceSub, Nat.reduceLT, Nat.reduceLeDiff, Nat.reduceEqDiff, Nat.reduceDiv, Nat.reduceMod, Nat.reducePow, Nat.reduceBEq, Nat.reduceBNe, Int.reduceLT, Int.reduceLE, Int.reduceGT, Int.reduceGE, Int.reduceBEq, Int.reduceBNe, Int.reduceToNat, Int.reduceAdd, Int.reduceSub, Int.reduceMul, Int.reduceEq, Int.reduceNeg, reduceCtorEq, decide_true, decide_false, Bool.false_eq_true, St41k, hdx, hdy, hla, hlb]; try rfl)
    · rintro ⟨k, o, c⟩ ⟨hI, hk1⟩
      simp only at hI hk1
      unfold St41k
      rw [hdx, hdy, hla, hlb]
      have lo := hI.len
      have ho := hI.d.at (i + k)
      have hcb := hI.cb
      by_cases hgo : k < lb ∨ 0 < c
      · have hkb : k ≤ lb := by
          rcases hgo with h | h
          · omega
          · exact rowR_bound hI hyl hxi h
        have f57k := f57 k
        rw [gy k] at f57k
        have hyk : y / 4294967296 ^ k % 4294967296 < 4294967296 := Nat.mod_lt _ (by decide)
        have hN := rowR_next (m := m) (by omega) hI hxi rfl
        generalize y / 4294967296 ^ k % 4294967296 = yk at *
        obtain ⟨ov, hov⟩ : ∃ n : Nat, o.getD (i + k) 0 = (n : Int) := ⟨(o.getD (i + k) 0).toNat, by omega⟩
        have hovl : ov < 4294967296 := by omega
        have hovt : (o.getD (i + k) 0).toNat = ov := by omega
        rw [hovt] at hN
        have hP : xi * yk ≤ 4294967295 * 4294967295 := Nat.mul_le_mul (by omega) (by omega)
        have w0 : (xi : Int) * (yk : Int) = ((xi * yk : Nat) : Int) := (Int.natCast_mul _ _).symm
        have k1 : IntKind.i64.wrap ((i : Int) + (k : Int)) = ((i + k : Nat) : Int) := by rw [wrap_i64 (by omega) (by omega)]; omega
        have k2 : (0 : Int) ≤ ((i + k : Nat) : Int) := by omega
        have k3 : ((i + k : Nat) : Int) < (m : Nat) := by omega
        have k4 : i + k < m := by omega
        have k5 : i + k + 1 ≤ m := by omega
        have k6 : IntKind.i64.wrap ((k : Int) + 1) = ((k + 1 : Nat) : Int) := by rw [wrap_i64 (by omega) (by omega)]; omega
        generalize xi * yk = P at *
        have w1 : IntKind.u64.wrap (P : Int) = P := wrap_u64 (by omega) (by omega)
        have w2 : IntKind.u64.wrap ((ov : Int) + (P : Int)) = ((P + ov : Nat) : Int) := by rw [wrap_u64 (by omega) (by omega)]; omega
        have w3 : IntKind.u64.wrap (((P + ov : Nat) : Int) + (c : Int)) = ((P + ov + c : Nat) : Int) := by rw [wrap_u64 (by omega) (by omega)]; omega
        have v1 : ((P + ov + c : Nat) : Int).tmod 4294967296 = (((P + ov + c) % 4294967296 : Nat) : Int) := by rw [Int.tmod_eq_emod_of_nonneg (Int.natCast_nonneg _)]; omega
        have v2 : IntKind.u64.wrap (((P + ov + c : Nat) : Int).tdiv 4294967296) = (((P + ov + c) / 4294967296 : Nat) : Int) := by
          rw [Int.tdiv_eq_ediv_of_nonneg (Int.natCast_nonneg _), wrap_u64 (by omega) (by omega)]; omega
        generalize i + k = q at *
        refine Lwp.seq ?_
        by_cases hk : k < lb
        · have b1 : (k : Int) < (lb : Nat) := by omega
          refine Lwp.seq (Lwp.regI hT ?_)
          simp only [L59r7, go_sem, List.isEmpty_nil, isC, eq_self, reduceIte, Nat.reduceAdd, Nat.reduceMul, Nat.reduceSub, Nat.reduceLT, Nat.reduceLeDiff, Nat.reduceEqDiff, Nat.reduceDiv, Nat.reduceMod, Nat.reducePow, Nat.reduceBEq, Nat.reduceBNe, Int.reduceLT, Int.reduceLE, Int.reduceGT, Int.reduceGE, Int.reduceBEq, Int.reduceBNe, Int.reduceToNat, Int.reduceAdd, Int.reduceSub, Int.reduceMul, Int.reduceEq, Int.reduceNeg, reduceCtorEq, decide_true, decide_false, Bool.false_eq_true, ty3, ty4, ty5, ty9, ty22, ty24, ty38, ty39, ty40, ty43, ty27, ty28, ty74, ty75, ty59, eq24, eq75, b1]
          refine Lwp.cond rfl (fun _ => Lwp.skip ?_) (fun h => by cases h)
          simp only [go_sem, List.isEmpty_nil, isC, eq_self, reduceIte, Nat.reduceAdd, Nat.reduceMul, Nat.reduceSub, Nat.reduceLT, Nat.reduceLeDiff, Nat.reduceEqDiff, Nat.reduceDiv, Nat.reduceMod, Nat.reducePow, Nat.reduceBEq, Nat.reduceBNe, Int.reduceLT, Int.reduceLE, Int.reduceGT, Int.reduceGE, Int.reduceBEq, Int.reduceBNe, Int.reduceToNat, Int.reduceAdd, Int.reduceSub, Int.reduceMul, Int.reduceEq, Int.reduceNeg, reduceCtorEq, decide_true, decide_false, Bool.false_eq_true]
          refine Lwp.seq (Lwp.block ?_)
          refine Lwp.seq (Lwp.regD hT hM ?_)
          simp only [L59r9, go_sem, List.isEmpty_nil, isC, eq_self, reduceIte, Nat.reduceAdd, Nat.reduceMul, Nat.reduceSub, Nat.reduceLT, Nat.reduceLeDiff, Nat.reduceEqDiff, Nat.reduceDiv, Nat.reduceMod, Nat.reducePow, Nat.reduceBEq, Nat.reduceBNe, Int.reduceLT, Int.reduceLE, Int.reduceGT, Int.reduceGE, Int.reduceBEq, Int.reduceBNe, Int.reduceToNat, Int.reduceAdd, Int.reduceSub, Int.reduceMul, Int.reduceEq, Int.reduceNeg, reduceCtorEq, decide_true, decide_false, Bool.false_eq_true, ty3, ty4, ty5, ty9, ty22, ty24, ty38, ty39, ty40, ty43, ty27, ty28, ty74, ty75, ty59, eq24, eq75, h3, c3, hi, k1, k2, k3, k4, k5, hov, gxi, f57k, w0, w1, w2, w3, hla, hlb, lo]
          refine Lwp.seq (Lwp.regI hT ?_)
          simp only [L59r10, go_sem, List.isEmpty_nil, isC, eq_self, reduceIte, Nat.reduceAdd, Nat.reduceMul, Nat.reduceSub, Nat.reduceLT, Nat.reduceLeDiff, Nat.reduceEqDiff, Nat.reduceDiv, Nat.reduceMod, Nat.reducePow, Nat.reduceBEq, Nat.reduceBNe, Int.reduceLT, Int.reduceLE, Int.reduceGT, Int.reduceGE, Int.reduceBEq, Int.reduceBNe, Int.reduceToNat, Int.reduceAdd, Int.reduceSub, Int.reduceMul, Int.reduceEq, Int.reduceNeg, reduceCtorEq, decide_true, decide_false, Bool.false_eq_true, ty3, ty4, ty5, ty9, ty22, ty24, ty38, ty39, ty40, ty43, ty27, ty28, ty74, ty75, ty59, eq24, eq75, k1, k2, k3, k4, k5, lo, v1]
          refine Lwp.regI hT ?_
          simp only [L59r11, go_sem, List.isEmpty_nil, isC, eq_self, reduceIte, Nat.reduceAdd, Nat.reduceMul, Nat.reduceSub, Nat.reduceLT, Nat.reduceLeDiff, Nat.reduceEqDiff, Nat.reduceDiv, Nat.reduceMod, Nat.reducePow, Nat.reduceBEq, Nat.reduceBNe, Int.reduceLT, Int.reduceLE, Int.reduceGT, Int.reduceGE, Int.reduceBEq, Int.reduceBNe, Int.reduceToNat, Int.reduceAdd, Int.reduceSub, Int.reduceMul, Int.reduceEq, Int.reduceNeg, reduceCtorEq, decide_true, decide_false, Bool.false_eq_true, ty3, ty4, ty5, ty9, ty22, ty24, ty38, ty39, ty40, ty43, ty27, ty28, ty74, ty75, ty59, eq24, eq75, v2]
          refine Lwp.regI hT ?_
          simp only [L59r8, go_sem, List.isEmpty_nil, isC, eq_self, reduceIte, Nat.reduceAdd, Nat.reduceMul, Nat.reduceSub, Nat.reduceLT, Nat.reduceLeDiff, Nat.reduceEqDiff, Nat.reduceDiv, Nat.reduceMod, Nat.reducePow, Nat.reduceBEq, Nat.reduceBNe, Int.reduceLT, Int.reduceLE, Int.reduceGT, Int.reduceGE, Int.reduceBEq, Int.reduceBNe, Int.reduceToNat, Int.reduceAdd, Int.reduceSub, Int.reduceMul, Int.reduceEq, Int.reduceNeg, reduceCtorEq, decide_true, decide_false, Bool.false_eq_true, ty3, ty4, ty5, ty9, ty22, ty24, ty38, ty39, ty40, ty43, ty27, ty28, ty74, ty75, ty59, eq24, eq75, k6]
          refine ⟨(k + 1, o.set q (((P + ov + c) % 4294967296 : Nat) : Int), (P + ov + c) / 4294967296), ⟨hN, by simp only; omega⟩, by simp only; omega, ?_⟩
          refine weak_of rfl ?_ ?_ ?_
          · (simp only [go_sem, List.isEmpty_nil, isC, eq_self, reduceIte, Nat.reduceAdd, Nat.reduceMul, Nat.reduceSub, Nat.reduceLT, Nat.reduceLeDiff, Nat.reduceEqDiff, Nat.reduceDiv, Nat.reduceMod, Nat.reducePow, Nat.reduceBEq, Nat.reduceBNe, Int.reduceLT, Int.reduceLE, Int.reduceGT, Int.reduceGE, Int.reduceBEq, Int.reduceBNe, Int.reduceToNat, Int.reduceAdd, Int.reduceSub, Int.reduceMul, Int.reduceEq, Int.reduceNeg, reduceCtorEq, decide_true, decide_false, Bool.false_eq_true, St41k, hdx, hdy, hla, hlb]; try rfl)
          · (simp only [go_sem, List.isEmpty_nil, isC, eq_self, reduceIte, Nat.reduceAdd, Nat.reduceMul, Nat.reduceSub, Nat.reduceLT, Nat.reduceLeDiff, Nat.reduceEqDiff, Nat.reduceDiv, Nat.reduceMod, Nat.reducePow, Nat.reduceBEq, Nat.reduceBNe, Int.reduceLT, Int.reduceLE, Int.reduceGT, Int.reduceGE, Int.reduceBEq, Int.reduceBNe, Int.reduceToNat, Int.reduceAdd, Int.reduceSub, Int.reduceMul, Int.reduceEq, Int.reduceNeg, reduceCtorEq, decide_true, decide_false, Bool.false_eq_true, St41k, hdx, hdy, hla, hlb]; try rfl)
          · (simp only [go_sem, List.isEmpty_nil, isC, eq_self, reduceIte, Nat.reduceAdd, Nat.reduceMul, Nat.reduceSub, Nat.reduceLT, Nat.reduceLeDiff, Nat.reduceEqDiff, Nat.reduceDiv, Nat.reduceMod, Nat.reducePow, Nat.reduceBEq, Nat.reduceBNe, Int.reduceLT, Int.reduceLE, Int.reduceGT, Int.reduceGE, Int.reduceBEq, Int.reduceBNe, Int.reduceToNat, Int.reduceAdd, Int.reduceSub, Int.reduceMul, Int.reduceEq, Int.reduceNeg, reduceCtorEq, decide_true, decide_false, Bool.false_eq_true, St41k, hdx, hdy, hla, hlb]; try rfl)
        · have b1 : ¬ (k : Int) < (lb : Nat) := by omega
          have b2 : (c : Int) > 0 := by omega
          refine Lwp.seq (Lwp.regI hT ?_)
          simp only [L59r7, go_sem, List.isEmpty_nil, isC, eq_self, reduceIte, Nat.reduceAdd, Nat.reduceMul, Nat.reduceSub, Nat.reduceLT, Nat.reduceLeDiff, Nat.reduceEqDiff, Nat.reduceDiv, Nat.reduceMod, Nat.reducePow, Nat.reduceBEq, Nat.reduceBNe, Int.reduceLT, Int.reduceLE, Int.reduceGT, Int.reduceGE, Int.reduceBEq, Int.reduceBNe, Int.reduceToNat, Int.reduceAdd, Int.reduceSub, Int.reduceMul, Int.reduceEq, Int.reduceNeg, reduceCtorEq, decide_true, decide_false, Bool.false_eq_true, ty3, ty4, ty5, ty9, ty22, ty24, ty38, ty39, ty40, ty43, ty27, ty28, ty74, ty75, ty59, eq24, eq75, b1, b2]
          refine Lwp.cond rfl (fun _ => Lwp.skip ?_) (fun h => by cases h)
          simp only [go_sem, List.isEmpty_nil, isC, eq_self, reduceIte, Nat.reduceAdd, Nat.reduceMul, Nat.reduceSub, Nat.reduceLT, Nat.reduceLeDiff, Nat.reduceEqDiff, Nat.reduceDiv, Nat.reduceMod, Nat.reducePow, Nat.reduceBEq, Nat.reduceBNe, Int.reduceLT, Int.reduceLE, Int.reduceGT, Int.reduceGE, Int.reduceBEq, Int.reduceBNe, Int.reduceToNat, Int.reduceAdd, Int.reduceSub, Int.reduceMul, Int.reduceEq, Int.reduceNeg, reduceCtorEq, decide_true, decide_false, Bool.false_eq_true]
          refine Lwp.seq (Lwp.block ?_)
          refine Lwp.seq (Lwp.regD hT hM ?_)
          simp only [L59r9, go_sem, List.isEmpty_nil, isC, eq_self, reduceIte, Nat.reduceAdd, Nat.reduceMul, Nat.reduceSub, Nat.reduceLT, Nat.reduceLeDiff, Nat.reduceEqDiff, Nat.reduceDiv, Nat.reduceMod, Nat.reducePow, Nat.reduceBEq, Nat.reduceBNe, Int.reduceLT, Int.reduceLE, Int.reduceGT, Int.reduceGE, Int.reduceBEq, Int.reduceBNe, Int.reduceToNat, Int.reduceAdd, Int.reduceSub, Int.reduceMul, Int.reduceEq, Int.reduceNeg, reduceCtorEq, decide_true, decide_false, Bool.false_eq_true, ty3, ty4, ty5, ty9, ty22, ty24, ty38, ty39, ty40, ty43, ty27, ty28, ty74, ty75, ty59, eq24, eq75, h3, c3, hi, k1, k2, k3, k4, k5, hov, gxi, f57k, w0, w1, w2, w3, hla, hlb, lo]
          refine Lwp.seq (Lwp.regI hT ?_)
          simp only [L59r10, go_sem, List.isEmpty_nil, isC, eq_self, reduceIte, Nat.reduceAdd, Nat.reduceMul, Nat.reduceSub, Nat.reduceLT, Nat.reduceLeDiff, Nat.reduceEqDiff, Nat.reduceDiv, Nat.reduceMod, Nat.reducePow, Nat.reduceBEq, Nat.reduceBNe, Int.reduceLT, Int.reduceLE, Int.reduceGT, Int.reduceGE, Int.reduceBEq, Int.reduceBNe, Int.reduceToNat, Int.reduceAdd, Int.reduceSub, Int.reduceMul, Int.reduceEq, Int.reduceNeg, reduceCtorEq, decide_true, decide_false, Bool.false_eq_true, ty3, ty4, ty5, ty9, ty22, ty24, ty38, ty39, ty40, ty43, ty27, ty28, ty74, ty75, ty59, eq24, eq75, k1, k2, k3, k4, k5, lo, v1]
          refine Lwp.regI hT ?_
          simp only [L59r11, go_sem, List.isEmpty_nil, isC, eq_self, reduceIte, Nat.reduceAdd, Nat.reduceMul, Nat.reduceSub, Nat.reduceLT, Nat.reduceLeDiff, Nat.reduceEqDiff, Nat.reduceDiv, Nat.reduceMod, Nat.reducePow, Nat.reduceBEq, Nat.reduceBNe, Int.reduceLT, Int.reduceLE, Int.reduceGT, Int.reduceGE, Int.reduceBEq, Int.reduceBNe, Int.reduceToNat, Int.reduceAdd, Int.reduceSub, Int.reduceMul, Int.reduceEq, Int.reduceNeg, reduceCtorEq, decide_true, decide_false, Bool.false_eq_true, ty3, ty4, ty5, ty9, ty22, ty24, ty38, ty39, ty40, ty43, ty27, ty28, ty74, ty75, ty59, eq24, eq75, v2]
          refine Lwp.regI hT ?_
          simp only [L59r8, go_sem, List.isEmpty_nil, isC, eq_self, reduceIte, Nat.reduceAdd, Nat.reduceMul, Nat.reduceSub, Nat.reduceLT, Nat.reduceLeDiff, Nat.reduceEqDiff, Nat.reduceDiv, Nat.reduceMod, Nat.reducePow, Nat.reduceBEq, Nat.reduceBNe, Int.reduceLT, Int.reduceLE, Int.reduceGT, Int.reduceGE, Int.reduceBEq, Int.reduceBNe, Int.reduceToNat, Int.reduceAdd, Int.reduceSub, Int.reduceMul, Int.reduceEq, Int.reduceNeg, reduceCtorEq, decide_true, decide_false, Bool.false_eq_true, ty3, ty4, ty5, ty9, ty22, ty24, ty38, ty39, ty40, ty43, ty27, ty28, ty74, ty75, ty59, eq24, eq75, k6]
          refine ⟨(k + 1, o.set q (((P + ov + c) % 4294967296 : Nat) : Int), (P + ov + c) / 4294967296), ⟨hN, by simp only; omega⟩, by simp only; omega, ?_⟩
          refine weak_of rfl ?_ ?_ ?_
          · (simp only [go_sem, List.isEmpty_nil, isC, eq_self, reduceIte, Nat.reduceAdd, Nat.reduceMul, Nat.reduceSub, Nat.reduceLT, Nat.reduceLeDiff, Nat.reduceEqDiff, Nat.reduceDiv, Nat.reduceMod, Nat.reducePow, Nat.reduceBEq, Nat.reduceBNe, Int.reduceLT, Int.reduceLE, Int.reduceGT, Int.reduceGE, Int.reduceBEq, Int.reduceBNe, Int.reduceToNat, Int.reduceAdd, Int.reduceSub, Int.reduceMul, Int.reduceEq, Int.reduceNeg, reduceCtorEq, decide_true, decide_false, Bool.false_eq_true, St41k, hdx, hdy, hla, hlb]; try rfl)
          · (simp only [go_sem, List.isEmpty_nil, isC, eq_self, reduceIte, Nat.reduceAdd, Nat.reduceMul, Nat.reduceSub, Nat.reduceLT, Nat.reduceLeDiff, Nat.reduceEqDiff, Nat.reduceDiv, Nat.reduceMod, Nat.reducePow, Nat.reduceBEq, Nat.reduceBNe, Int.reduceLT, Int.reduceLE, Int.reduceGT, Int.reduceGE, Int.reduceBEq, Int.reduceBNe, Int.reduceToNat, Int.reduceAdd, Int.reduceSub, Int.reduceMul, Int.reduceEq, Int.reduceNeg, reduceCtorEq, decide_true, decide_false, Bool.false_eq_true, St41k, hdx, hdy, hla, hlb]; try rfl)
          · (simp only [go_sem, List.isEmpty_nil, isC, eq_self, reduceIte, Nat.reduceAdd, Nat.reduceMul, Nat.reduceSub, Nat.reduceLT, Nat.reduceLeDiff, Nat.reduceEqDiff, Nat.reduceDiv, Nat.reduceMod, Nat.reducePow, Nat.reduceBEq, Nat.reduceBNe, Int.reduceLT, Int.reduceLE, Int.reduceGT, Int.reduceGE, Int.reduceBEq, Int.reduceBNe, Int.reduceToNat, Int.reduceAdd, Int.reduceSub, Int.reduceMul, Int.reduceEq, Int.reduceNeg, reduceCtorEq, decide_true, decide_false, Bool.false_eq_true, St41k, hdx, hdy, hla, hlb]; try rfl)
      · have hc0 : c = 0 := by omega
        subst hc0
        have hkl : lb ≤ k := by omega
        have b1 : ¬ (k : Int) < (lb : Nat) := by omega
        have b2 : ¬ ((0 : Nat) : Int) > 0 := by omega
        have hF := rl k o hkl hI
        refine Lwp.seq ?_
        refine Lwp.seq (Lwp.regI hT ?_)
        simp only [L59r7, go_sem, List.isEmpty_nil, isC, eq_self, reduceIte, Nat.reduceAdd, Nat.reduceMul, Nat.reduceSub, Nat.reduceLT, Nat.reduceLeDiff, Nat.reduceEqDiff, Nat.reduceDiv, Nat.reduceMod, Nat.reducePow, Nat.reduceBEq, Nat.reduceBNe, Int.reduceLT, Int.reduceLE, Int.reduceGT, Int.reduceGE, Int.reduceBEq, Int.reduceBNe, Int.reduceToNat, Int.reduceAdd, Int.reduceSub, Int.reduceMul, Int.reduceEq, Int.reduceNeg, reduceCtorEq, decide_true, decide_false, Bool.false_eq_true, ty3, ty4, ty5, ty9, ty22, ty24, ty38, ty39, ty40, ty43, ty27, ty28, ty74, ty75, ty59, eq24, eq75, b1, b2]
        refine Lwp.cond rfl (fun h => by cases h) (fun _ => Lwp.exit ?_)
        simp only [go_sem, List.isEmpty_nil, isC, eq_self, reduceIte, Nat.reduceAdd, Nat.reduceMul, Nat.reduceSub, Nat.reduceLT, Nat.reduceLeDiff, Nat.reduceEqDiff, Nat.reduceDiv, Nat.reduceMod, Nat.reducePow, Nat.reduceBEq, Nat.reduceBNe, Int.reduceLT, Int.reduceLE, Int.reduceGT, Int.reduceGE, Int.reduceBEq, Int.reduceBNe, Int.reduceToNat, Int.reduceAdd, Int.reduceSub, Int.reduceMul, Int.reduceEq, Int.reduceNeg, reduceCtorEq, decide_true, decide_false, Bool.false_eq_true]
        refine Lwp.regI hT ?_
        simp only [L59r4, go_sem, List.isEmpty_nil, isC, eq_self, reduceIte, Nat.reduceAdd, Nat.reduceMul, Nat.reduceSub, Nat.reduceLT, Nat.reduceLeDiff, Nat.reduceEqDiff, Nat.reduceDiv, Nat.reduceMod, Nat.reducePow, Nat.reduceBEq, Nat.reduceBNe, Int.reduceLT, Int.reduceLE, Int.reduceGT, Int.reduceGE, Int.reduceBEq, Int.reduceBNe, Int.reduceToNat, Int.reduceAdd, Int.reduceSub, Int.reduceMul, Int.reduceEq, Int.reduceNeg, reduceCtorEq, decide_true, decide_false, Bool.false_eq_true, ty3, ty4, ty5, ty9, ty22, ty24, ty38, ty39, ty40, ty43, ty27, ty28, ty74, ty75, ty59, eq24, eq75, h4]
        refine weak_of rfl ?_ ?_ ?_
        · (simp only [go_sem, List.isEmpty_nil, isC, eq_self, reduceIte, Nat.reduceAdd, Nat.reduceMul, Nat.reduceSub, Nat.reduceLT, Nat.reduceLeDiff, Nat.reduceEqDiff, Nat.reduceDiv, Nat.reduceMod, Nat.reducePow, Nat.reduceBEq, Nat.reduceBNe, Int.reduceLT, Int.reduceLE, Int.reduceGT, Int.reduceGE, Int.reduceBEq, Int.reduceBNe, Int.reduceToNat, Int.reduceAdd, Int.reduceSub, Int.reduceMul, Int.reduceEq, Int.reduceNeg, reduceCtorEq, decide_true, decide_false, Bool.false_eq_true, St41, ← hF, hdx, hdy, hla, hlb]; try rfl)
        · (simp only [go_sem, List.isEmpty_nil, isC, eq_self, reduceIte, Nat.reduceAdd, Nat.reduceMul, Nat.reduceSub, Nat.reduceLT, Nat.reduceLeDiff, Nat.reduceEqDiff, Nat.reduceDiv, Nat.reduceMod, Nat.reducePow, Nat.reduceBEq, Nat.reduceBNe, Int.reduceLT, Int.reduceLE, Int.reduceGT, Int.reduceGE, Int.reduceBEq, Int.reduceBNe, Int.reduceToNat, Int.reduceAdd, Int.reduceSub, Int.reduceMul, Int.reduceEq, Int.reduceNeg, reduceCtorEq, decide_true, decide_false, Bool.false_eq_true, St41, ← hF, hdx, hdy, hla, hlb]; try rfl)
        · (simp only [go_sem, List.isEmpty_nil, isC, eq_self, reduceIte, Nat.reduceAdd, Nat.reduceMul, Nat.reduceSub, Nat.reduceLT, Nat.reduceLeDiff, Nat.reduceEqDiff, Nat.reduceDiv, Nat.reduceMod, Nat.reducePow, Nat.reduceBEq, Nat.reduceBNe, Int.reduceLT, Int.reduceLE, Int.reduceGT, Int.reduceGE, Int.reduceBEq, Int.reduceBNe, Int.reduceToNat, Int.reduceAdd, Int.reduceSub, Int.reduceMul, Int.reduceEq, Int.reduceNeg, reduceCtorEq, decide_true, decide_false, Bool.false_eq_true, St41, ← hF, hdx, hdy, hla, hlb]; try rfl)
  · unfold St41
    rw [hdx, hdy, hla, hlb]
    have h3 : ¬ ((la : Nat) : Int) < (la : Nat) := by omega
    refine Lwp.seq ?_
    refine Lwp.seq (Lwp.regI hT ?_)
    simp only [L59r3, go_sem, List.isEmpty_nil, isC, eq_self, reduceIte, Nat.reduceAdd, Nat.reduceMul, Nat.reduceSub, Nat.reduceLT, Nat.reduceLeDiff, Nat.reduceEqDiff, Nat.reduceDiv, Nat.reduceMod, Nat.reducePow, Nat.reduceBEq, Nat.reduceBNe, Int.reduceLT, Int.reduceLE, Int.reduceGT, Int.reduceGE, Int.reduceBEq, Int.reduceBNe, Int.reduceToNat, Int.reduceAdd, Int.reduceSub, Int.reduceMul, Int.reduceEq, Int.reduceNeg, reduceCtorEq, decide_true, decide_false, Bool.false_eq_true, ty3, ty4, ty5, ty9, ty22, ty24, ty38, ty39, ty40, ty43, ty27, ty28, ty74, ty75, ty59, eq24, eq75, h3]
    refine Lwp.cond rfl (fun h => by cases h) (fun _ => Lwp.exit ?_)
    simp only [go_sem, List.isEmpty_nil, isC, eq_self, reduceIte, Nat.reduceAdd, Nat.reduceMul, Nat.reduceSub, Nat.reduceLT, Nat.reduceLeDiff, Nat.reduceEqDiff, Nat.reduceDiv, Nat.reduceMod, Nat.reducePow, Nat.reduceBEq, Nat.reduceBNe, Int.reduceLT, Int.reduceLE, Int.reduceGT, Int.reduceGE, Int.reduceBEq, Int.reduceBNe, Int.reduceToNat, Int.reduceAdd, Int.reduceSub, Int.reduceMul, Int.reduceEq, Int.reduceNeg, reduceCtorEq, decide_true, decide_false, Bool.false_eq_true]
    rw [Nat.mod_eq_of_lt hxl]
    have g2 := low_len m (x * y)
    refine Lwp.seq (Lwp.regI hT ?_)
    simp only [L59r12, go_sem, List.isEmpty_nil, isC, eq_self, reduceIte, Nat.reduceAdd, Nat.reduceMul, Nat.reduceSub, Nat.reduceLT, Nat.reduceLeDiff, Nat.reduceEqDiff, Nat.reduceDiv, Nat.reduceMod, Nat.reducePow, Nat.reduceBEq, Nat.reduceBNe, Int.reduceLT, Int.reduceLE, Int.reduceGT, Int.reduceGE, Int.reduceBEq, Int.reduceBNe, Int.reduceToNat, Int.reduceAdd, Int.reduceSub, Int.reduceMul, Int.reduceEq, Int.reduceNeg, reduceCtorEq, decide_true, decide_false, Bool.false_eq_true, ty3, ty4, ty5, ty9, ty22, ty24, ty38, ty39, ty40, ty43, ty27, ty28, ty74, ty75, ty59, eq24, eq75, g2, Nat.le_refl, f54]
    refine Lwp.ret (post_val (v := .slc (dig (x * y)).length (ints .u64 (dig (x * y)))) ?_ ?_)
    · simp only [go_sem, List.isEmpty_nil, isC, eq_self, reduceIte, Nat.reduceAdd, Nat.reduceMul, Nat.reduceSub, Nat.reduceLT, Nat.reduceLeDiff, Nat.reduceEqDiff, Nat.reduceDiv, Nat.reduceMod, Nat.reducePow, Nat.reduceBEq, Nat.reduceBNe, Int.reduceLT, Int.reduceLE, Int.reduceGT, Int.reduceGE, Int.reduceBEq, Int.reduceBNe, Int.reduceToNat, Int.reduceAdd, Int.reduceSub, Int.reduceMul, Int.reduceEq, Int.reduceNeg, reduceCtorEq, decide_true, decide_false, Bool.false_eq_true]
    · simp only [go_sem, List.isEmpty_nil, isC, eq_self, reduceIte, Nat.reduceAdd, Nat.reduceMul, Nat.reduceSub, Nat.reduceLT, Nat.reduceLeDiff, Nat.reduceEqDiff, Nat.reduceDiv, Nat.reduceMod, Nat.reducePow, Nat.reduceBEq, Nat.reduceBNe, Int.reduceLT, Int.reduceLE, Int.reduceGT, Int.reduceGE, Int.reduceBEq, Int.reduceBNe, Int.reduceToNat, Int.reduceAdd, Int.reduceSub, Int.reduceMul, Int.reduceEq, Int.reduceNeg, reduceCtorEq, decide_true, decide_false, Bool.false_eq_true]
end Eng


namespace Eng
open Go Go.Proofs
set_option linter.unusedSimpArgs false
set_option linter.unusedVariables false
theorem dig_drop (x k : Nat) : dig (x / 4294967296 ^ k) = (dig x).drop k := by
  induction k generalizing x with
  | zero => simp
  | succ k ih =>
    by_cases hx : x = 0
    · subst hx; simp [dig_zero]
    · rw [dig_pos hx, List.drop_succ_cons, ← ih, Nat.pow_succ', Nat.div_div_eq_div_mul]
theorem dig_take {x k : Nat} (h : k ≤ (dig x).length) : (dig x).take k = low k x := eq_tab (by rw [List.length_take]; omega) fun i hi => by
  rw [← dig_getD]; simp [List.getD_eq_getElem?_getD, List.getElem?_take, hi]
theorem dig_mono {x y : Nat} (h : x ≤ y) : (dig x).length ≤ (dig y).length := by
  rw [dig_len_le]; exact Nat.lt_of_le_of_lt h ((dig_len_le y _).1 (Nat.le_refl _))

noncomputable def S71 : List AV → Option Ret := nz (sumOf (fun p : Nat => match p with | x => ((dig x).length ≤ 1000000)) (fun p : Nat => match p with | x => [.slc (dig (x)).length (ints .u64 (dig (x)))]) (fun p : Nat => match p with | x => ⟨.tup [.slc (dig (x % 4294967296 ^ 12)).length (ints .u64 (dig (x % 4294967296 ^ 12))), .slc (dig (x / 4294967296 ^ 12)).length (ints .u64 (dig (x / 4294967296 ^ 12)))], none⟩))
theorem S71_eq (x : Nat) (h0 : (dig x).length ≤ 1000000) : S71 [.slc (dig (x)).length (ints .u64 (dig (x)))] = some ⟨.tup [.slc (dig (x % 4294967296 ^ 12)).length (ints .u64 (dig (x % 4294967296 ^ 12))), .slc (dig (x / 4294967296 ^ 12)).length (ints .u64 (dig (x / 4294967296 ^ 12)))], none⟩ :=
  sumOf_eq (dom := (fun p : Nat => match p with | x => ((dig x).length ≤ 1000000))) (enc := (fun p : Nat => match p with | x => [.slc (dig (x)).length (ints .u64 (dig (x)))])) (out := (fun p : Nat => match p with | x => ⟨.tup [.slc (dig (x % 4294967296 ^ 12)).length (ints .u64 (dig (x % 4294967296 ^ 12))), .slc (dig (x / 4294967296 ^ 12)).length (ints .u64 (dig (x / 4294967296 ^ 12)))], none⟩)) x h0 (fun y _ e => by
    simp only [List.cons.injEq, AV.agg.injEq, AV.int.injEq, AV.slc.injEq, AV.iptr.injEq, AV.bool.injEq, AV.str.injEq, ints_injEq, dig_injEq,  Int.ofNat_inj, BitVec.toNat_inj, true_and, and_true] at e
    first | with_reducible rfl | simp only [e] | rfl)
theorem S71_inv {args : List AV} {r : Ret} (h : sumOf (fun p : Nat => match p with | x => ((dig x).length ≤ 1000000)) (fun p : Nat => match p with | x => [.slc (dig (x)).length (ints .u64 (dig (x)))]) (fun p : Nat => match p with | x => ⟨.tup [.slc (dig (x % 4294967296 ^ 12)).length (ints .u64 (dig (x % 4294967296 ^ 12))), .slc (dig (x / 4294967296 ^ 12)).length (ints .u64 (dig (x / 4294967296 ^ 12)))], none⟩) args = some r) : ∃ (x : Nat), (((dig x).length ≤ 1000000)) ∧ args = [.slc (dig (x)).length (ints .u64 (dig (x)))] ∧ r = ⟨.tup [.slc (dig (x % 4294967296 ^ 12)).length (ints .u64 (dig (x % 4294967296 ^ 12))), .slc (dig (x / 4294967296 ^ 12)).length (ints .u64 (dig (x / 4294967296 ^ 12)))], none⟩ := by
  obtain ⟨x, h1, h2, h3⟩ := sumOf_inv h
  exact ⟨x, h1, h2.symm, h3⟩


set_option maxRecDepth 100000 in
theorem snd71 : SndE Tryd.prog NoG 71 S71 := by
  refine snd_nz (snd_by [(53, S53)] [] Tryd.func71 (by kernel_rfl) lite71 nt71 rs71 ⟨snd53, trivial⟩ trivial (fun hT args r h => ?_))
  obtain ⟨x, hd0, rfl, rfl⟩ := S71_inv h
  clear h
  have hM := hM0
  refine ⟨Nat.le_of_ble_eq_true rfl, fun F => ?_⟩
  unfold L71
  refine Lwp.seq (Lwp.regI hT ?_)
  simp only [L71r0, go_sem, List.isEmpty_nil, isC, eq_self, reduceIte, Nat.reduceAdd, Nat.reduceMul, Nat.reduceSub, Nat.reduceLT, Nat.reduceLeDiff, Nat.reduceEqDiff, Nat.reduceDiv, Nat.reduceMod, Nat.reducePow, Nat.reduceBEq, Nat.reduceBNe, Int.reduceLT, Int.reduceLE, Int.reduceGT, Int.reduceGE, Int.reduceBEq, Int.reduceBNe, Int.reduceToNat, Int.reduceAdd, Int.reduceSub, Int.reduceMul, Int.reduceEq, Int.reduceNeg, reduceCtorEq, decide_true, decide_false, Bool.false_eq_true, ty3, ty4, ty5, ty9, ty22, ty24, ty38, ty39, ty40, ty43, ty27, ty28, ty74, ty75, ty59, eq24, eq75]
  refine Lwp.seq (Lwp.seq (Lwp.regI hT ?_))
  by_cases h12 : (dig x).length ≤ 12
  · have a1 : ((dig x).length : Int) ≤ 12 := by omega
    have hx : x < 4294967296 ^ 12 := (dig_len_le x 12).1 h12
    have e1 : x % 4294967296 ^ 12 = x := Nat.mod_eq_of_lt hx
    have e2 : x / 4294967296 ^ 12 = 0 := Nat.div_eq_of_lt hx
    simp only [L71r1, go_sem, List.isEmpty_nil, isC, eq_self, reduceIte, Nat.reduceAdd, Nat.reduceMul, Nat.reduceSub, Nat.reduceLT, Nat.reduceLeDiff, Nat.reduceEqDiff, Nat.reduceDiv, Nat.reduceMod, Nat.reducePow, Nat.reduceBEq, Nat.reduceBNe, Int.reduceLT, Int.reduceLE, Int.reduceGT, Int.reduceGE, Int.reduceBEq, Int.reduceBNe, Int.reduceToNat, Int.reduceAdd, Int.reduceSub, Int.reduceMul, Int.reduceEq, Int.reduceNeg, reduceCtorEq, decide_true, decide_false, Bool.false_eq_true, ty3, ty28, a1]
    refine Lwp.cond rfl (fun _ => ?_) (fun h => by cases h)
    refine Lwp.seq (Lwp.regI hT ?_)
    simp only [L71r2, go_sem, List.isEmpty_nil, isC, eq_self, reduceIte, Nat.reduceAdd, Nat.reduceMul, Nat.reduceSub, Nat.reduceLT, Nat.reduceLeDiff, Nat.reduceEqDiff, Nat.reduceDiv, Nat.reduceMod, Nat.reducePow, Nat.reduceBEq, Nat.reduceBNe, Int.reduceLT, Int.reduceLE, Int.reduceGT, Int.reduceGE, Int.reduceBEq, Int.reduceBNe, Int.reduceToNat, Int.reduceAdd, Int.reduceSub, Int.reduceMul, Int.reduceEq, Int.reduceNeg, reduceCtorEq, decide_true, decide_false, Bool.false_eq_true, ty3, ty4, ty5, ty9, ty22, ty24, ty38, ty39, ty40, ty43, ty27, ty28, ty74, ty75, ty59, eq24, eq75]
    refine Lwp.weaken (weak_slc (t := 3) (by simp only [go_sem, List.isEmpty_nil, isC, eq_self, reduceIte, Nat.reduceAdd, Nat.reduceMul, Nat.reduceSub, Nat.reduceLT, Nat.reduceLeDiff, Nat.reduceEqDiff, Nat.reduceDiv, Nat.reduceMod, Nat.reducePow, Nat.reduceBEq, Nat.reduceBNe, Int.reduceLT, Int.reduceLE, Int.reduceGT, Int.reduceGE, Int.reduceBEq, Int.reduceBNe, Int.reduceToNat, Int.reduceAdd, Int.reduceSub, Int.reduceMul, Int.reduceEq, Int.reduceNeg, reduceCtorEq, decide_true, decide_false, Bool.false_eq_true])) (Lwp.ret (post_val (v := .tup [.slc (dig (x)).length (ints .u64 (dig (x))), .slc 0 []]) ?_ ?_))
    · simp only [go_sem, List.isEmpty_nil, isC, eq_self, reduceIte, Nat.reduceAdd, Nat.reduceMul, Nat.reduceSub, Nat.reduceLT, Nat.reduceLeDiff, Nat.reduceEqDiff, Nat.reduceDiv, Nat.reduceMod, Nat.reducePow, Nat.reduceBEq, Nat.reduceBNe, Int.reduceLT, Int.reduceLE, Int.reduceGT, Int.reduceGE, Int.reduceBEq, Int.reduceBNe, Int.reduceToNat, Int.reduceAdd, Int.reduceSub, Int.reduceMul, Int.reduceEq, Int.reduceNeg, reduceCtorEq, decide_true, decide_false, Bool.false_eq_true]
    · rw [e1, e2, dig_zero]; simp only [go_sem, List.isEmpty_nil, isC, eq_self, reduceIte, Nat.reduceAdd, Nat.reduceMul, Nat.reduceSub, Nat.reduceLT, Nat.reduceLeDiff, Nat.reduceEqDiff, Nat.reduceDiv, Nat.reduceMod, Nat.reducePow, Nat.reduceBEq, Nat.reduceBNe, Int.reduceLT, Int.reduceLE, Int.reduceGT, Int.reduceGE, Int.reduceBEq, Int.reduceBNe, Int.reduceToNat, Int.reduceAdd, Int.reduceSub, Int.reduceMul, Int.reduceEq, Int.reduceNeg, reduceCtorEq, decide_true, decide_false, Bool.false_eq_true]
  · have a1 : ¬ ((dig x).length : Int) ≤ 12 := by omega
    have l1 : ((dig x).take 12).length = 12 := by rw [List.length_take]; omega
    have f54 : S53 [.slc 12 (ints .u64 ((dig x).take 12))] = some ⟨.slc (dig (x % 4294967296 ^ 12)).length (ints .u64 (dig (x % 4294967296 ^ 12))), none⟩ := by
      rw [dig_take (by omega)]
      have := S53_eq (low 12 x) (low_D32 12 x) (by rw [low_len]; omega)
      rw [low_len, val_low] at this; exact this
    have l2 : (dig (x / 4294967296 ^ 12)).length = (dig x).length - 12 := by rw [dig_drop, List.length_drop]
    have l3 : (dig (x / 4294967296 ^ 12)) = (dig x).drop 12 := dig_drop x 12
    have l4 : ((dig x).drop 12).take ((dig x).length - 12) = (dig x).drop 12 := List.take_of_length_le (by rw [List.length_drop]; omega)
    have l5 : ((dig x).drop 12).length = (dig x).length - 12 := by rw [List.length_drop]
    generalize dig (x / 4294967296 ^ 12) = dh at *
    generalize x % 4294967296 ^ 12 = xl at *
    subst l3
    have b1 : (12 : Int) ≤ ((dig x).length : Int) := by omega
    have b2 : 12 ≤ (dig x).length := by omega
    have b3 : ¬ (dig x).length - 12 = 0 := by omega
    have b4 : ((dig x).length - 12) * 8 ≤ 140737488355328 := by omega
    have l6 : ((dig x).take 12).take 12 = (dig x).take 12 := List.take_of_length_le (by omega)
    have b5 : ((dig x).length - 12 == 0) = false := by simp; omega
    have b6 : ((dig x).length : Int) ≤ ((dig x).length : Int) := by omega
    have b7 : (0:Int) ≤ ((dig x).length : Int) := by omega
    simp only [L71r1, go_sem, List.isEmpty_nil, isC, eq_self, reduceIte, Nat.reduceAdd, Nat.reduceMul, Nat.reduceSub, Nat.reduceLT, Nat.reduceLeDiff, Nat.reduceEqDiff, Nat.reduceDiv, Nat.reduceMod, Nat.reducePow, Nat.reduceBEq, Nat.reduceBNe, Int.reduceLT, Int.reduceLE, Int.reduceGT, Int.reduceGE, Int.reduceBEq, Int.reduceBNe, Int.reduceToNat, Int.reduceAdd, Int.reduceSub, Int.reduceMul, Int.reduceEq, Int.reduceNeg, reduceCtorEq, decide_true, decide_false, Bool.false_eq_true, ty3, ty28, a1]
    refine Lwp.cond rfl (fun h => by cases h) (fun _ => Lwp.skip ?_)
    simp only [go_sem, List.isEmpty_nil, isC, eq_self, reduceIte, Nat.reduceAdd, Nat.reduceMul, Nat.reduceSub, Nat.reduceLT, Nat.reduceLeDiff, Nat.reduceEqDiff, Nat.reduceDiv, Nat.reduceMod, Nat.reducePow, Nat.reduceBEq, Nat.reduceBNe, Int.reduceLT, Int.reduceLE, Int.reduceGT, Int.reduceGE, Int.reduceBEq, Int.reduceBNe, Int.reduceToNat, Int.reduceAdd, Int.reduceSub, Int.reduceMul, Int.reduceEq, Int.reduceNeg, reduceCtorEq, decide_true, decide_false, Bool.false_eq_true]
    generalize dig x = dx at *
    refine Lwp.seq (Lwp.regD hT hM ?_)
    simp only [L71r3, go_sem, List.isEmpty_nil, isC, eq_self, reduceIte, Nat.reduceAdd, Nat.reduceMul, Nat.reduceSub, Nat.reduceLT, Nat.reduceLeDiff, Nat.reduceEqDiff, Nat.reduceDiv, Nat.reduceMod, Nat.reducePow, Nat.reduceBEq, Nat.reduceBNe, Int.reduceLT, Int.reduceLE, Int.reduceGT, Int.reduceGE, Int.reduceBEq, Int.reduceBNe, Int.reduceToNat, Int.reduceAdd, Int.reduceSub, Int.reduceMul, Int.reduceEq, Int.reduceNeg, reduceCtorEq, decide_true, decide_false, Bool.false_eq_true, ty3, ty4, ty5, ty9, ty22, ty24, ty38, ty39, ty40, ty43, ty27, ty28, ty74, ty75, ty59, eq24, eq75, appendD, sliceA, boundA, ints_sub, List.drop_zero, l1, l4, l5, l6, b1, b2, b3, b4, b5, b6, b7, f54, Nat.le_refl]
    refine Lwp.ret (post_val (v := .tup [.slc (dig (xl)).length (ints .u64 (dig (xl))), .osl 13 0 (dx.length - 12) 1]) ?_ ?_)
    · simp only [go_sem, List.isEmpty_nil, isC, eq_self, reduceIte, Nat.reduceAdd, Nat.reduceMul, Nat.reduceSub, Nat.reduceLT, Nat.reduceLeDiff, Nat.reduceEqDiff, Nat.reduceDiv, Nat.reduceMod, Nat.reducePow, Nat.reduceBEq, Nat.reduceBNe, Int.reduceLT, Int.reduceLE, Int.reduceGT, Int.reduceGE, Int.reduceBEq, Int.reduceBNe, Int.reduceToNat, Int.reduceAdd, Int.reduceSub, Int.reduceMul, Int.reduceEq, Int.reduceNeg, reduceCtorEq, decide_true, decide_false, Bool.false_eq_true]
    · simp only [go_sem, List.isEmpty_nil, isC, eq_self, reduceIte, Nat.reduceAdd, Nat.reduceMul, Nat.reduceSub, Nat.reduceLT, Nat.reduceLeDiff, Nat.reduceEqDiff, Nat.reduceDiv, Nat.reduceMod, Nat.reducePow, Nat.reduceBEq, Nat.reduceBNe, Int.reduceLT, Int.reduceLE, Int.reduceGT, Int.reduceGE, Int.reduceBEq, Int.reduceBNe, Int.reduceToNat, Int.reduceAdd, Int.reduceSub, Int.reduceMul, Int.reduceEq, Int.reduceNeg, reduceCtorEq, decide_true, decide_false, Bool.false_eq_true, l5, Nat.le_refl]
end Eng


namespace Eng
open Go Go.Proofs
set_option linter.unusedSimpArgs false
set_option linter.unusedVariables false
theorem top_val : top = 4294967296 ^ 12 := by decide
theorem rest_step {B m c x : Nat} (hc : c + m = B) : (x % B + x / B * c) % m = x % m := by
  have h1 : x = x % B + x / B * B := by have := Nat.mod_add_div x B; rw [Nat.mul_comm] at this; exact this.symm
  have h2 : x / B * B = x / B * c + x / B * m := by rw [← Nat.mul_add, hc]
  have h3 : x = (x % B + x / B * c) + x / B * m := by omega
  have : x % m = ((x % B + x / B * c) + x / B * m) % m := congrArg (· % m) h3
  rw [this, Nat.add_mul_mod_self_right]
theorem rest_less {B m c x : Nat} (hc : c + m = B) (hm : 0 < m) (hx : 0 < x / B) : x % B + x / B * c < x := by
  have h1 : x = x % B + x / B * B := by have := Nat.mod_add_div x B; rw [Nat.mul_comm] at this; exact this.symm
  have h2 : x / B * B = x / B * c + x / B * m := by rw [← Nat.mul_add, hc]
  have h3 : 0 < x / B * m := Nat.mul_pos hx hm
  omega

def St45 (x m c y : Nat) : AState := { nt := 36, env := [(1, .slc (dig (m)).length (ints .u64 (dig (m)))), (5, .slc (dig (c)).length (ints .u64 (dig (c)))), (6, .slc (dig (y % 4294967296 ^ 12)).length (ints .u64 (dig (y % 4294967296 ^ 12)))), (7, .slc (dig (y / 4294967296 ^ 12)).length (ints .u64 (dig (y / 4294967296 ^ 12))))], mem := [], next := 100 }
def Su45 (m y : Nat) : AState := { nt := 36, env := [(1, .slc (dig (m)).length (ints .u64 (dig (m)))), (6, .slc (dig (y)).length (ints .u64 (dig (y))))], mem := [], next := 100 }

noncomputable def S50 : List AV → Option Ret := nz (sumOf (fun p : Nat × Nat => match p with | (x, m) => ((dig x).length ≤ 400000) ∧ (0 < m) ∧ (m < 4294967296 ^ 12)) (fun p : Nat × Nat => match p with | (x, m) => [.slc (dig (x)).length (ints .u64 (dig (x))), .slc (dig (m)).length (ints .u64 (dig (m)))]) (fun p : Nat × Nat => match p with | (x, m) => ⟨.slc (dig (x % m)).length (ints .u64 (dig (x % m))), none⟩))
theorem S50_eq (x : Nat) (m : Nat) (h0 : (dig x).length ≤ 400000) (h1 : 0 < m) (h2 : m < 4294967296 ^ 12) : S50 [.slc (dig (x)).length (ints .u64 (dig (x))), .slc (dig (m)).length (ints .u64 (dig (m)))] = some ⟨.slc (dig (x % m)).length (ints .u64 (dig (x % m))), none⟩ :=
  sumOf_eq (dom := (fun p : Nat × Nat => match p with | (x, m) => ((dig x).length ≤ 400000) ∧ (0 < m) ∧ (m < 4294967296 ^ 12))) (enc := (fun p : Nat × Nat => match p with | (x, m) => [.slc (dig (x)).length (ints .u64 (dig (x))), .slc (dig (m)).length (ints .u64 (dig (m)))])) (out := (fun p : Nat × Nat => match p with | (x, m) => ⟨.slc (dig (x % m)).length (ints .u64 (dig (x % m))), none⟩)) (x, m) ⟨h0, h1, h2⟩ (fun y _ e => by
    obtain ⟨y0, y1⟩ := y
    simp only [List.cons.injEq, AV.agg.injEq, AV.int.injEq, AV.slc.injEq, AV.iptr.injEq, AV.bool.injEq, AV.str.injEq, ints_injEq, dig_injEq,  Int.ofNat_inj, BitVec.toNat_inj, true_and, and_true] at e
    first | with_reducible rfl | simp only [e] | rfl)
theorem S50_inv {args : List AV} {r : Ret} (h : sumOf (fun p : Nat × Nat => match p with | (x, m) => ((dig x).length ≤ 400000) ∧ (0 < m) ∧ (m < 4294967296 ^ 12)) (fun p : Nat × Nat => match p with | (x, m) => [.slc (dig (x)).length (ints .u64 (dig (x))), .slc (dig (m)).length (ints .u64 (dig (m)))]) (fun p : Nat × Nat => match p with | (x, m) => ⟨.slc (dig (x % m)).length (ints .u64 (dig (x % m))), none⟩) args = some r) : ∃ (x : Nat) (m : Nat), (((dig x).length ≤ 400000) ∧ (0 < m) ∧ (m < 4294967296 ^ 12)) ∧ args = [.slc (dig (x)).length (ints .u64 (dig (x))), .slc (dig (m)).length (ints .u64 (dig (m)))] ∧ r = ⟨.slc (dig (x % m)).length (ints .u64 (dig (x % m))), none⟩ := by
  obtain ⟨x, h1, h2, h3⟩ := sumOf_inv h
  obtain ⟨x, m⟩ := x
  exact ⟨x, m, h1, h2.symm, h3⟩


set_option maxRecDepth 100000 in
theorem snd50 : SndE Tryd.prog NoG 50 S50 := by
  refine snd_nz (snd_by [(37, S37), (27, S27), (70, S70), (55, S55), (59, S59), (71, S71)] [] Tryd.func50 (by kernel_rfl) lite50 nt50 rs50 ⟨snd37, snd27, snd70, snd55, snd59, snd71, trivial⟩ trivial (fun hT args r h => ?_))
  obtain ⟨x, m, ⟨hd0, hd1, hd2⟩, rfl, rfl⟩ := S50_inv h
  clear h
  have hM := hM0
  refine ⟨Nat.le_of_ble_eq_true rfl, fun F => ?_⟩
  unfold L50
  have lm : (dig m).length ≤ 12 := (dig_len_le m 12).2 hd2
  have tv := top_val
  have f31 := S70_eq
  have t13 := top_len
  have f32 : S55 [.slc 13 (ints .u64 (dig top)), .slc (dig (m)).length (ints .u64 (dig (m)))] = some ⟨.slc (dig (top - m)).length (ints .u64 (dig (top - m))), none⟩ := by
    have := S55_eq top m (by omega) (by omega) (by omega); rw [t13] at this; exact this
  have f61 := S71_eq x (by omega)
  have hc : (top - m) + m = 4294967296 ^ 12 := by omega
  have lc : (dig (top - m)).length ≤ 12 := (dig_len_le _ 12).2 (by omega)
  generalize top - m = c at *
  refine Lwp.seq (Lwp.regI hT ?_)
  simp only [L50r0, go_sem, List.isEmpty_nil, isC, eq_self, reduceIte, Nat.reduceAdd, Nat.reduceMul, Nat.reduceSub, Nat.reduceLT, Nat.reduceLeDiff, Nat.reduceEqDiff, Nat.reduceDiv, Nat.reduceMod, Nat.reducePow, Nat.reduceBEq, Nat.reduceBNe, Int.reduceLT, Int.reduceLE, Int.reduceGT, Int.reduceGE, Int.reduceBEq, Int.reduceBNe, Int.reduceToNat, Int.reduceAdd, Int.reduceSub, Int.reduceMul, Int.reduceEq, Int.reduceNeg, reduceCtorEq, decide_true, decide_false, Bool.false_eq_true, ty3, ty4, ty5, ty9, ty22, ty24, ty38, ty39, ty40, ty43, ty27, ty28, ty74, ty75, ty59, eq24, eq75]
  refine Lwp.seq (Lwp.regI hT ?_)
  simp only [L50r1, go_sem, List.isEmpty_nil, isC, eq_self, reduceIte, Nat.reduceAdd, Nat.reduceMul, Nat.reduceSub, Nat.reduceLT, Nat.reduceLeDiff, Nat.reduceEqDiff, Nat.reduceDiv, Nat.reduceMod, Nat.reducePow, Nat.reduceBEq, Nat.reduceBNe, Int.reduceLT, Int.reduceLE, Int.reduceGT, Int.reduceGE, Int.reduceBEq, Int.reduceBNe, Int.reduceToNat, Int.reduceAdd, Int.reduceSub, Int.reduceMul, Int.reduceEq, Int.reduceNeg, reduceCtorEq, decide_true, decide_false, Bool.false_eq_true, ty3, ty4, ty5, ty9, ty22, ty24, ty38, ty39, ty40, ty43, ty27, ty28, ty74, ty75, ty59, eq24, eq75, f31, f32, t13, Nat.le_refl]
  refine Lwp.seq (Lwp.regI hT ?_)
  simp only [L50r2, go_sem, List.isEmpty_nil, isC, eq_self, reduceIte, Nat.reduceAdd, Nat.reduceMul, Nat.reduceSub, Nat.reduceLT, Nat.reduceLeDiff, Nat.reduceEqDiff, Nat.reduceDiv, Nat.reduceMod, Nat.reducePow, Nat.reduceBEq, Nat.reduceBNe, Int.reduceLT, Int.reduceLE, Int.reduceGT, Int.reduceGE, Int.reduceBEq, Int.reduceBNe, Int.reduceToNat, Int.reduceAdd, Int.reduceSub, Int.reduceMul, Int.reduceEq, Int.reduceNeg, reduceCtorEq, decide_true, decide_false, Bool.false_eq_true, ty3, ty4, ty5, ty9, ty22, ty24, ty38, ty39, ty40, ty43, ty27, ty28, ty74, ty75, ty59, eq24, eq75, f61]
  refine Lwp.seq (Lwp.block (Lwp.whl (St45 x m c) (fun y => y % m = x % m ∧ (dig y).length ≤ 400000) (fun y => y) x ⟨rfl, hd0⟩ ?_ ?_))
  · refine weak_of rfl ?_ ?_ ?_
    · (simp only [go_sem, List.isEmpty_nil, isC, eq_self, reduceIte, Nat.reduceAdd, Nat.reduceMul, Nat.reduceSub, Nat.reduceLT, Nat.reduceLeDiff, Nat.reduceEqDiff, Nat.reduceDiv, Nat.reduceMod, Nat.reducePow, Nat.reduceBEq, Nat.reduceBNe, Int.reduceLT, Int.reduceLE, Int.reduceGT, Int.reduceGE, Int.reduceBEq, Int.reduceBNe, Int.reduceToNat, Int.reduceAdd, Int.reduceSub, Int.reduceMul, Int.reduceEq, Int.reduceNeg, reduceCtorEq, decide_true, decide_false, Bool.false_eq_true, St45]; try rfl)
    · (simp only [go_sem, List.isEmpty_nil, isC, eq_self, reduceIte, Nat.reduceAdd, Nat.reduceMul, Nat.reduceSub, Nat.reduceLT, Nat.reduceLeDiff, Nat.reduceEqDiff, Nat.reduceDiv, Nat.reduceMod, Nat.reducePow, Nat.reduceBEq, Nat.reduceBNe, Int.reduceLT, Int.reduceLE, Int.reduceGT, Int.reduceGE, Int.reduceBEq, Int.reduceBNe, Int.reduceToNat, Int.reduceAdd, Int.reduceSub, Int.reduceMul, Int.reduceEq, Int.reduceNeg, reduceCtorEq, decide_true, decide_false, Bool.false_eq_true, St45]; try rfl)
    · (simp only [go_sem, List.isEmpty_nil, isC, eq_self, reduceIte, Nat.reduceAdd, Nat.reduceMul, Nat.reduceSub, Nat.reduceLT, Nat.reduceLeDiff, Nat.reduceEqDiff, Nat.reduceDiv, Nat.reduceMod, Nat.reducePow, Nat.reduceBEq, Nat.reduceBNe, Int.reduceLT, Int.reduceLE, Int.reduceGT, Int.reduceGE, Int.reduceBEq, Int.reduceBNe, Int.reduceToNat, Int.reduceAdd, Int.reduceSub, Int.reduceMul, Int.reduceEq, Int.reduceNeg, reduceCtorEq, decide_true, decide_false, Bool.false_eq_true, St45]; try rfl)
  · rintro y ⟨hy, hl⟩
    unfold St45
    refine Lwp.seq (Lwp.seq (Lwp.region hT ?_))
    by_cases h0 : y / 4294967296 ^ 12 = 0
    · have e : (dig 0).length = 0 := by rw [dig_zero]; rfl
      simp only [h0, L50r3, go_sem, List.isEmpty_nil, isC, eq_self, reduceIte, Nat.reduceAdd, Nat.reduceMul, Nat.reduceSub, Nat.reduceLT, Nat.reduceLeDiff, Nat.reduceEqDiff, Nat.reduceDiv, Nat.reduceMod, Nat.reducePow, Nat.reduceBEq, Nat.reduceBNe, Int.reduceLT, Int.reduceLE, Int.reduceGT, Int.reduceGE, Int.reduceBEq, Int.reduceBNe, Int.reduceToNat, Int.reduceAdd, Int.reduceSub, Int.reduceMul, Int.reduceEq, Int.reduceNeg, reduceCtorEq, decide_true, decide_false, Bool.false_eq_true, ty3, ty22, ty28, e, Int.natCast_zero]
      refine Lwp.cond rfl (fun h => by cases h) (fun _ => Lwp.exit ?_)
      simp only [go_sem, List.isEmpty_nil, isC, eq_self, reduceIte, Nat.reduceAdd, Nat.reduceMul, Nat.reduceSub, Nat.reduceLT, Nat.reduceLeDiff, Nat.reduceEqDiff, Nat.reduceDiv, Nat.reduceMod, Nat.reducePow, Nat.reduceBEq, Nat.reduceBNe, Int.reduceLT, Int.reduceLE, Int.reduceGT, Int.reduceGE, Int.reduceBEq, Int.reduceBNe, Int.reduceToNat, Int.reduceAdd, Int.reduceSub, Int.reduceMul, Int.reduceEq, Int.reduceNeg, reduceCtorEq, decide_true, decide_false, Bool.false_eq_true]
      have hyB : y < 4294967296 ^ 12 := by
        rcases Nat.div_eq_zero_iff.1 h0 with h | h
        · exact absurd h (by decide)
        · exact h
      have e1 : y % 4294967296 ^ 12 = y := Nat.mod_eq_of_lt hyB
      rw [e1]
      refine Lwp.seq (Lwp.block (Lwp.whl (Su45 m) (fun z => z % m = x % m ∧ z < 4294967296 ^ 12) (fun z => z) y ⟨hy, hyB⟩ ?_ ?_))
      · refine weak_of rfl ?_ ?_ ?_
        · (simp only [go_sem, List.isEmpty_nil, isC, eq_self, reduceIte, Nat.reduceAdd, Nat.reduceMul, Nat.reduceSub, Nat.reduceLT, Nat.reduceLeDiff, Nat.reduceEqDiff, Nat.reduceDiv, Nat.reduceMod, Nat.reducePow, Nat.reduceBEq, Nat.reduceBNe, Int.reduceLT, Int.reduceLE, Int.reduceGT, Int.reduceGE, Int.reduceBEq, Int.reduceBNe, Int.reduceToNat, Int.reduceAdd, Int.reduceSub, Int.reduceMul, Int.reduceEq, Int.reduceNeg, reduceCtorEq, decide_true, decide_false, Bool.false_eq_true, Su45]; try rfl)
        · (simp only [go_sem, List.isEmpty_nil, isC, eq_self, reduceIte, Nat.reduceAdd, Nat.reduceMul, Nat.reduceSub, Nat.reduceLT, Nat.reduceLeDiff, Nat.reduceEqDiff, Nat.reduceDiv, Nat.reduceMod, Nat.reducePow, Nat.reduceBEq, Nat.reduceBNe, Int.reduceLT, Int.reduceLE, Int.reduceGT, Int.reduceGE, Int.reduceBEq, Int.reduceBNe, Int.reduceToNat, Int.reduceAdd, Int.reduceSub, Int.reduceMul, Int.reduceEq, Int.reduceNeg, reduceCtorEq, decide_true, decide_false, Bool.false_eq_true, Su45]; try rfl)
        · (simp only [go_sem, List.isEmpty_nil, isC, eq_self, reduceIte, Nat.reduceAdd, Nat.reduceMul, Nat.reduceSub, Nat.reduceLT, Nat.reduceLeDiff, Nat.reduceEqDiff, Nat.reduceDiv, Nat.reduceMod, Nat.reducePow, Nat.reduceBEq, Nat.reduceBNe, Int.reduceLT, Int.reduceLE, Int.reduceGT, Int.reduceGE, Int.reduceBEq, Int.reduceBNe, Int.reduceToNat, Int.reduceAdd, Int.reduceSub, Int.reduceMul, Int.reduceEq, Int.reduceNeg, reduceCtorEq, decide_true, decide_false, Bool.false_eq_true, Su45]; try rfl)
      · rintro z ⟨hz, hzB⟩
        unfold Su45
        have lz : (dig z).length ≤ 12 := (dig_len_le z 12).2 hzB
        have f29 := S37_eq z m (by omega) (by omega)
        refine Lwp.seq (Lwp.seq (Lwp.regI hT ?_))
        by_cases hzm : z < m
        · rw [if_pos hzm] at f29
          simp only [L50r5, go_sem, List.isEmpty_nil, isC, eq_self, reduceIte, Nat.reduceAdd, Nat.reduceMul, Nat.reduceSub, Nat.reduceLT, Nat.reduceLeDiff, Nat.reduceEqDiff, Nat.reduceDiv, Nat.reduceMod, Nat.reducePow, Nat.reduceBEq, Nat.reduceBNe, Int.reduceLT, Int.reduceLE, Int.reduceGT, Int.reduceGE, Int.reduceBEq, Int.reduceBNe, Int.reduceToNat, Int.reduceAdd, Int.reduceSub, Int.reduceMul, Int.reduceEq, Int.reduceNeg, reduceCtorEq, decide_true, decide_false, Bool.false_eq_true, ty3, ty22, ty28, f29]
          refine Lwp.cond rfl (fun h => by cases h) (fun _ => Lwp.exit ?_)
          simp only [go_sem, List.isEmpty_nil, isC, eq_self, reduceIte, Nat.reduceAdd, Nat.reduceMul, Nat.reduceSub, Nat.reduceLT, Nat.reduceLeDiff, Nat.reduceEqDiff, Nat.reduceDiv, Nat.reduceMod, Nat.reducePow, Nat.reduceBEq, Nat.reduceBNe, Int.reduceLT, Int.reduceLE, Int.reduceGT, Int.reduceGE, Int.reduceBEq, Int.reduceBNe, Int.reduceToNat, Int.reduceAdd, Int.reduceSub, Int.reduceMul, Int.reduceEq, Int.reduceNeg, reduceCtorEq, decide_true, decide_false, Bool.false_eq_true]
          rw [Nat.mod_eq_of_lt hzm] at hz
          refine Lwp.seq (Lwp.regI hT ?_)
          simp only [L50r7, go_sem, List.isEmpty_nil, isC, eq_self, reduceIte, Nat.reduceAdd, Nat.reduceMul, Nat.reduceSub, Nat.reduceLT, Nat.reduceLeDiff, Nat.reduceEqDiff, Nat.reduceDiv, Nat.reduceMod, Nat.reducePow, Nat.reduceBEq, Nat.reduceBNe, Int.reduceLT, Int.reduceLE, Int.reduceGT, Int.reduceGE, Int.reduceBEq, Int.reduceBNe, Int.reduceToNat, Int.reduceAdd, Int.reduceSub, Int.reduceMul, Int.reduceEq, Int.reduceNeg, reduceCtorEq, decide_true, decide_false, Bool.false_eq_true, ty3, ty4, ty5, ty9, ty22, ty24, ty38, ty39, ty40, ty43, ty27, ty28, ty74, ty75, ty59, eq24, eq75]
          refine Lwp.ret (post_val (v := .slc (dig (z)).length (ints .u64 (dig (z)))) ?_ ?_)
          · simp only [go_sem, List.isEmpty_nil, isC, eq_self, reduceIte, Nat.reduceAdd, Nat.reduceMul, Nat.reduceSub, Nat.reduceLT, Nat.reduceLeDiff, Nat.reduceEqDiff, Nat.reduceDiv, Nat.reduceMod, Nat.reducePow, Nat.reduceBEq, Nat.reduceBNe, Int.reduceLT, Int.reduceLE, Int.reduceGT, Int.reduceGE, Int.reduceBEq, Int.reduceBNe, Int.reduceToNat, Int.reduceAdd, Int.reduceSub, Int.reduceMul, Int.reduceEq, Int.reduceNeg, reduceCtorEq, decide_true, decide_false, Bool.false_eq_true]
          · rw [hz]; simp only [go_sem, List.isEmpty_nil, isC, eq_self, reduceIte, Nat.reduceAdd, Nat.reduceMul, Nat.reduceSub, Nat.reduceLT, Nat.reduceLeDiff, Nat.reduceEqDiff, Nat.reduceDiv, Nat.reduceMod, Nat.reducePow, Nat.reduceBEq, Nat.reduceBNe, Int.reduceLT, Int.reduceLE, Int.reduceGT, Int.reduceGE, Int.reduceBEq, Int.reduceBNe, Int.reduceToNat, Int.reduceAdd, Int.reduceSub, Int.reduceMul, Int.reduceEq, Int.reduceNeg, reduceCtorEq, decide_true, decide_false, Bool.false_eq_true]
        · have f32' := S55_eq z m (by omega) (by omega) (by omega)
          have fc : S37 [.slc (dig (z)).length (ints .u64 (dig (z))), .slc (dig (m)).length (ints .u64 (dig (m)))] = some ⟨.int .i64 (if m < z then 1 else 0), none⟩ := by rw [f29, if_neg hzm]
          have g1 : (if m < z then (1 : Int) else 0) ≥ 0 := by split <;> decide
          generalize (if m < z then (1 : Int) else 0) = g at *
          simp only [L50r5, go_sem, List.isEmpty_nil, isC, eq_self, reduceIte, Nat.reduceAdd, Nat.reduceMul, Nat.reduceSub, Nat.reduceLT, Nat.reduceLeDiff, Nat.reduceEqDiff, Nat.reduceDiv, Nat.reduceMod, Nat.reducePow, Nat.reduceBEq, Nat.reduceBNe, Int.reduceLT, Int.reduceLE, Int.reduceGT, Int.reduceGE, Int.reduceBEq, Int.reduceBNe, Int.reduceToNat, Int.reduceAdd, Int.reduceSub, Int.reduceMul, Int.reduceEq, Int.reduceNeg, reduceCtorEq, decide_true, decide_false, Bool.false_eq_true, ty3, ty22, ty28, fc, g1]
          refine Lwp.cond rfl (fun _ => Lwp.skip ?_) (fun h => by cases h)
          simp only [go_sem, List.isEmpty_nil, isC, eq_self, reduceIte, Nat.reduceAdd, Nat.reduceMul, Nat.reduceSub, Nat.reduceLT, Nat.reduceLeDiff, Nat.reduceEqDiff, Nat.reduceDiv, Nat.reduceMod, Nat.reducePow, Nat.reduceBEq, Nat.reduceBNe, Int.reduceLT, Int.reduceLE, Int.reduceGT, Int.reduceGE, Int.reduceBEq, Int.reduceBNe, Int.reduceToNat, Int.reduceAdd, Int.reduceSub, Int.reduceMul, Int.reduceEq, Int.reduceNeg, reduceCtorEq, decide_true, decide_false, Bool.false_eq_true]
          refine Lwp.block ?_
          refine Lwp.regI hT ?_
          simp only [L50r6, go_sem, List.isEmpty_nil, isC, eq_self, reduceIte, Nat.reduceAdd, Nat.reduceMul, Nat.reduceSub, Nat.reduceLT, Nat.reduceLeDiff, Nat.reduceEqDiff, Nat.reduceDiv, Nat.reduceMod, Nat.reducePow, Nat.reduceBEq, Nat.reduceBNe, Int.reduceLT, Int.reduceLE, Int.reduceGT, Int.reduceGE, Int.reduceBEq, Int.reduceBNe, Int.reduceToNat, Int.reduceAdd, Int.reduceSub, Int.reduceMul, Int.reduceEq, Int.reduceNeg, reduceCtorEq, decide_true, decide_false, Bool.false_eq_true, ty3, ty4, ty5, ty9, ty22, ty24, ty38, ty39, ty40, ty43, ty27, ty28, ty74, ty75, ty59, eq24, eq75, f32']
          refine ⟨z - m, ⟨?_, by omega⟩, by omega, ?_⟩
          · rw [← hz]; exact (Nat.mod_eq_sub_mod (by omega)).symm
          · refine weak_of rfl ?_ ?_ ?_
            · (simp only [go_sem, List.isEmpty_nil, isC, eq_self, reduceIte, Nat.reduceAdd, Nat.reduceMul, Nat.reduceSub, Nat.reduceLT, Nat.reduceLeDiff, Nat.reduceEqDiff, Nat.reduceDiv, Nat.reduceMod, Nat.reducePow, Nat.reduceBEq, Nat.reduceBNe, Int.reduceLT, Int.reduceLE, Int.reduceGT, Int.reduceGE, Int.reduceBEq, Int.reduceBNe, Int.reduceToNat, Int.reduceAdd, Int.reduceSub, Int.reduceMul, Int.reduceEq, Int.reduceNeg, reduceCtorEq, decide_true, decide_false, Bool.false_eq_true, Su45]; try rfl)
            · (simp only [go_sem, List.isEmpty_nil, isC, eq_self, reduceIte, Nat.reduceAdd, Nat.reduceMul, Nat.reduceSub, Nat.reduceLT, Nat.reduceLeDiff, Nat.reduceEqDiff, Nat.reduceDiv, Nat.reduceMod, Nat.reducePow, Nat.reduceBEq, Nat.reduceBNe, Int.reduceLT, Int.reduceLE, Int.reduceGT, Int.reduceGE, Int.reduceBEq, Int.reduceBNe, Int.reduceToNat, Int.reduceAdd, Int.reduceSub, Int.reduceMul, Int.reduceEq, Int.reduceNeg, reduceCtorEq, decide_true, decide_false, Bool.false_eq_true, Su45]; try rfl)
            · (simp only [go_sem, List.isEmpty_nil, isC, eq_self, reduceIte, Nat.reduceAdd, Nat.reduceMul, Nat.reduceSub, Nat.reduceLT, Nat.reduceLeDiff, Nat.reduceEqDiff, Nat.reduceDiv, Nat.reduceMod, Nat.reducePow, Nat.reduceBEq, Nat.reduceBNe, Int.reduceLT, Int.reduceLE, Int.reduceGT, Int.reduceGE, Int.reduceBEq, Int.reduceBNe, Int.reduceToNat, Int.reduceAdd, Int.reduceSub, Int.reduceMul, Int.reduceEq, Int.reduceNeg, reduceCtorEq, decide_true, decide_false, Bool.false_eq_true, Su45]; try rfl)
    · have hp : 0 < y / 4294967296 ^ 12 := Nat.pos_of_ne_zero h0
      have e1 : ((dig (y / 4294967296 ^ 12)).length : Int) > 0 := by
        have : ¬ (dig (y / 4294967296 ^ 12)).length ≤ 0 := by rw [dig_len_le]; simp; omega
        omega
      have hle := rest_less (x := y) hc hd1 hp
      have hmod := rest_step (x := y) hc
      have l1 : (dig (y / 4294967296 ^ 12)).length ≤ 400000 := Nat.le_trans (dig_mono (Nat.div_le_self _ _)) hl
      have f41 := S59_eq (y / 4294967296 ^ 12) c (by omega) (by omega)
      have hmul : y / 4294967296 ^ 12 * c ≤ y := by omega
      have l2 : (dig (y % 4294967296 ^ 12)).length ≤ 400000 := Nat.le_trans (dig_mono (Nat.mod_le _ _)) hl
      have l3 : (dig (y / 4294967296 ^ 12 * c)).length ≤ 400000 := Nat.le_trans (dig_mono hmul) hl
      have f30 := S27_eq (y % 4294967296 ^ 12) (y / 4294967296 ^ 12 * c) (by omega) (by omega)
      have l4 : (dig (y % 4294967296 ^ 12 + y / 4294967296 ^ 12 * c)).length ≤ 400000 := Nat.le_trans (dig_mono (Nat.le_of_lt hle)) hl
      have f61' := S71_eq (y % 4294967296 ^ 12 + y / 4294967296 ^ 12 * c) (by omega)
      simp only [L50r3, go_sem, List.isEmpty_nil, isC, eq_self, reduceIte, Nat.reduceAdd, Nat.reduceMul, Nat.reduceSub, Nat.reduceLT, Nat.reduceLeDiff, Nat.reduceEqDiff, Nat.reduceDiv, Nat.reduceMod, Nat.reducePow, Nat.reduceBEq, Nat.reduceBNe, Int.reduceLT, Int.reduceLE, Int.reduceGT, Int.reduceGE, Int.reduceBEq, Int.reduceBNe, Int.reduceToNat, Int.reduceAdd, Int.reduceSub, Int.reduceMul, Int.reduceEq, Int.reduceNeg, reduceCtorEq, decide_true, decide_false, Bool.false_eq_true, ty3, ty22, ty28, e1]
      refine Lwp.cond rfl (fun _ => Lwp.skip ?_) (fun h => by cases h)
      simp only [go_sem, List.isEmpty_nil, isC, eq_self, reduceIte, Nat.reduceAdd, Nat.reduceMul, Nat.reduceSub, Nat.reduceLT, Nat.reduceLeDiff, Nat.reduceEqDiff, Nat.reduceDiv, Nat.reduceMod, Nat.reducePow, Nat.reduceBEq, Nat.reduceBNe, Int.reduceLT, Int.reduceLE, Int.reduceGT, Int.reduceGE, Int.reduceBEq, Int.reduceBNe, Int.reduceToNat, Int.reduceAdd, Int.reduceSub, Int.reduceMul, Int.reduceEq, Int.reduceNeg, reduceCtorEq, decide_true, decide_false, Bool.false_eq_true]
      refine Lwp.block ?_
      refine Lwp.regI hT ?_
      simp only [L50r4, go_sem, List.isEmpty_nil, isC, eq_self, reduceIte, Nat.reduceAdd, Nat.reduceMul, Nat.reduceSub, Nat.reduceLT, Nat.reduceLeDiff, Nat.reduceEqDiff, Nat.reduceDiv, Nat.reduceMod, Nat.reducePow, Nat.reduceBEq, Nat.reduceBNe, Int.reduceLT, Int.reduceLE, Int.reduceGT, Int.reduceGE, Int.reduceBEq, Int.reduceBNe, Int.reduceToNat, Int.reduceAdd, Int.reduceSub, Int.reduceMul, Int.reduceEq, Int.reduceNeg, reduceCtorEq, decide_true, decide_false, Bool.false_eq_true, ty3, ty4, ty5, ty9, ty22, ty24, ty38, ty39, ty40, ty43, ty27, ty28, ty74, ty75, ty59, eq24, eq75, f41, f30, f61']
      refine ⟨y % 4294967296 ^ 12 + y / 4294967296 ^ 12 * c, ⟨by rw [hmod]; exact hy, l4⟩, hle, ?_⟩
      refine weak_of rfl ?_ ?_ ?_
      · (simp only [go_sem, List.isEmpty_nil, isC, eq_self, reduceIte, Nat.reduceAdd, Nat.reduceMul, Nat.reduceSub, Nat.reduceLT, Nat.reduceLeDiff, Nat.reduceEqDiff, Nat.reduceDiv, Nat.reduceMod, Nat.reducePow, Nat.reduceBEq, Nat.reduceBNe, Int.reduceLT, Int.reduceLE, Int.reduceGT, Int.reduceGE, Int.reduceBEq, Int.reduceBNe, Int.reduceToNat, Int.reduceAdd, Int.reduceSub, Int.reduceMul, Int.reduceEq, Int.reduceNeg, reduceCtorEq, decide_true, decide_false, Bool.false_eq_true, St45]; try rfl)
      · (simp only [go_sem, List.isEmpty_nil, isC, eq_self, reduceIte, Nat.reduceAdd, Nat.reduceMul, Nat.reduceSub, Nat.reduceLT, Nat.reduceLeDiff, Nat.reduceEqDiff, Nat.reduceDiv, Nat.reduceMod, Nat.reducePow, Nat.reduceBEq, Nat.reduceBNe, Int.reduceLT, Int.reduceLE, Int.reduceGT, Int.reduceGE, Int.reduceBEq, Int.reduceBNe, Int.reduceToNat, Int.reduceAdd, Int.reduceSub, Int.reduceMul, Int.reduceEq, Int.reduceNeg, reduceCtorEq, decide_true, decide_false, Bool.false_eq_true, St45]; try rfl)
      · (simp only [go_sem, List.isEmpty_nil, isC, eq_self, reduceIte, Nat.reduceAdd, Nat.reduceMul, Nat.reduceSub, Nat.reduceLT, Nat.reduceLeDiff, Nat.reduceEqDiff, Nat.reduceDiv, Nat.reduceMod, Nat.reducePow, Nat.reduceBEq, Nat.reduceBNe, Int.reduceLT, Int.reduceLE, Int.reduceGT, Int.reduceGE, Int.reduceBEq, Int.reduceBNe, Int.reduceToNat, Int.reduceAdd, Int.reduceSub, Int.reduceMul, Int.reduceEq, Int.reduceNeg, reduceCtorEq, decide_true, decide_false, Bool.false_eq_true, St45]; try rfl)
end Eng


namespace Eng
open Go Go.Proofs
set_option linter.unusedSimpArgs false
def maskZ (n : Int) : Int := IntKind.u64.wrap (0 - andZ .u64 n 1)
def pickZ (n : Int) (a b : List Int) (j : Nat) : Int := orZ .u64 (andNotZ .u64 (a.getD j 0) (maskZ n)) (andZ .u64 (b.getD j 0) (maskZ n))
noncomputable def S64 : List AV → Option Ret := sumOf (fun p : Int × List Int × List Int => U6 p.2.1 ∧ U6 p.2.2) (fun p => [.int .u64 p.1, .agg (ints .u64 p.2.1), .agg (ints .u64 p.2.2)]) (fun p => ⟨.agg (ints .u64 (tab 6 (pickZ p.1 p.2.1 p.2.2))), none⟩)
theorem S64_eq (n : Int) (a b : List Int) (h : U6 a) (hb : U6 b) : S64 [.int .u64 n, .agg (ints .u64 a), .agg (ints .u64 b)] = some ⟨.agg (ints .u64 (tab 6 (pickZ n a b))), none⟩ :=
  sumOf_eq (enc := fun p : Int × List Int × List Int => [.int .u64 p.1, .agg (ints .u64 p.2.1), .agg (ints .u64 p.2.2)]) (out := fun p : Int × List Int × List Int => ⟨.agg (ints .u64 (tab 6 (pickZ p.1 p.2.1 p.2.2))), none⟩) (n, a, b) ⟨h, hb⟩ (fun y _ e => by
    simp only [List.cons.injEq, AV.agg.injEq, AV.int.injEq, true_and, and_true] at e
    rw [e.1, ints_inj e.2.1, ints_inj e.2.2])

set_option maxRecDepth 100000 in
theorem snd64 : SndE Tryd.prog NoG 64 S64 := by
  refine snd_by [] [] Tryd.func64 (by kernel_rfl) lite64 nt64 rs64 trivial trivial (fun hT args r h => ?_)
  obtain ⟨⟨n, a, b⟩, ⟨⟨hl, hb⟩, hl', hb'⟩, rfl, rfl⟩ := sumOf_inv h
  clear h
  simp only at hl hb hl' hb'
  have hM := hM0
  refine ⟨Nat.le_of_ble_eq_true rfl, fun F => ?_⟩
  unfold L64
  refine Lwp.seq (Lwp.regI hT ?_)
  simp only [L64r0, go_sem, List.isEmpty_nil, isC, eq_self, reduceIte, Nat.reduceAdd, Nat.reduceMul, Nat.reduceSub, Nat.reduceLT, Nat.reduceLeDiff, Nat.reduceEqDiff, Nat.reduceDiv, Nat.reduceMod, Nat.reducePow, Nat.reduceBEq, Nat.reduceBNe, Int.reduceLT, Int.reduceLE, Int.reduceGT, Int.reduceGE, Int.reduceBEq, Int.reduceBNe, Int.reduceToNat, Int.reduceAdd, Int.reduceSub, Int.reduceMul, Int.reduceEq, Int.reduceNeg, reduceCtorEq, decide_true, decide_false, Bool.false_eq_true, ty3, ty22, ty24]
  refine Lwp.seq (Lwp.regI hT ?_)
  simp only [L64r1, go_sem, List.isEmpty_nil, isC, eq_self, reduceIte, Nat.reduceAdd, Nat.reduceMul, Nat.reduceSub, Nat.reduceLT, Nat.reduceLeDiff, Nat.reduceEqDiff, Nat.reduceDiv, Nat.reduceMod, Nat.reducePow, Nat.reduceBEq, Nat.reduceBNe, Int.reduceLT, Int.reduceLE, Int.reduceGT, Int.reduceGE, Int.reduceBEq, Int.reduceBNe, Int.reduceToNat, Int.reduceAdd, Int.reduceSub, Int.reduceMul, Int.reduceEq, Int.reduceNeg, reduceCtorEq, decide_true, decide_false, Bool.false_eq_true, ty3, ty22, ty24]
  refine Lwp.seq (Lwp.regI hT ?_)
  simp only [L64r2, go_sem, List.isEmpty_nil, isC, eq_self, reduceIte, Nat.reduceAdd, Nat.reduceMul, Nat.reduceSub, Nat.reduceLT, Nat.reduceLeDiff, Nat.reduceEqDiff, Nat.reduceDiv, Nat.reduceMod, Nat.reducePow, Nat.reduceBEq, Nat.reduceBNe, Int.reduceLT, Int.reduceLE, Int.reduceGT, Int.reduceGE, Int.reduceBEq, Int.reduceBNe, Int.reduceToNat, Int.reduceAdd, Int.reduceSub, Int.reduceMul, Int.reduceEq, Int.reduceNeg, reduceCtorEq, decide_true, decide_false, Bool.false_eq_true, ty3, ty22, ty24]
  refine Lwp.seq ?_
  refine Lwp.seq (Lwp.regI hT ?_)
  simp only [L64r3, go_sem, List.isEmpty_nil, isC, eq_self, reduceIte, Nat.reduceAdd, Nat.reduceMul, Nat.reduceSub, Nat.reduceLT, Nat.reduceLeDiff, Nat.reduceEqDiff, Nat.reduceDiv, Nat.reduceMod, Nat.reducePow, Nat.reduceBEq, Nat.reduceBNe, Int.reduceLT, Int.reduceLE, Int.reduceGT, Int.reduceGE, Int.reduceBEq, Int.reduceBNe, Int.reduceToNat, Int.reduceAdd, Int.reduceSub, Int.reduceMul, Int.reduceEq, Int.reduceNeg, reduceCtorEq, decide_true, decide_false, Bool.false_eq_true, ty3, ty22, ty24]
  refine Lwp.block (Lwp.range (fun i => { nt := 31, env := [(4, .own 0 0), (5, .own 1 0), (6, .own 2 0), (7, .int .u64 (maskZ n)), (8, .own 7 0), (13, .int .i64 i)], mem := [(0, ints .u64 a), (1, ints .u64 b), (2, ints .u64 (List.replicate 6 0)), (7, ints .u64 (upto 6 (pickZ n a b) i))], next := 20 }) 6 ?_ (fun i hi => ?_) ?_)
  · refine weak_of rfl ?_ ?_ ?_
    · (simp only [go_sem, List.isEmpty_nil, isC, eq_self, reduceIte, Nat.reduceAdd, Nat.reduceMul, Nat.reduceSub, Nat.reduceLT, Nat.reduceLeDiff, Nat.reduceEqDiff, Nat.reduceDiv, Nat.reduceMod, Nat.reducePow, Nat.reduceBEq, Nat.reduceBNe, Int.reduceLT, Int.reduceLE, Int.reduceGT, Int.reduceGE, Int.reduceBEq, Int.reduceBNe, Int.reduceToNat, Int.reduceAdd, Int.reduceSub, Int.reduceMul, Int.reduceEq, Int.reduceNeg, reduceCtorEq, decide_true, decide_false, Bool.false_eq_true, maskZ, upto_zero]; try rfl)
    · (simp only [go_sem, List.isEmpty_nil, isC, eq_self, reduceIte, Nat.reduceAdd, Nat.reduceMul, Nat.reduceSub, Nat.reduceLT, Nat.reduceLeDiff, Nat.reduceEqDiff, Nat.reduceDiv, Nat.reduceMod, Nat.reducePow, Nat.reduceBEq, Nat.reduceBNe, Int.reduceLT, Int.reduceLE, Int.reduceGT, Int.reduceGE, Int.reduceBEq, Int.reduceBNe, Int.reduceToNat, Int.reduceAdd, Int.reduceSub, Int.reduceMul, Int.reduceEq, Int.reduceNeg, reduceCtorEq, decide_true, decide_false, Bool.false_eq_true, maskZ, upto_zero]; try rfl)
    · (simp only [go_sem, List.isEmpty_nil, isC, eq_self, reduceIte, Nat.reduceAdd, Nat.reduceMul, Nat.reduceSub, Nat.reduceLT, Nat.reduceLeDiff, Nat.reduceEqDiff, Nat.reduceDiv, Nat.reduceMod, Nat.reducePow, Nat.reduceBEq, Nat.reduceBNe, Int.reduceLT, Int.reduceLE, Int.reduceGT, Int.reduceGE, Int.reduceBEq, Int.reduceBNe, Int.reduceToNat, Int.reduceAdd, Int.reduceSub, Int.reduceMul, Int.reduceEq, Int.reduceNeg, reduceCtorEq, decide_true, decide_false, Bool.false_eq_true, maskZ, upto_zero]; try rfl)
  · have h1 : (i : Int) < 6 := by omega
    refine Lwp.seq (Lwp.regI hT ?_)
    simp only [L64r4, go_sem, List.isEmpty_nil, isC, eq_self, reduceIte, Nat.reduceAdd, Nat.reduceMul, Nat.reduceSub, Nat.reduceLT, Nat.reduceLeDiff, Nat.reduceEqDiff, Nat.reduceDiv, Nat.reduceMod, Nat.reducePow, Nat.reduceBEq, Nat.reduceBNe, Int.reduceLT, Int.reduceLE, Int.reduceGT, Int.reduceGE, Int.reduceBEq, Int.reduceBNe, Int.reduceToNat, Int.reduceAdd, Int.reduceSub, Int.reduceMul, Int.reduceEq, Int.reduceNeg, reduceCtorEq, decide_true, decide_false, Bool.false_eq_true, ty3, ty22, ty24, h1]
    refine Lwp.seq (Lwp.cond rfl (fun _ => Lwp.skip ?_) (fun h => by cases h))
    refine Lwp.seq (Lwp.block ?_)
    refine Lwp.seq (Lwp.regI hT ?_)
    simp only [L64r5, go_sem, List.isEmpty_nil, isC, eq_self, reduceIte, Nat.reduceAdd, Nat.reduceMul, Nat.reduceSub, Nat.reduceLT, Nat.reduceLeDiff, Nat.reduceEqDiff, Nat.reduceDiv, Nat.reduceMod, Nat.reducePow, Nat.reduceBEq, Nat.reduceBNe, Int.reduceLT, Int.reduceLE, Int.reduceGT, Int.reduceGE, Int.reduceBEq, Int.reduceBNe, Int.reduceToNat, Int.reduceAdd, Int.reduceSub, Int.reduceMul, Int.reduceEq, Int.reduceNeg, reduceCtorEq, decide_true, decide_false, Bool.false_eq_true, ty3, ty22, ty24]
    have h2 : (0 : Int) ≤ i := by omega
    have h3 : i ≤ 5 := by omega
    have h4 := wrap_succ hi (by decide)
    have h5 := upto_set 6 (pickZ n a b) i _ rfl
    refine Lwp.regD hT hM ?_
    simp only [L64r6, go_sem, List.isEmpty_nil, isC, eq_self, reduceIte, Nat.reduceAdd, Nat.reduceMul, Nat.reduceSub, Nat.reduceLT, Nat.reduceLeDiff, Nat.reduceEqDiff, Nat.reduceDiv, Nat.reduceMod, Nat.reducePow, Nat.reduceBEq, Nat.reduceBNe, Int.reduceLT, Int.reduceLE, Int.reduceGT, Int.reduceGE, Int.reduceBEq, Int.reduceBNe, Int.reduceToNat, Int.reduceAdd, Int.reduceSub, Int.reduceMul, Int.reduceEq, Int.reduceNeg, reduceCtorEq, decide_true, decide_false, Bool.false_eq_true, ty3, ty22, ty24, h1, h2, h3, hl, hl', hi, upto_len]
    refine Lwp.regI hT ?_
    simp only [L64r7, go_sem, List.isEmpty_nil, isC, eq_self, reduceIte, Nat.reduceAdd, Nat.reduceMul, Nat.reduceSub, Nat.reduceLT, Nat.reduceLeDiff, Nat.reduceEqDiff, Nat.reduceDiv, Nat.reduceMod, Nat.reducePow, Nat.reduceBEq, Nat.reduceBNe, Int.reduceLT, Int.reduceLE, Int.reduceGT, Int.reduceGE, Int.reduceBEq, Int.reduceBNe, Int.reduceToNat, Int.reduceAdd, Int.reduceSub, Int.reduceMul, Int.reduceEq, Int.reduceNeg, reduceCtorEq, decide_true, decide_false, Bool.false_eq_true, ty3, ty22, ty24, h4]
    refine weak_of rfl ?_ ?_ ?_
    · (simp only [go_sem, List.isEmpty_nil, isC, eq_self, reduceIte, Nat.reduceAdd, Nat.reduceMul, Nat.reduceSub, Nat.reduceLT, Nat.reduceLeDiff, Nat.reduceEqDiff, Nat.reduceDiv, Nat.reduceMod, Nat.reducePow, Nat.reduceBEq, Nat.reduceBNe, Int.reduceLT, Int.reduceLE, Int.reduceGT, Int.reduceGE, Int.reduceBEq, Int.reduceBNe, Int.reduceToNat, Int.reduceAdd, Int.reduceSub, Int.reduceMul, Int.reduceEq, Int.reduceNeg, reduceCtorEq, decide_true, decide_false, Bool.false_eq_true, ← h5, pickZ]; try rfl)
    · (simp only [go_sem, List.isEmpty_nil, isC, eq_self, reduceIte, Nat.reduceAdd, Nat.reduceMul, Nat.reduceSub, Nat.reduceLT, Nat.reduceLeDiff, Nat.reduceEqDiff, Nat.reduceDiv, Nat.reduceMod, Nat.reducePow, Nat.reduceBEq, Nat.reduceBNe, Int.reduceLT, Int.reduceLE, Int.reduceGT, Int.reduceGE, Int.reduceBEq, Int.reduceBNe, Int.reduceToNat, Int.reduceAdd, Int.reduceSub, Int.reduceMul, Int.reduceEq, Int.reduceNeg, reduceCtorEq, decide_true, decide_false, Bool.false_eq_true, ← h5, pickZ]; try rfl)
    · (simp only [go_sem, List.isEmpty_nil, isC, eq_self, reduceIte, Nat.reduceAdd, Nat.reduceMul, Nat.reduceSub, Nat.reduceLT, Nat.reduceLeDiff, Nat.reduceEqDiff, Nat.reduceDiv, Nat.reduceMod, Nat.reducePow, Nat.reduceBEq, Nat.reduceBNe, Int.reduceLT, Int.reduceLE, Int.reduceGT, Int.reduceGE, Int.reduceBEq, Int.reduceBNe, Int.reduceToNat, Int.reduceAdd, Int.reduceSub, Int.reduceMul, Int.reduceEq, Int.reduceNeg, reduceCtorEq, decide_true, decide_false, Bool.false_eq_true, ← h5, pickZ]; try rfl)
  · refine Lwp.seq (Lwp.regI hT ?_)
    simp only [L64r4, go_sem, List.isEmpty_nil, isC, eq_self, reduceIte, Nat.reduceAdd, Nat.reduceMul, Nat.reduceSub, Nat.reduceLT, Nat.reduceLeDiff, Nat.reduceEqDiff, Nat.reduceDiv, Nat.reduceMod, Nat.reducePow, Nat.reduceBEq, Nat.reduceBNe, Int.reduceLT, Int.reduceLE, Int.reduceGT, Int.reduceGE, Int.reduceBEq, Int.reduceBNe, Int.reduceToNat, Int.reduceAdd, Int.reduceSub, Int.reduceMul, Int.reduceEq, Int.reduceNeg, reduceCtorEq, decide_true, decide_false, Bool.false_eq_true, ty3, ty22, ty24]
    refine Lwp.seq (Lwp.cond rfl (fun h => by cases h) (fun _ => Lwp.exit ?_))
    simp only [go_sem, List.isEmpty_nil, isC, eq_self, reduceIte, Nat.reduceAdd, Nat.reduceMul, Nat.reduceSub, Nat.reduceLT, Nat.reduceLeDiff, Nat.reduceEqDiff, Nat.reduceDiv, Nat.reduceMod, Nat.reducePow, Nat.reduceBEq, Nat.reduceBNe, Int.reduceLT, Int.reduceLE, Int.reduceGT, Int.reduceGE, Int.reduceBEq, Int.reduceBNe, Int.reduceToNat, Int.reduceAdd, Int.reduceSub, Int.reduceMul, Int.reduceEq, Int.reduceNeg, reduceCtorEq, decide_true, decide_false, Bool.false_eq_true]
    refine Lwp.seq (Lwp.regI hT ?_)
    simp only [L64r8, go_sem, List.isEmpty_nil, isC, eq_self, reduceIte, Nat.reduceAdd, Nat.reduceMul, Nat.reduceSub, Nat.reduceLT, Nat.reduceLeDiff, Nat.reduceEqDiff, Nat.reduceDiv, Nat.reduceMod, Nat.reducePow, Nat.reduceBEq, Nat.reduceBNe, Int.reduceLT, Int.reduceLE, Int.reduceGT, Int.reduceGE, Int.reduceBEq, Int.reduceBNe, Int.reduceToNat, Int.reduceAdd, Int.reduceSub, Int.reduceMul, Int.reduceEq, Int.reduceNeg, reduceCtorEq, decide_true, decide_false, Bool.false_eq_true, ty3, ty22, ty24, upto_len]
    refine Lwp.ret (post_val (v := .agg (ints .u64 (tab 6 (pickZ n a b)))) ?_ ?_)
    · simp only [go_sem, List.isEmpty_nil, isC, eq_self, reduceIte, Nat.reduceAdd, Nat.reduceMul, Nat.reduceSub, Nat.reduceLT, Nat.reduceLeDiff, Nat.reduceEqDiff, Nat.reduceDiv, Nat.reduceMod, Nat.reducePow, Nat.reduceBEq, Nat.reduceBNe, Int.reduceLT, Int.reduceLE, Int.reduceGT, Int.reduceGE, Int.reduceBEq, Int.reduceBNe, Int.reduceToNat, Int.reduceAdd, Int.reduceSub, Int.reduceMul, Int.reduceEq, Int.reduceNeg, reduceCtorEq, decide_true, decide_false, Bool.false_eq_true, ty24, upto_full, tab_len]
    · simp only [go_sem, List.isEmpty_nil, isC, eq_self, reduceIte, Nat.reduceAdd, Nat.reduceMul, Nat.reduceSub, Nat.reduceLT, Nat.reduceLeDiff, Nat.reduceEqDiff, Nat.reduceDiv, Nat.reduceMod, Nat.reducePow, Nat.reduceBEq, Nat.reduceBNe, Int.reduceLT, Int.reduceLE, Int.reduceGT, Int.reduceGE, Int.reduceBEq, Int.reduceBNe, Int.reduceToNat, Int.reduceAdd, Int.reduceSub, Int.reduceMul, Int.reduceEq, Int.reduceNeg, reduceCtorEq, decide_true, decide_false, Bool.false_eq_true]
end Eng


namespace Eng
open Go Go.Proofs
set_option linter.unusedSimpArgs false
theorem maskZ_even {n : Int} (h0 : 0 ≤ n) (h1 : n < 18446744073709551616) (h : n % 2 = 0) : maskZ n = 0 := by
  rw [maskZ, andZ_one h0 h1, h]; rfl
theorem maskZ_odd {n : Int} (h0 : 0 ≤ n) (h1 : n < 18446744073709551616) (h : n % 2 = 1) : maskZ n = 18446744073709551615 := by
  rw [maskZ, andZ_one h0 h1, h]; rfl
theorem pickZ_even {n : Int} {a b : List Int} {j : Nat} (h : maskZ n = 0) (ha : U6 a) : pickZ n a b j = a.getD j 0 := by
  have hx := ha.at j
  rw [pickZ, h]
  simp only [orZ_u64, andZ_u64, andNotZ_u64, ofInt_bv]
  rw [show BitVec.ofInt 64 0 = 0#64 from rfl]
  simp only [BitVec.and_zero, BitVec.or_zero, BitVec.not_zero, BitVec.and_allOnes]
  exact bv_ofInt hx.1 hx.2
theorem pickZ_odd {n : Int} {a b : List Int} {j : Nat} (h : maskZ n = 18446744073709551615) (hb : U6 b) : pickZ n a b j = b.getD j 0 := by
  have hx := hb.at j
  rw [pickZ, h]
  simp only [orZ_u64, andZ_u64, andNotZ_u64, ofInt_bv]
  rw [show BitVec.ofInt 64 18446744073709551615 = BitVec.allOnes 64 from rfl]
  simp only [BitVec.not_allOnes, BitVec.and_zero, BitVec.zero_or, BitVec.and_allOnes]
  exact bv_ofInt hx.1 hx.2
theorem tab_self {n : Nat} {a : List Int} (h : a.length = n) {f : Nat → Int} (hf : ∀ j, f j = a.getD j 0) : tab n f = a := (eq_tab h fun i _ => (hf i).symm).symm
theorem pick_eq {n : Int} {a b : List Int} (h0 : 0 ≤ n) (h1 : n < 18446744073709551616) (ha : U6 a) (hb : U6 b) : tab 6 (pickZ n a b) = if n % 2 = 1 then b else a := by
  split
  · rename_i h; exact tab_self hb.1 fun j => pickZ_odd (maskZ_odd h0 h1 h) hb
  · rename_i h; exact tab_self ha.1 fun j => pickZ_even (maskZ_even h0 h1 (by omega)) ha

end Eng


namespace Eng
/-- What 'once' makes of a number with a bit above it. -/
def onceN (x c m : Nat) : Nat := if c = 1 ∨ m ≤ x then (x + 18446744073709551616 ^ 6 - m) % 18446744073709551616 ^ 6 else x
theorem onceN_val {x c m : Nat} (hc : c ≤ 1) (_hx : x < 18446744073709551616 ^ 6) (hm : m < 18446744073709551616 ^ 6) (hlt : x + c * 18446744073709551616 ^ 6 < 18446744073709551616 ^ 6 + m) :
    onceN x c m = if m ≤ x + c * 18446744073709551616 ^ 6 then x + c * 18446744073709551616 ^ 6 - m else x + c * 18446744073709551616 ^ 6 := by
  unfold onceN
  generalize (18446744073709551616 : Nat) ^ 6 = R at *
  rcases Nat.le_one_iff_eq_zero_or_eq_one.1 hc with rfl | rfl
  · rw [Nat.zero_mul, Nat.add_zero]
    by_cases h : m ≤ x
    · rw [if_pos (.inr h), if_pos h, show x + R - m = (x - m) + R by omega, Nat.add_mod_right, Nat.mod_eq_of_lt (by omega)]
    · rw [if_neg (by rintro (h1 | h1); (cases h1); exact h h1), if_neg h]
  · rw [Nat.one_mul, if_pos (.inl rfl), if_pos (by omega), Nat.mod_eq_of_lt (by omega)]
theorem onceN_mod {x c m : Nat} (hc : c ≤ 1) (hx : x < 18446744073709551616 ^ 6) (hm : m < 18446744073709551616 ^ 6) (hlt : x + c * 18446744073709551616 ^ 6 < 2 * m) :
    onceN x c m = (x + c * 18446744073709551616 ^ 6) % m := by
  rw [onceN_val hc hx hm (by omega)]
  split
  · rename_i h; rw [Nat.mod_eq_sub_mod h, Nat.mod_eq_of_lt (by omega)]
  · rw [Nat.mod_eq_of_lt (by omega)]
/-- The inverse, as it is reckoned: each round doubles the bits that hold. -/
def invI (m : Nat) : Nat → Nat
  | 0 => 1
  | k + 1 => invI m k * ((2 + 18446744073709551616 - m * invI m k % 18446744073709551616) % 18446744073709551616) % 18446744073709551616
/-- What times the lowest limb is -1. -/
def negInv (m : Nat) : Nat := (18446744073709551616 - invI m 6) % 18446744073709551616
end Eng


namespace Eng
open Go Go.Proofs
set_option linter.unusedSimpArgs false
set_option linter.unusedVariables false
theorem U6.v64_lt {a : List Int} (h : U6 a) : v64 a < 18446744073709551616 ^ 6 := by have := Eng.v64_lt h.2; rwa [h.1] at this
theorem U6.eq_lim {a : List Int} (h : U6 a) : lim6 (v64 a) = a := lim6_v64 h.1 h.2
theorem lim6_modR (x : Nat) : lim6 (x % 18446744073709551616 ^ 6) = lim6 x := by
  have : (18446744073709551616 : Nat) ^ 6 = 4294967296 ^ 12 := by decide
  rw [this]; exact lim6_mod x
theorem limZ_sub {x y : Nat} (h : y ≤ x + 18446744073709551616 ^ 6) : limZ ((x : Int) - y) = lim6 ((x + 18446744073709551616 ^ 6 - y) % 18446744073709551616 ^ 6) := by
  rw [lim6_modR, ← limZ_nat, ← limZ_add ((x : Int) - y)]
  congr 1
  have e : ((18446744073709551616 ^ 6 : Nat) : Int) = (18446744073709551616 : Int) ^ 6 := by decide
  rw [← e]
  generalize (18446744073709551616 : Nat) ^ 6 = R at *
  omega
theorem S64_bit {c : Int} {a b : List Int} (hc : c = 0 ∨ c = 1) (h : U6 a) (hb : U6 b) : S64 [.int .u64 c, .agg (ints .u64 a), .agg (ints .u64 b)] = some ⟨.agg (ints .u64 (if c = 1 then b else a)), none⟩ := by
  rw [S64_eq _ _ _ h hb, pick_eq (by omega) (by omega) h hb]
  rcases hc with rfl | rfl <;> rfl

noncomputable def S69 : List AV → Option Ret := nz (sumOf (fun p : List Int × Nat × List Int => match p with | (a, c, m) => (U6 a) ∧ (c ≤ 1) ∧ (U6 m)) (fun p : List Int × Nat × List Int => match p with | (a, c, m) => [.agg (ints .u64 a), .int .u64 c, .agg (ints .u64 m)]) (fun p : List Int × Nat × List Int => match p with | (a, c, m) => ⟨.agg (ints .u64 (lim6 (onceN (v64 a) c (v64 m)))), none⟩))
theorem S69_eq (a : List Int) (c : Nat) (m : List Int) (h0 : U6 a) (h1 : c ≤ 1) (h2 : U6 m) : S69 [.agg (ints .u64 a), .int .u64 c, .agg (ints .u64 m)] = some ⟨.agg (ints .u64 (lim6 (onceN (v64 a) c (v64 m)))), none⟩ :=
  sumOf_eq (dom := (fun p : List Int × Nat × List Int => match p with | (a, c, m) => (U6 a) ∧ (c ≤ 1) ∧ (U6 m))) (enc := (fun p : List Int × Nat × List Int => match p with | (a, c, m) => [.agg (ints .u64 a), .int .u64 c, .agg (ints .u64 m)])) (out := (fun p : List Int × Nat × List Int => match p with | (a, c, m) => ⟨.agg (ints .u64 (lim6 (onceN (v64 a) c (v64 m)))), none⟩)) (a, c, m) ⟨h0, h1, h2⟩ (fun y _ e => by
    obtain ⟨y0, y1, y2⟩ := y
    simp only [List.cons.injEq, AV.agg.injEq, AV.int.injEq, AV.slc.injEq, AV.iptr.injEq, AV.bool.injEq, AV.str.injEq, ints_injEq, dig_injEq,  Int.ofNat_inj, BitVec.toNat_inj, true_and, and_true] at e
    first | with_reducible rfl | simp only [e] | rfl)
theorem S69_inv {args : List AV} {r : Ret} (h : sumOf (fun p : List Int × Nat × List Int => match p with | (a, c, m) => (U6 a) ∧ (c ≤ 1) ∧ (U6 m)) (fun p : List Int × Nat × List Int => match p with | (a, c, m) => [.agg (ints .u64 a), .int .u64 c, .agg (ints .u64 m)]) (fun p : List Int × Nat × List Int => match p with | (a, c, m) => ⟨.agg (ints .u64 (lim6 (onceN (v64 a) c (v64 m)))), none⟩) args = some r) : ∃ (a : List Int) (c : Nat) (m : List Int), ((U6 a) ∧ (c ≤ 1) ∧ (U6 m)) ∧ args = [.agg (ints .u64 a), .int .u64 c, .agg (ints .u64 m)] ∧ r = ⟨.agg (ints .u64 (lim6 (onceN (v64 a) c (v64 m)))), none⟩ := by
  obtain ⟨x, h1, h2, h3⟩ := sumOf_inv h
  obtain ⟨a, c, m⟩ := x
  exact ⟨a, c, m, h1, h2.symm, h3⟩


theorem once_out {a : List Int} (ha : U6 a) (c m : Nat) (hm : m < 18446744073709551616 ^ 6) : (if c = 1 ∨ m ≤ v64 a then limZ ((v64 a : Int) - m) else a) = lim6 (onceN (v64 a) c m) := by
  unfold onceN
  split
  · exact limZ_sub (by omega)
  · exact ha.eq_lim.symm
theorem U6_limZ (z : Int) : U6 (limZ z) := ⟨tab_len _ _, by
  intro x hx
  obtain ⟨i, _, rfl⟩ := List.mem_map.1 hx
  exact ⟨Int.emod_nonneg _ (by decide), Int.emod_lt_of_pos _ (by decide)⟩⟩

set_option maxRecDepth 100000 in
theorem snd69 : SndE Tryd.prog NoG 69 S69 := by
  refine snd_nz (snd_by [(64, S64), (60, S60)] [] Tryd.func69 (by kernel_rfl) lite69 nt69 rs69 ⟨snd64, snd60, trivial⟩ trivial (fun hT args r h => ?_))
  obtain ⟨a, c, m, ⟨hd0, hd1, hd2⟩, rfl, rfl⟩ := S69_inv h
  clear h
  have hM := hM0
  refine ⟨Nat.le_of_ble_eq_true rfl, fun F => ?_⟩
  unfold L69
  have hl := hd0.1
  have hl2 := hd2.1
  have hx := hd0.v64_lt
  have hm := hd2.v64_lt
  have f27 : S60 [.agg (ints .u64 a), .agg (ints .u64 m)] = some ⟨.tup [.agg (ints .u64 (limZ ((v64 a : Int) - (v64 m : Nat)))), .int .u64 (if v64 a < v64 m then 1 else 0)], none⟩ := by
    have h := S60_lim (v64 a) (v64 m)
    have hs := subC_six hx hm
    rw [subC_lim _ _ 6 (Nat.le_refl 6)] at hs
    rw [hs, hd0.eq_lim, hd2.eq_lim] at h
    exact h
  have ho := once_out hd0 c (v64 m) hm
  have hz := U6_limZ ((v64 a : Int) - (v64 m : Nat))
  have hzl := hz.1
  have fin := lim6_len (onceN (v64 a) c (v64 m))
  generalize lim6 (onceN (v64 a) c (v64 m)) = out at *
  generalize limZ ((v64 a : Int) - (v64 m : Nat)) = dz at *
  have x1 : xorZ .u64 1 0 = 1 := by decide
  have x2 : xorZ .u64 1 1 = 0 := by decide
  have o1 : orZ .u64 0 1 = 1 := by decide
  have o2 : orZ .u64 0 0 = 0 := by decide
  have o3 : orZ .u64 1 1 = 1 := by decide
  have o4 : orZ .u64 1 0 = 1 := by decide
  have f23 : ∀ b : Int, (b = 0 ∨ b = 1) → S64 [.int .u64 b, .agg (ints .u64 a), .agg (ints .u64 dz)] = some ⟨.agg (ints .u64 (if b = 1 then dz else a)), none⟩ := fun b hb => S64_bit hb hd0 hz
  have f230 := f23 0 (.inl rfl)
  have f231 := f23 1 (.inr rfl)
  simp only [if_neg (show ¬ (0 : Int) = 1 by decide), if_pos] at f230 f231
  refine Lwp.seq (Lwp.regI hT ?_)
  simp only [L69r0, go_sem, List.isEmpty_nil, isC, eq_self, reduceIte, Nat.reduceAdd, Nat.reduceMul, Nat.reduceSub, Nat.reduceLT, Nat.reduceLeDiff, Nat.reduceEqDiff, Nat.reduceDiv, Nat.reduceMod, Nat.reducePow, Nat.reduceBEq, Nat.reduceBNe, Int.reduceLT, Int.reduceLE, Int.reduceGT, Int.reduceGE, Int.reduceBEq, Int.reduceBNe, Int.reduceToNat, Int.reduceAdd, Int.reduceSub, Int.reduceMul, Int.reduceEq, Int.reduceNeg, reduceCtorEq, decide_true, decide_false, Bool.false_eq_true, ty3, ty4, ty5, ty9, ty22, ty24, ty38, ty39, ty40, ty43, ty27, ty28, ty74, ty75, ty59, eq24, eq75, hl, hl2]
  refine Lwp.seq (Lwp.regI hT ?_)
  simp only [L69r1, go_sem, List.isEmpty_nil, isC, eq_self, reduceIte, Nat.reduceAdd, Nat.reduceMul, Nat.reduceSub, Nat.reduceLT, Nat.reduceLeDiff, Nat.reduceEqDiff, Nat.reduceDiv, Nat.reduceMod, Nat.reducePow, Nat.reduceBEq, Nat.reduceBNe, Int.reduceLT, Int.reduceLE, Int.reduceGT, Int.reduceGE, Int.reduceBEq, Int.reduceBNe, Int.reduceToNat, Int.reduceAdd, Int.reduceSub, Int.reduceMul, Int.reduceEq, Int.reduceNeg, reduceCtorEq, decide_true, decide_false, Bool.false_eq_true, ty3, ty4, ty5, ty9, ty22, ty24, ty38, ty39, ty40, ty43, ty27, ty28, ty74, ty75, ty59, eq24, eq75, hl, hl2, f27, hzl]
  have done : ∀ (l : List Int) (env : List (Nat × AV)) (mem : List (Nat × List AV)) (nx : Nat), l = out → find env 6 = some (.own 2 0) → find mem 2 = some (ints .u64 l) → Lwp okDraw (tb Tryd.prog [(64, S64), (60, S60)] []) F LC.ret (Post (tb Tryd.prog [(64, S64), (60, S60)] []) [.cell 6 24] ⟨.agg (ints .u64 out), none⟩) { nt := 22, env := env, mem := mem, next := nx } := by
    intro l env mem nx e1 e2 e3
    subst e1
    refine Lwp.ret (post_val (v := .agg (ints .u64 l)) ?_ ?_)
    · simp only [go_sem, List.isEmpty_nil, isC, eq_self, reduceIte, Nat.reduceAdd, Nat.reduceMul, Nat.reduceSub, Nat.reduceLT, Nat.reduceLeDiff, Nat.reduceEqDiff, Nat.reduceDiv, Nat.reduceMod, Nat.reducePow, Nat.reduceBEq, Nat.reduceBNe, Int.reduceLT, Int.reduceLE, Int.reduceGT, Int.reduceGE, Int.reduceBEq, Int.reduceBNe, Int.reduceToNat, Int.reduceAdd, Int.reduceSub, Int.reduceMul, Int.reduceEq, Int.reduceNeg, reduceCtorEq, decide_true, decide_false, Bool.false_eq_true, ty24, e2, e3, fin]
    · simp only [go_sem, List.isEmpty_nil, isC, eq_self, reduceIte, Nat.reduceAdd, Nat.reduceMul, Nat.reduceSub, Nat.reduceLT, Nat.reduceLeDiff, Nat.reduceEqDiff, Nat.reduceDiv, Nat.reduceMod, Nat.reducePow, Nat.reduceBEq, Nat.reduceBNe, Int.reduceLT, Int.reduceLE, Int.reduceGT, Int.reduceGE, Int.reduceBEq, Int.reduceBNe, Int.reduceToNat, Int.reduceAdd, Int.reduceSub, Int.reduceMul, Int.reduceEq, Int.reduceNeg, reduceCtorEq, decide_true, decide_false, Bool.false_eq_true]
  refine Lwp.seq (Lwp.regI hT ?_)
  rcases Nat.le_one_iff_eq_zero_or_eq_one.1 hd1 with rfl | rfl
  · by_cases h : v64 a < v64 m
    · rw [if_neg (by rintro (h1 | h1); (cases h1); omega)] at ho
      simp only [L69r2, go_sem, List.isEmpty_nil, isC, eq_self, reduceIte, Nat.reduceAdd, Nat.reduceMul, Nat.reduceSub, Nat.reduceLT, Nat.reduceLeDiff, Nat.reduceEqDiff, Nat.reduceDiv, Nat.reduceMod, Nat.reducePow, Nat.reduceBEq, Nat.reduceBNe, Int.reduceLT, Int.reduceLE, Int.reduceGT, Int.reduceGE, Int.reduceBEq, Int.reduceBNe, Int.reduceToNat, Int.reduceAdd, Int.reduceSub, Int.reduceMul, Int.reduceEq, Int.reduceNeg, reduceCtorEq, decide_true, decide_false, Bool.false_eq_true, ty22, ty24, if_pos h, Int.natCast_zero, x2, o2, hl, hzl, f230]
      exact done _ _ _ _ ho rfl rfl
    · rw [if_pos (.inr (by omega))] at ho
      simp only [L69r2, go_sem, List.isEmpty_nil, isC, eq_self, reduceIte, Nat.reduceAdd, Nat.reduceMul, Nat.reduceSub, Nat.reduceLT, Nat.reduceLeDiff, Nat.reduceEqDiff, Nat.reduceDiv, Nat.reduceMod, Nat.reducePow, Nat.reduceBEq, Nat.reduceBNe, Int.reduceLT, Int.reduceLE, Int.reduceGT, Int.reduceGE, Int.reduceBEq, Int.reduceBNe, Int.reduceToNat, Int.reduceAdd, Int.reduceSub, Int.reduceMul, Int.reduceEq, Int.reduceNeg, reduceCtorEq, decide_true, decide_false, Bool.false_eq_true, ty22, ty24, if_neg h, Int.natCast_zero, x1, o1, hl, hzl, f231]
      exact done _ _ _ _ ho rfl rfl
  · rw [if_pos (.inl rfl)] at ho
    have c1 : ((1 : Nat) : Int) = 1 := rfl
    by_cases h : v64 a < v64 m
    · simp only [L69r2, go_sem, List.isEmpty_nil, isC, eq_self, reduceIte, Nat.reduceAdd, Nat.reduceMul, Nat.reduceSub, Nat.reduceLT, Nat.reduceLeDiff, Nat.reduceEqDiff, Nat.reduceDiv, Nat.reduceMod, Nat.reducePow, Nat.reduceBEq, Nat.reduceBNe, Int.reduceLT, Int.reduceLE, Int.reduceGT, Int.reduceGE, Int.reduceBEq, Int.reduceBNe, Int.reduceToNat, Int.reduceAdd, Int.reduceSub, Int.reduceMul, Int.reduceEq, Int.reduceNeg, reduceCtorEq, decide_true, decide_false, Bool.false_eq_true, ty22, ty24, if_pos h, c1, x2, o4, hl, hzl, f231]
      exact done _ _ _ _ ho rfl rfl
    · simp only [L69r2, go_sem, List.isEmpty_nil, isC, eq_self, reduceIte, Nat.reduceAdd, Nat.reduceMul, Nat.reduceSub, Nat.reduceLT, Nat.reduceLeDiff, Nat.reduceEqDiff, Nat.reduceDiv, Nat.reduceMod, Nat.reducePow, Nat.reduceBEq, Nat.reduceBNe, Int.reduceLT, Int.reduceLE, Int.reduceGT, Int.reduceGE, Int.reduceBEq, Int.reduceBNe, Int.reduceToNat, Int.reduceAdd, Int.reduceSub, Int.reduceMul, Int.reduceEq, Int.reduceNeg, reduceCtorEq, decide_true, decide_false, Bool.false_eq_true, ty22, ty24, if_neg h, c1, x1, o3, hl, hzl, f231]
      exact done _ _ _ _ ho rfl rfl

theorem S69_lim {x c m : Nat} (hc : c ≤ 1) (hx : x < 18446744073709551616 ^ 6) (hm : m < 18446744073709551616 ^ 6) : S69 [.agg (ints .u64 (lim6 x)), .int .u64 c, .agg (ints .u64 (lim6 m))] = some ⟨.agg (ints .u64 (lim6 (onceN x c m))), none⟩ := by
  have := S69_eq (lim6 x) c (lim6 m) (U6_lim x) hc (U6_lim m)
  rwa [v64_lim6 hx, v64_lim6 hm] at this
theorem S69_0 {x m : Nat} (hx : x < 18446744073709551616 ^ 6) (hm : m < 18446744073709551616 ^ 6) (h : x < 2 * m) : S69 [.agg (ints .u64 (lim6 x)), .int .u64 0, .agg (ints .u64 (lim6 m))] = some ⟨.agg (ints .u64 (lim6 (x % m))), none⟩ := by
  have := S69_lim (c := 0) (by omega) hx hm
  rw [onceN_mod (by omega) hx hm (by omega), Nat.zero_mul, Nat.add_zero] at this
  exact this
/-- A sum below twice the modulus. -/
theorem S69_sum {s m : Nat} (hm : m < 18446744073709551616 ^ 6) (h : s < 2 * m) : S69 [.agg (ints .u64 (lim6 s)), .int .u64 (if s < 18446744073709551616 ^ 6 then 0 else 1), .agg (ints .u64 (lim6 m))] = some ⟨.agg (ints .u64 (lim6 (s % m))), none⟩ := by
  by_cases hs : s < 18446744073709551616 ^ 6
  · rw [if_pos hs]; exact S69_0 hs hm h
  · rw [if_neg hs]
    have e : (s % 18446744073709551616 ^ 6) + 1 * 18446744073709551616 ^ 6 = s := by
      rw [Nat.mod_eq_sub_mod (by omega), Nat.mod_eq_of_lt (by omega)]; omega
    have := S69_lim (x := s % 18446744073709551616 ^ 6) (c := 1) (by omega) (Nat.mod_lt _ (Nat.pow_pos (by decide))) hm
    rw [onceN_mod (by omega) (Nat.mod_lt _ (Nat.pow_pos (by decide))) hm (by omega), e, lim6_modR] at this
    exact this

/-- A modulus that may be. -/
def GoodM (m : List Int) : Prop := U6 m ∧ v64 m % 2 = 1 ∧ 18446744073709551616 ^ 6 < 2 * v64 m

end Eng


namespace Eng
open Go Go.Proofs
set_option linter.unusedSimpArgs false
set_option linter.unusedVariables false
/-- A modulus with what is reckoned of it once. -/
def modL (m : List Int) : List Int := m ++ ((negInv (m.getD 0 0).toNat : Nat) : Int) :: lim6 (18446744073709551616 ^ 6 * 18446744073709551616 ^ 6 % v64 m)
def ModL (d : List Int) : Prop := ∃ m, GoodM m ∧ d = modL m
theorem modL_len {m : List Int} (h : U6 m) : (modL m).length = 13 := by simp [modL, h.1, lim6_len]
theorem modL_take {m : List Int} (h : U6 m) : (modL m).take 6 = m := by rw [modL, List.take_left' h.1]
end Eng


namespace Eng
open Go Go.Proofs
set_option linter.unusedSimpArgs false
set_option linter.unusedVariables false
theorem ModL.modL {m : List Int} (h : GoodM m) : ModL (modL m) := ⟨m, h, rfl⟩

noncomputable def S68 : List AV → Option Ret := nz (sumOf (fun p : List Int × List Int => match p with | (a, d) => (U6 a) ∧ (ModL d)) (fun p : List Int × List Int => match p with | (a, d) => [.agg (ints .u64 a), .agg (ints .u64 d)]) (fun p : List Int × List Int => match p with | (a, d) => ⟨.agg (ints .u64 (lim6 (v64 a % v64 (d.take 6)))), none⟩))
theorem S68_eq (a : List Int) (d : List Int) (h0 : U6 a) (h1 : ModL d) : S68 [.agg (ints .u64 a), .agg (ints .u64 d)] = some ⟨.agg (ints .u64 (lim6 (v64 a % v64 (d.take 6)))), none⟩ :=
  sumOf_eq (dom := (fun p : List Int × List Int => match p with | (a, d) => (U6 a) ∧ (ModL d))) (enc := (fun p : List Int × List Int => match p with | (a, d) => [.agg (ints .u64 a), .agg (ints .u64 d)])) (out := (fun p : List Int × List Int => match p with | (a, d) => ⟨.agg (ints .u64 (lim6 (v64 a % v64 (d.take 6)))), none⟩)) (a, d) ⟨h0, h1⟩ (fun y _ e => by
    obtain ⟨y0, y1⟩ := y
    simp only [List.cons.injEq, AV.agg.injEq, AV.int.injEq, AV.slc.injEq, AV.iptr.injEq, AV.bool.injEq, AV.str.injEq, ints_injEq, dig_injEq,  Int.ofNat_inj, BitVec.toNat_inj, true_and, and_true] at e
    first | with_reducible rfl | simp only [e] | rfl)
theorem S68_inv {args : List AV} {r : Ret} (h : sumOf (fun p : List Int × List Int => match p with | (a, d) => (U6 a) ∧ (ModL d)) (fun p : List Int × List Int => match p with | (a, d) => [.agg (ints .u64 a), .agg (ints .u64 d)]) (fun p : List Int × List Int => match p with | (a, d) => ⟨.agg (ints .u64 (lim6 (v64 a % v64 (d.take 6)))), none⟩) args = some r) : ∃ (a : List Int) (d : List Int), ((U6 a) ∧ (ModL d)) ∧ args = [.agg (ints .u64 a), .agg (ints .u64 d)] ∧ r = ⟨.agg (ints .u64 (lim6 (v64 a % v64 (d.take 6)))), none⟩ := by
  obtain ⟨x, h1, h2, h3⟩ := sumOf_inv h
  obtain ⟨a, d⟩ := x
  exact ⟨a, d, h1, h2.symm, h3⟩


set_option maxRecDepth 100000 in
theorem snd68 : SndE Tryd.prog NoG 68 S68 := by
  refine snd_nz (snd_by [(69, S69)] [] Tryd.func68 (by kernel_rfl) lite68 nt68 rs68 ⟨snd69, trivial⟩ trivial (fun hT args r h => ?_))
  obtain ⟨a, d, ⟨hd0, hd1⟩, rfl, rfl⟩ := S68_inv h
  clear h
  have hM := hM0
  refine ⟨Nat.le_of_ble_eq_true rfl, fun F => ?_⟩
  unfold L68
  have hl := hd0.1
  obtain ⟨m, hG, rfl⟩ := hd1
  have dl := modL_len hG.1
  have dt := modL_take hG.1
  have ds : sub (ints .u64 (modL m)) 0 6 = ints .u64 m := by rw [ints_sub, List.drop_zero, dt]
  rw [dt]
  have hm := hG.1.v64_lt
  have f62 := S69_0 (x := v64 a) hd0.v64_lt hm (by have := hG.2.2; have := hd0.v64_lt; omega)
  rw [hd0.eq_lim, hG.1.eq_lim] at f62
  have l1 := lim6_len (v64 a % v64 m)
  have hml := hG.1.1
  have n1 : (6 : Nat) ≤ 13 := by decide
  generalize lim6 (v64 a % v64 m) = x1 at *
  generalize modL m = d at *
  refine Lwp.seq (Lwp.regI hT ?_)
  simp only [L68r0, go_sem, List.isEmpty_nil, isC, eq_self, reduceIte, Nat.reduceAdd, Nat.reduceMul, Nat.reduceSub, Nat.reduceLT, Nat.reduceLeDiff, Nat.reduceEqDiff, Nat.reduceDiv, Nat.reduceMod, Nat.reducePow, Nat.reduceBEq, Nat.reduceBNe, Int.reduceLT, Int.reduceLE, Int.reduceGT, Int.reduceGE, Int.reduceBEq, Int.reduceBNe, Int.reduceToNat, Int.reduceAdd, Int.reduceSub, Int.reduceMul, Int.reduceEq, Int.reduceNeg, reduceCtorEq, decide_true, decide_false, Bool.false_eq_true, ty3, ty4, ty5, ty9, ty22, ty24, ty38, ty39, ty40, ty43, ty27, ty28, ty74, ty75, ty52, ty59, eq24, eq75, hl, dl]
  refine Lwp.seq (Lwp.regI hT ?_)
  simp only [L68r1, go_sem, List.isEmpty_nil, isC, eq_self, reduceIte, Nat.reduceAdd, Nat.reduceMul, Nat.reduceSub, Nat.reduceLT, Nat.reduceLeDiff, Nat.reduceEqDiff, Nat.reduceDiv, Nat.reduceMod, Nat.reducePow, Nat.reduceBEq, Nat.reduceBNe, Int.reduceLT, Int.reduceLE, Int.reduceGT, Int.reduceGE, Int.reduceBEq, Int.reduceBNe, Int.reduceToNat, Int.reduceAdd, Int.reduceSub, Int.reduceMul, Int.reduceEq, Int.reduceNeg, reduceCtorEq, decide_true, decide_false, Bool.false_eq_true, ty3, ty4, ty5, ty9, ty22, ty24, ty38, ty39, ty40, ty43, ty27, ty28, ty74, ty75, ty52, ty59, eq24, eq75, hl, dl, ds, n1, hml, l1, f62]
  refine Lwp.ret (post_val (v := .agg (ints .u64 x1)) ?_ ?_)
  · simp only [go_sem, List.isEmpty_nil, isC, eq_self, reduceIte, Nat.reduceAdd, Nat.reduceMul, Nat.reduceSub, Nat.reduceLT, Nat.reduceLeDiff, Nat.reduceEqDiff, Nat.reduceDiv, Nat.reduceMod, Nat.reducePow, Nat.reduceBEq, Nat.reduceBNe, Int.reduceLT, Int.reduceLE, Int.reduceGT, Int.reduceGE, Int.reduceBEq, Int.reduceBNe, Int.reduceToNat, Int.reduceAdd, Int.reduceSub, Int.reduceMul, Int.reduceEq, Int.reduceNeg, reduceCtorEq, decide_true, decide_false, Bool.false_eq_true, ty24, l1]
  · simp only [go_sem, List.isEmpty_nil, isC, eq_self, reduceIte, Nat.reduceAdd, Nat.reduceMul, Nat.reduceSub, Nat.reduceLT, Nat.reduceLeDiff, Nat.reduceEqDiff, Nat.reduceDiv, Nat.reduceMod, Nat.reducePow, Nat.reduceBEq, Nat.reduceBNe, Int.reduceLT, Int.reduceLE, Int.reduceGT, Int.reduceGE, Int.reduceBEq, Int.reduceBNe, Int.reduceToNat, Int.reduceAdd, Int.reduceSub, Int.reduceMul, Int.reduceEq, Int.reduceNeg, reduceCtorEq, decide_true, decide_false, Bool.false_eq_true]

theorem GoodM.pos {m : List Int} (h : GoodM m) : 0 < v64 m := Nat.pos_of_ne_zero (fun e => by have := h.2.1; rw [e] at this; simp at this)
theorem mod_lt_R {m : List Int} (h : GoodM m) (x : Nat) : x % v64 m < 18446744073709551616 ^ 6 := Nat.lt_trans (Nat.mod_lt _ h.pos) h.1.v64_lt

noncomputable def S49 : List AV → Option Ret := nz (sumOf (fun p : List Int × List Int × List Int => match p with | (a, b, d) => (U6 a) ∧ (U6 b) ∧ (ModL d)) (fun p : List Int × List Int × List Int => match p with | (a, b, d) => [.agg (ints .u64 a), .agg (ints .u64 b), .agg (ints .u64 d)]) (fun p : List Int × List Int × List Int => match p with | (a, b, d) => ⟨.agg (ints .u64 (lim6 ((v64 a + v64 b) % v64 (d.take 6)))), none⟩))
theorem S49_eq (a : List Int) (b : List Int) (d : List Int) (h0 : U6 a) (h1 : U6 b) (h2 : ModL d) : S49 [.agg (ints .u64 a), .agg (ints .u64 b), .agg (ints .u64 d)] = some ⟨.agg (ints .u64 (lim6 ((v64 a + v64 b) % v64 (d.take 6)))), none⟩ :=
  sumOf_eq (dom := (fun p : List Int × List Int × List Int => match p with | (a, b, d) => (U6 a) ∧ (U6 b) ∧ (ModL d))) (enc := (fun p : List Int × List Int × List Int => match p with | (a, b, d) => [.agg (ints .u64 a), .agg (ints .u64 b), .agg (ints .u64 d)])) (out := (fun p : List Int × List Int × List Int => match p with | (a, b, d) => ⟨.agg (ints .u64 (lim6 ((v64 a + v64 b) % v64 (d.take 6)))), none⟩)) (a, b, d) ⟨h0, h1, h2⟩ (fun y _ e => by
    obtain ⟨y0, y1, y2⟩ := y
    simp only [List.cons.injEq, AV.agg.injEq, AV.int.injEq, AV.slc.injEq, AV.iptr.injEq, AV.bool.injEq, AV.str.injEq, ints_injEq, dig_injEq,  Int.ofNat_inj, BitVec.toNat_inj, true_and, and_true] at e
    first | with_reducible rfl | simp only [e] | rfl)
theorem S49_inv {args : List AV} {r : Ret} (h : sumOf (fun p : List Int × List Int × List Int => match p with | (a, b, d) => (U6 a) ∧ (U6 b) ∧ (ModL d)) (fun p : List Int × List Int × List Int => match p with | (a, b, d) => [.agg (ints .u64 a), .agg (ints .u64 b), .agg (ints .u64 d)]) (fun p : List Int × List Int × List Int => match p with | (a, b, d) => ⟨.agg (ints .u64 (lim6 ((v64 a + v64 b) % v64 (d.take 6)))), none⟩) args = some r) : ∃ (a : List Int) (b : List Int) (d : List Int), ((U6 a) ∧ (U6 b) ∧ (ModL d)) ∧ args = [.agg (ints .u64 a), .agg (ints .u64 b), .agg (ints .u64 d)] ∧ r = ⟨.agg (ints .u64 (lim6 ((v64 a + v64 b) % v64 (d.take 6)))), none⟩ := by
  obtain ⟨x, h1, h2, h3⟩ := sumOf_inv h
  obtain ⟨a, b, d⟩ := x
  exact ⟨a, b, d, h1, h2.symm, h3⟩


set_option maxRecDepth 100000 in
theorem snd49 : SndE Tryd.prog NoG 49 S49 := by
  refine snd_nz (snd_by [(62, S62), (69, S69), (68, S68)] [] Tryd.func49 (by kernel_rfl) lite49 nt49 rs49 ⟨snd62, snd69, snd68, trivial⟩ trivial (fun hT args r h => ?_))
  obtain ⟨a, b, d, ⟨hd0, hd1, hd2⟩, rfl, rfl⟩ := S49_inv h
  clear h
  have hM := hM0
  refine ⟨Nat.le_of_ble_eq_true rfl, fun F => ?_⟩
  unfold L49
  have hl := hd0.1
  have hl1 := hd1.1
  obtain ⟨m, hG, rfl⟩ := hd2
  have hM2 := ModL.modL hG
  have dl := modL_len hG.1
  have dt := modL_take hG.1
  have ds : sub (ints .u64 (modL m)) 0 6 = ints .u64 m := by rw [ints_sub, List.drop_zero, dt]
  have f1 := S68_eq a (modL m) hd0 hM2
  have f2 := S68_eq b (modL m) hd1 hM2
  rw [dt] at f1 f2 ⊢
  have hm := hG.1.v64_lt
  have hp := hG.pos
  have f35 := S62_lim (mod_lt_R hG (v64 a)) (mod_lt_R hG (v64 b))
  have f62 := S69_sum (s := v64 a % v64 m + v64 b % v64 m) hm (by have := Nat.mod_lt (v64 a) hp; have := Nat.mod_lt (v64 b) hp; omega)
  rw [← Nat.add_mod, hG.1.eq_lim] at f62
  have l1 := lim6_len (v64 a % v64 m)
  have l2 := lim6_len (v64 b % v64 m)
  have l3 := lim6_len (v64 a % v64 m + v64 b % v64 m)
  have l4 := lim6_len ((v64 a + v64 b) % v64 m)
  have n1 : (6 : Nat) ≤ 13 := by decide
  have hml := hG.1.1
  generalize (if v64 a % v64 m + v64 b % v64 m < 18446744073709551616 ^ 6 then (0 : Int) else 1) = cy at *
  generalize lim6 (v64 a % v64 m) = x1 at *
  generalize lim6 (v64 b % v64 m) = x2 at *
  generalize lim6 (v64 a % v64 m + v64 b % v64 m) = x3 at *
  generalize lim6 ((v64 a + v64 b) % v64 m) = x4 at *
  generalize modL m = d at *
  refine Lwp.seq (Lwp.regI hT ?_)
  simp only [L49r0, go_sem, List.isEmpty_nil, isC, eq_self, reduceIte, Nat.reduceAdd, Nat.reduceMul, Nat.reduceSub, Nat.reduceLT, Nat.reduceLeDiff, Nat.reduceEqDiff, Nat.reduceDiv, Nat.reduceMod, Nat.reducePow, Nat.reduceBEq, Nat.reduceBNe, Int.reduceLT, Int.reduceLE, Int.reduceGT, Int.reduceGE, Int.reduceBEq, Int.reduceBNe, Int.reduceToNat, Int.reduceAdd, Int.reduceSub, Int.reduceMul, Int.reduceEq, Int.reduceNeg, reduceCtorEq, decide_true, decide_false, Bool.false_eq_true, ty3, ty4, ty5, ty9, ty22, ty24, ty38, ty39, ty40, ty43, ty27, ty28, ty74, ty75, ty52, ty59, eq24, eq75, hl, hl1, dl]
  refine Lwp.seq (Lwp.regD hT hM ?_)
  simp only [L49r1, go_sem, List.isEmpty_nil, isC, eq_self, reduceIte, Nat.reduceAdd, Nat.reduceMul, Nat.reduceSub, Nat.reduceLT, Nat.reduceLeDiff, Nat.reduceEqDiff, Nat.reduceDiv, Nat.reduceMod, Nat.reducePow, Nat.reduceBEq, Nat.reduceBNe, Int.reduceLT, Int.reduceLE, Int.reduceGT, Int.reduceGE, Int.reduceBEq, Int.reduceBNe, Int.reduceToNat, Int.reduceAdd, Int.reduceSub, Int.reduceMul, Int.reduceEq, Int.reduceNeg, reduceCtorEq, decide_true, decide_false, Bool.false_eq_true, ty3, ty4, ty5, ty9, ty22, ty24, ty38, ty39, ty40, ty43, ty27, ty28, ty74, ty75, ty52, ty59, eq24, eq75, hl, hl1, dl, f1, f2, f35, l1, l2, l3]
  refine Lwp.seq (Lwp.regI hT ?_)
  simp only [L49r2, go_sem, List.isEmpty_nil, isC, eq_self, reduceIte, Nat.reduceAdd, Nat.reduceMul, Nat.reduceSub, Nat.reduceLT, Nat.reduceLeDiff, Nat.reduceEqDiff, Nat.reduceDiv, Nat.reduceMod, Nat.reducePow, Nat.reduceBEq, Nat.reduceBNe, Int.reduceLT, Int.reduceLE, Int.reduceGT, Int.reduceGE, Int.reduceBEq, Int.reduceBNe, Int.reduceToNat, Int.reduceAdd, Int.reduceSub, Int.reduceMul, Int.reduceEq, Int.reduceNeg, reduceCtorEq, decide_true, decide_false, Bool.false_eq_true, ty3, ty4, ty5, ty9, ty22, ty24, ty38, ty39, ty40, ty43, ty27, ty28, ty74, ty75, ty52, ty59, eq24, eq75, hl, hl1, dl, ds, n1, hml, l3, l4, f62]
  refine Lwp.ret (post_val (v := .agg (ints .u64 x4)) ?_ ?_)
  · simp only [go_sem, List.isEmpty_nil, isC, eq_self, reduceIte, Nat.reduceAdd, Nat.reduceMul, Nat.reduceSub, Nat.reduceLT, Nat.reduceLeDiff, Nat.reduceEqDiff, Nat.reduceDiv, Nat.reduceMod, Nat.reducePow, Nat.reduceBEq, Nat.reduceBNe, Int.reduceLT, Int.reduceLE, Int.reduceGT, Int.reduceGE, Int.reduceBEq, Int.reduceBNe, Int.reduceToNat, Int.reduceAdd, Int.reduceSub, Int.reduceMul, Int.reduceEq, Int.reduceNeg, reduceCtorEq, decide_true, decide_false, Bool.false_eq_true, ty24, l4]
  · simp only [go_sem, List.isEmpty_nil, isC, eq_self, reduceIte, Nat.reduceAdd, Nat.reduceMul, Nat.reduceSub, Nat.reduceLT, Nat.reduceLeDiff, Nat.reduceEqDiff, Nat.reduceDiv, Nat.reduceMod, Nat.reducePow, Nat.reduceBEq, Nat.reduceBNe, Int.reduceLT, Int.reduceLE, Int.reduceGT, Int.reduceGE, Int.reduceBEq, Int.reduceBNe, Int.reduceToNat, Int.reduceAdd, Int.reduceSub, Int.reduceMul, Int.reduceEq, Int.reduceNeg, reduceCtorEq, decide_true, decide_false, Bool.false_eq_true]

end Eng


namespace Eng
open Go Go.Proofs
set_option linter.unusedSimpArgs false
set_option linter.unusedVariables false
abbrev DS (l : List Int) : AV := .slc l.length (ints .u64 l)
abbrev AG (l : List Int) : AV := .agg (ints .u64 l)
theorem dlR {x : Nat} (h : x < 18446744073709551616 ^ 6) : (dig x).length ≤ 400000 := Nat.le_trans (dig12 h) (by decide)
theorem R32 : (18446744073709551616 : Nat) ^ 6 = 4294967296 ^ 12 := by decide
theorem GoodM.lt {m : List Int} (h : GoodM m) : v64 m < 4294967296 ^ 12 := by rw [← R32]; exact h.1.v64_lt
theorem le6 {n : Nat} (h : n ≤ 400000) : n ≤ 1000000 := Nat.le_trans h (by decide)

/-- The prime and the order, and what is reckoned of them. -/
def p6 : List Int := [4294967295, 18446744069414584320, 18446744073709551614, 18446744073709551615, 18446744073709551615, 18446744073709551615]
def n6 : List Int := [17072048233947408755, 6348401684107011962, 14367412456785391071, 18446744073709551615, 18446744073709551615, 18446744073709551615]
def n13 : List Int := [17072048233947408755, 6348401684107011962, 14367412456785391071, 18446744073709551615, 18446744073709551615, 18446744073709551615, 7986114184663260229, 3256554584917936553, 18391999277541532697, 13564358545871743303, 15279949475123764421, 4589268600508278933, 902107514168524577]
theorem n_mod : modL n6 = n13 := by decide +kernel
theorem n_good : GoodM n6 := ⟨⟨rfl, by decide⟩, by decide, by decide⟩
theorem pD_ex : ∃ d, d = modL p6 := ⟨_, rfl⟩
theorem nD_ex : ∃ d, d = modL n6 := ⟨_, rfl⟩
theorem nN_ex : ∃ d, d = v64 n6 := ⟨_, rfl⟩
theorem nL_ex : ∃ d, d = n6 := ⟨_, rfl⟩
/-- Names that do not unfold. -/
noncomputable def pD : List Int := Classical.choose pD_ex
noncomputable def nD : List Int := Classical.choose nD_ex
noncomputable def nN : Nat := Classical.choose nN_ex
noncomputable def nL : List Int := Classical.choose nL_ex
theorem nL_eq : nL = n6 := Classical.choose_spec nL_ex
theorem nD_eq : nD = modL nL := (Classical.choose_spec nD_ex).trans (by rw [nL_eq])
theorem nN_eq : nN = v64 nL := (Classical.choose_spec nN_ex).trans (by rw [nL_eq])
theorem nL_good : GoodM nL := by rw [nL_eq]; exact n_good
theorem nD_len : nD.length = 13 := by rw [nD_eq]; exact modL_len nL_good.1
theorem nD_mod : ModL nD := by rw [nD_eq]; exact ModL.modL nL_good
theorem nD_take : nD.take 6 = nL := by rw [nD_eq]; exact modL_take nL_good.1
theorem nD_sub : sub (ints .u64 nD) 0 6 = ints .u64 nL := by rw [ints_sub, List.drop_zero, nD_take]
theorem nN_pos : 0 < nN := by rw [nN_eq]; exact nL_good.pos
theorem nN_lt : nN < 4294967296 ^ 12 := by rw [nN_eq]; exact nL_good.lt
theorem nN_ltR : nN < 18446744073709551616 ^ 6 := by rw [R32]; exact nN_lt
theorem nN_mod_lt (x : Nat) : x % nN < 18446744073709551616 ^ 6 := Nat.lt_trans (Nat.mod_lt _ nN_pos) nN_ltR
theorem nL_lim : lim6 nN = nL := by rw [nN_eq]; exact nL_good.1.eq_lim
def ndig : List Int := [3435473267, 3974895978, 1219536762, 1478102450, 4097256927, 3345173889, 4294967295, 4294967295, 4294967295, 4294967295, 4294967295, 4294967295]
theorem dig_n : dig nN = ndig := by
  rw [nN_eq, nL_eq, show v64 n6 = val ndig by decide]
  exact dig_val ndig (by intro x hx; simp [ndig] at hx; omega) (.inr (by decide))
noncomputable def pG : List (Nat × List AV) := [(0, ints .u64 pD)]
noncomputable def nG : List (Nat × List AV) := [(1, ints .u64 nD)]
theorem fld0 : (#[⟨ "M", 24, 0, false, "", "", 0⟩, ⟨ "Inv", 22, 6, false, "", "", 48⟩, ⟨ "Two", 24, 7, false, "", "", 56⟩] : Array Field)[0]? = some ⟨ "M", 24, 0, false, "", "", 0⟩ := rfl
theorem fld2 : (#[⟨ "M", 24, 0, false, "", "", 0⟩, ⟨ "Inv", 22, 6, false, "", "", 48⟩, ⟨ "Two", 24, 7, false, "", "", 56⟩] : Array Field)[2]? = some ⟨ "Two", 24, 7, false, "", "", 56⟩ := rfl
theorem z6_U6 : U6 (List.replicate 6 0) := U6_zero
theorem z6_v : v64 (List.replicate 6 0) = 0 := by decide


noncomputable def S21 : List AV → Option Ret := nz (sumOf (fun p : Unit => match p with | () => True) (fun p : Unit => match p with | () => []) (fun p : Unit => match p with | () => ⟨AG nL, none⟩))
theorem S21_eq  : S21 [] = some ⟨AG nL, none⟩ :=
  sumOf_eq (dom := (fun p : Unit => match p with | () => True)) (enc := (fun p : Unit => match p with | () => [])) (out := (fun p : Unit => match p with | () => ⟨AG nL, none⟩)) () trivial (fun y _ e => by
    rfl)
theorem S21_inv {args : List AV} {r : Ret} (h : sumOf (fun p : Unit => match p with | () => True) (fun p : Unit => match p with | () => []) (fun p : Unit => match p with | () => ⟨AG nL, none⟩) args = some r) : (True) ∧ args = [] ∧ r = ⟨AG nL, none⟩ := by
  obtain ⟨x, h1, h2, h3⟩ := sumOf_inv h
  exact ⟨h1, h2.symm, h3⟩

set_option maxRecDepth 100000 in
theorem snd21 : SndG Tryd.prog nG 21 S21 := by
  refine snd_nz (sndG_by (gl := nG) [] [] Tryd.func21 (by kernel_rfl) lite21 nt21 rs21 trivial trivial (fun hT args r h => ?_))
  obtain ⟨_, rfl, rfl⟩ := S21_inv h
  clear h
  have hM := hM0
  refine ⟨Nat.le_of_ble_eq_true rfl, fun F => ?_⟩
  unfold L21
  have h1 := nL_good.1.1
  have h2 := nD_len
  have h3 := nD_sub
  have n1 : (6 : Nat) ≤ 13 := by decide
  refine Lwp.seq (Lwp.regI hT ?_)
  simp only [L21r0, go_sem, List.isEmpty_nil, isC, eq_self, reduceIte, Nat.reduceAdd, Nat.reduceMul, Nat.reduceSub, Nat.reduceLT, Nat.reduceLeDiff, Nat.reduceEqDiff, Nat.reduceDiv, Nat.reduceMod, Nat.reducePow, Nat.reduceBEq, Nat.reduceBNe, Int.reduceLT, Int.reduceLE, Int.reduceGT, Int.reduceGE, Int.reduceBEq, Int.reduceBNe, Int.reduceToNat, Int.reduceAdd, Int.reduceSub, Int.reduceMul, Int.reduceEq, Int.reduceNeg, reduceCtorEq, decide_true, decide_false, Bool.false_eq_true, ty3, ty4, ty5, ty9, ty22, ty23, ty24, ty38, ty40, ty43, ty27, ty28, ty74, ty75, ty52, eq24, pG, nG, fld0, fld2]
  refine Lwp.seq (Lwp.regI hT ?_)
  simp only [L21r1, go_sem, List.isEmpty_nil, isC, eq_self, reduceIte, Nat.reduceAdd, Nat.reduceMul, Nat.reduceSub, Nat.reduceLT, Nat.reduceLeDiff, Nat.reduceEqDiff, Nat.reduceDiv, Nat.reduceMod, Nat.reducePow, Nat.reduceBEq, Nat.reduceBNe, Int.reduceLT, Int.reduceLE, Int.reduceGT, Int.reduceGE, Int.reduceBEq, Int.reduceBNe, Int.reduceToNat, Int.reduceAdd, Int.reduceSub, Int.reduceMul, Int.reduceEq, Int.reduceNeg, reduceCtorEq, decide_true, decide_false, Bool.false_eq_true, ty3, ty4, ty5, ty9, ty22, ty23, ty24, ty38, ty40, ty43, ty27, ty28, ty74, ty75, ty52, eq24, pG, nG, fld0, fld2, h1, h2, h3, n1]
  refine Lwp.ret (post_val (v := AG nL) ?_ ?_)
  · simp only [go_sem, List.isEmpty_nil, isC, eq_self, reduceIte, Nat.reduceAdd, Nat.reduceMul, Nat.reduceSub, Nat.reduceLT, Nat.reduceLeDiff, Nat.reduceEqDiff, Nat.reduceDiv, Nat.reduceMod, Nat.reducePow, Nat.reduceBEq, Nat.reduceBNe, Int.reduceLT, Int.reduceLE, Int.reduceGT, Int.reduceGE, Int.reduceBEq, Int.reduceBNe, Int.reduceToNat, Int.reduceAdd, Int.reduceSub, Int.reduceMul, Int.reduceEq, Int.reduceNeg, reduceCtorEq, decide_true, decide_false, Bool.false_eq_true, ty24, h1]
  · simp only [go_sem, List.isEmpty_nil, isC, eq_self, reduceIte, Nat.reduceAdd, Nat.reduceMul, Nat.reduceSub, Nat.reduceLT, Nat.reduceLeDiff, Nat.reduceEqDiff, Nat.reduceDiv, Nat.reduceMod, Nat.reducePow, Nat.reduceBEq, Nat.reduceBNe, Int.reduceLT, Int.reduceLE, Int.reduceGT, Int.reduceGE, Int.reduceBEq, Int.reduceBNe, Int.reduceToNat, Int.reduceAdd, Int.reduceSub, Int.reduceMul, Int.reduceEq, Int.reduceNeg, reduceCtorEq, decide_true, decide_false, Bool.false_eq_true]

noncomputable def S22 : List AV → Option Ret := nz (sumOf (fun p : Unit => match p with | () => True) (fun p : Unit => match p with | () => []) (fun p : Unit => match p with | () => ⟨DS (dig nN), none⟩))
theorem S22_eq  : S22 [] = some ⟨DS (dig nN), none⟩ :=
  sumOf_eq (dom := (fun p : Unit => match p with | () => True)) (enc := (fun p : Unit => match p with | () => [])) (out := (fun p : Unit => match p with | () => ⟨DS (dig nN), none⟩)) () trivial (fun y _ e => by
    rfl)
theorem S22_inv {args : List AV} {r : Ret} (h : sumOf (fun p : Unit => match p with | () => True) (fun p : Unit => match p with | () => []) (fun p : Unit => match p with | () => ⟨DS (dig nN), none⟩) args = some r) : (True) ∧ args = [] ∧ r = ⟨DS (dig nN), none⟩ := by
  obtain ⟨x, h1, h2, h3⟩ := sumOf_inv h
  exact ⟨h1, h2.symm, h3⟩

set_option maxRecDepth 100000 in
theorem snd22 : SndE Tryd.prog NoG 22 S22 := by
  refine snd_nz (snd_by [] [] Tryd.func22 (by kernel_rfl) lite22 nt22 rs22 trivial trivial (fun hT args r h => ?_))
  obtain ⟨_, rfl, rfl⟩ := S22_inv h
  clear h
  have hM := hM0
  refine ⟨Nat.le_of_ble_eq_true rfl, fun F => ?_⟩
  unfold L22
  refine Lwp.seq (Lwp.regI hT ?_)
  simp only [L22r0, go_sem, List.isEmpty_nil, isC, eq_self, reduceIte, Nat.reduceAdd, Nat.reduceMul, Nat.reduceSub, Nat.reduceLT, Nat.reduceLeDiff, Nat.reduceEqDiff, Nat.reduceDiv, Nat.reduceMod, Nat.reducePow, Nat.reduceBEq, Nat.reduceBNe, Int.reduceLT, Int.reduceLE, Int.reduceGT, Int.reduceGE, Int.reduceBEq, Int.reduceBNe, Int.reduceToNat, Int.reduceAdd, Int.reduceSub, Int.reduceMul, Int.reduceEq, Int.reduceNeg, reduceCtorEq, decide_true, decide_false, Bool.false_eq_true, ty3, ty4, ty5, ty9, ty22, ty23, ty24, ty38, ty40, ty43, ty27, ty28, ty74, ty75, ty52, eq24, pG, nG, fld0, fld2]
  refine Lwp.seq (Lwp.regI hT ?_)
  simp only [L22r1, go_sem, List.isEmpty_nil, isC, eq_self, reduceIte, Nat.reduceAdd, Nat.reduceMul, Nat.reduceSub, Nat.reduceLT, Nat.reduceLeDiff, Nat.reduceEqDiff, Nat.reduceDiv, Nat.reduceMod, Nat.reducePow, Nat.reduceBEq, Nat.reduceBNe, Int.reduceLT, Int.reduceLE, Int.reduceGT, Int.reduceGE, Int.reduceBEq, Int.reduceBNe, Int.reduceToNat, Int.reduceAdd, Int.reduceSub, Int.reduceMul, Int.reduceEq, Int.reduceNeg, reduceCtorEq, decide_true, decide_false, Bool.false_eq_true, ty3, ty4, ty5, ty9, ty22, ty23, ty24, ty38, ty40, ty43, ty27, ty28, ty74, ty75, ty52, eq24, pG, nG, fld0, fld2]
  refine Lwp.ret (post_val (v := .osl 1 0 12 1) ?_ ?_)
  · simp only [go_sem, List.isEmpty_nil, isC, eq_self, reduceIte, Nat.reduceAdd, Nat.reduceMul, Nat.reduceSub, Nat.reduceLT, Nat.reduceLeDiff, Nat.reduceEqDiff, Nat.reduceDiv, Nat.reduceMod, Nat.reducePow, Nat.reduceBEq, Nat.reduceBNe, Int.reduceLT, Int.reduceLE, Int.reduceGT, Int.reduceGE, Int.reduceBEq, Int.reduceBNe, Int.reduceToNat, Int.reduceAdd, Int.reduceSub, Int.reduceMul, Int.reduceEq, Int.reduceNeg, reduceCtorEq, decide_true, decide_false, Bool.false_eq_true]
  · rw [dig_n]; simp only [go_sem, List.isEmpty_nil, isC, eq_self, reduceIte, Nat.reduceAdd, Nat.reduceMul, Nat.reduceSub, Nat.reduceLT, Nat.reduceLeDiff, Nat.reduceEqDiff, Nat.reduceDiv, Nat.reduceMod, Nat.reducePow, Nat.reduceBEq, Nat.reduceBNe, Int.reduceLT, Int.reduceLE, Int.reduceGT, Int.reduceGE, Int.reduceBEq, Int.reduceBNe, Int.reduceToNat, Int.reduceAdd, Int.reduceSub, Int.reduceMul, Int.reduceEq, Int.reduceNeg, reduceCtorEq, decide_true, decide_false, Bool.false_eq_true]; rfl

noncomputable def S23 : List AV → Option Ret := nz (sumOf (fun p : List Int => match p with | a => (U6 a)) (fun p : List Int => match p with | a => [AG a]) (fun p : List Int => match p with | a => ⟨AG (lim6 (v64 a % nN)), none⟩))
theorem S23_eq (a : List Int) (h0 : U6 a) : S23 [AG a] = some ⟨AG (lim6 (v64 a % nN)), none⟩ :=
  sumOf_eq (dom := (fun p : List Int => match p with | a => (U6 a))) (enc := (fun p : List Int => match p with | a => [AG a])) (out := (fun p : List Int => match p with | a => ⟨AG (lim6 (v64 a % nN)), none⟩)) a h0 (fun y _ e => by
    simp only [List.cons.injEq, AV.agg.injEq, AV.int.injEq, AV.slc.injEq, AV.iptr.injEq, AV.bool.injEq, AV.str.injEq, ints_injEq, dig_injEq,  Int.ofNat_inj, BitVec.toNat_inj, true_and, and_true] at e
    first | with_reducible rfl | simp only [e] | rfl)
theorem S23_inv {args : List AV} {r : Ret} (h : sumOf (fun p : List Int => match p with | a => (U6 a)) (fun p : List Int => match p with | a => [AG a]) (fun p : List Int => match p with | a => ⟨AG (lim6 (v64 a % nN)), none⟩) args = some r) : ∃ (a : List Int), ((U6 a)) ∧ args = [AG a] ∧ r = ⟨AG (lim6 (v64 a % nN)), none⟩ := by
  obtain ⟨x, h1, h2, h3⟩ := sumOf_inv h
  exact ⟨x, h1, h2.symm, h3⟩

set_option maxRecDepth 100000 in
theorem snd23 : SndG Tryd.prog nG 23 S23 := by
  refine snd_nz (sndG_by (gl := nG) [(49, S49)] [] Tryd.func23 (by kernel_rfl) lite23 nt23 rs23 ⟨(by first | exact snd49 | exact snd49.toG), trivial⟩ trivial (fun hT args r h => ?_))
  obtain ⟨a, hd0, rfl, rfl⟩ := S23_inv h
  clear h
  have hM := hM0
  refine ⟨Nat.le_of_ble_eq_true rfl, fun F => ?_⟩
  unfold L23
  have hl := hd0.1
  have h2 := nD_len
  have f := S49_eq a (List.replicate 6 0) nD hd0 z6_U6 nD_mod
  rw [nD_take, ← nN_eq, z6_v, Nat.add_zero] at f
  have lo := lim6_len (v64 a % nN)
  generalize lim6 (v64 a % nN) = out at *
  refine Lwp.seq (Lwp.regI hT ?_)
  simp only [L23r0, go_sem, List.isEmpty_nil, isC, eq_self, reduceIte, Nat.reduceAdd, Nat.reduceMul, Nat.reduceSub, Nat.reduceLT, Nat.reduceLeDiff, Nat.reduceEqDiff, Nat.reduceDiv, Nat.reduceMod, Nat.reducePow, Nat.reduceBEq, Nat.reduceBNe, Int.reduceLT, Int.reduceLE, Int.reduceGT, Int.reduceGE, Int.reduceBEq, Int.reduceBNe, Int.reduceToNat, Int.reduceAdd, Int.reduceSub, Int.reduceMul, Int.reduceEq, Int.reduceNeg, reduceCtorEq, decide_true, decide_false, Bool.false_eq_true, ty3, ty4, ty5, ty9, ty22, ty23, ty24, ty38, ty40, ty43, ty27, ty28, ty74, ty75, ty52, eq24, pG, nG, fld0, fld2, hl]
  refine Lwp.seq (Lwp.regI hT ?_)
  simp only [L23r1, go_sem, List.isEmpty_nil, isC, eq_self, reduceIte, Nat.reduceAdd, Nat.reduceMul, Nat.reduceSub, Nat.reduceLT, Nat.reduceLeDiff, Nat.reduceEqDiff, Nat.reduceDiv, Nat.reduceMod, Nat.reducePow, Nat.reduceBEq, Nat.reduceBNe, Int.reduceLT, Int.reduceLE, Int.reduceGT, Int.reduceGE, Int.reduceBEq, Int.reduceBNe, Int.reduceToNat, Int.reduceAdd, Int.reduceSub, Int.reduceMul, Int.reduceEq, Int.reduceNeg, reduceCtorEq, decide_true, decide_false, Bool.false_eq_true, ty3, ty4, ty5, ty9, ty22, ty23, ty24, ty38, ty40, ty43, ty27, ty28, ty74, ty75, ty52, eq24, pG, nG, fld0, fld2, hl, h2, f, lo, Nat.le_refl]
  refine Lwp.ret (post_val (v := AG out) ?_ ?_)
  · simp only [go_sem, List.isEmpty_nil, isC, eq_self, reduceIte, Nat.reduceAdd, Nat.reduceMul, Nat.reduceSub, Nat.reduceLT, Nat.reduceLeDiff, Nat.reduceEqDiff, Nat.reduceDiv, Nat.reduceMod, Nat.reducePow, Nat.reduceBEq, Nat.reduceBNe, Int.reduceLT, Int.reduceLE, Int.reduceGT, Int.reduceGE, Int.reduceBEq, Int.reduceBNe, Int.reduceToNat, Int.reduceAdd, Int.reduceSub, Int.reduceMul, Int.reduceEq, Int.reduceNeg, reduceCtorEq, decide_true, decide_false, Bool.false_eq_true, ty24, lo]
  · simp only [go_sem, List.isEmpty_nil, isC, eq_self, reduceIte, Nat.reduceAdd, Nat.reduceMul, Nat.reduceSub, Nat.reduceLT, Nat.reduceLeDiff, Nat.reduceEqDiff, Nat.reduceDiv, Nat.reduceMod, Nat.reducePow, Nat.reduceBEq, Nat.reduceBNe, Int.reduceLT, Int.reduceLE, Int.reduceGT, Int.reduceGE, Int.reduceBEq, Int.reduceBNe, Int.reduceToNat, Int.reduceAdd, Int.reduceSub, Int.reduceMul, Int.reduceEq, Int.reduceNeg, reduceCtorEq, decide_true, decide_false, Bool.false_eq_true]

noncomputable def S24 : List AV → Option Ret := nz (sumOf (fun p : Nat => match p with | x => ((dig x).length ≤ 400000)) (fun p : Nat => match p with | x => [DS (dig x)]) (fun p : Nat => match p with | x => ⟨DS (dig (x % nN)), none⟩))
theorem S24_eq (x : Nat) (h0 : (dig x).length ≤ 400000) : S24 [DS (dig x)] = some ⟨DS (dig (x % nN)), none⟩ :=
  sumOf_eq (dom := (fun p : Nat => match p with | x => ((dig x).length ≤ 400000))) (enc := (fun p : Nat => match p with | x => [DS (dig x)])) (out := (fun p : Nat => match p with | x => ⟨DS (dig (x % nN)), none⟩)) x h0 (fun y _ e => by
    simp only [List.cons.injEq, AV.agg.injEq, AV.int.injEq, AV.slc.injEq, AV.iptr.injEq, AV.bool.injEq, AV.str.injEq, ints_injEq, dig_injEq,  Int.ofNat_inj, BitVec.toNat_inj, true_and, and_true] at e
    first | with_reducible rfl | simp only [e] | rfl)
theorem S24_inv {args : List AV} {r : Ret} (h : sumOf (fun p : Nat => match p with | x => ((dig x).length ≤ 400000)) (fun p : Nat => match p with | x => [DS (dig x)]) (fun p : Nat => match p with | x => ⟨DS (dig (x % nN)), none⟩) args = some r) : ∃ (x : Nat), (((dig x).length ≤ 400000)) ∧ args = [DS (dig x)] ∧ r = ⟨DS (dig (x % nN)), none⟩ := by
  obtain ⟨x, h1, h2, h3⟩ := sumOf_inv h
  exact ⟨x, h1, h2.symm, h3⟩

set_option maxRecDepth 100000 in
theorem snd24 : SndE Tryd.prog NoG 24 S24 := by
  refine snd_nz (snd_by [(22, S22), (50, S50)] [] Tryd.func24 (by kernel_rfl) lite24 nt24 rs24 ⟨snd22, snd50, trivial⟩ trivial (fun hT args r h => ?_))
  obtain ⟨x, hd0, rfl, rfl⟩ := S24_inv h
  clear h
  have hM := hM0
  refine ⟨Nat.le_of_ble_eq_true rfl, fun F => ?_⟩
  unfold L24
  have f1 := S22_eq
  have f2 := S50_eq x nN hd0 nN_pos nN_lt
  generalize dig nN = dp at *
  refine Lwp.seq (Lwp.regI hT ?_)
  simp only [L24r0, go_sem, List.isEmpty_nil, isC, eq_self, reduceIte, Nat.reduceAdd, Nat.reduceMul, Nat.reduceSub, Nat.reduceLT, Nat.reduceLeDiff, Nat.reduceEqDiff, Nat.reduceDiv, Nat.reduceMod, Nat.reducePow, Nat.reduceBEq, Nat.reduceBNe, Int.reduceLT, Int.reduceLE, Int.reduceGT, Int.reduceGE, Int.reduceBEq, Int.reduceBNe, Int.reduceToNat, Int.reduceAdd, Int.reduceSub, Int.reduceMul, Int.reduceEq, Int.reduceNeg, reduceCtorEq, decide_true, decide_false, Bool.false_eq_true, ty3, ty4, ty5, ty9, ty22, ty23, ty24, ty38, ty40, ty43, ty27, ty28, ty74, ty75, ty52, eq24, pG, nG, fld0, fld2]
  refine Lwp.seq (Lwp.regI hT ?_)
  simp only [L24r1, go_sem, List.isEmpty_nil, isC, eq_self, reduceIte, Nat.reduceAdd, Nat.reduceMul, Nat.reduceSub, Nat.reduceLT, Nat.reduceLeDiff, Nat.reduceEqDiff, Nat.reduceDiv, Nat.reduceMod, Nat.reducePow, Nat.reduceBEq, Nat.reduceBNe, Int.reduceLT, Int.reduceLE, Int.reduceGT, Int.reduceGE, Int.reduceBEq, Int.reduceBNe, Int.reduceToNat, Int.reduceAdd, Int.reduceSub, Int.reduceMul, Int.reduceEq, Int.reduceNeg, reduceCtorEq, decide_true, decide_false, Bool.false_eq_true, ty3, ty4, ty5, ty9, ty22, ty23, ty24, ty38, ty40, ty43, ty27, ty28, ty74, ty75, ty52, eq24, pG, nG, fld0, fld2, f1, f2]
  refine Lwp.ret (post_val (v := DS (dig (x % nN))) ?_ ?_)
  · simp only [go_sem, List.isEmpty_nil, isC, eq_self, reduceIte, Nat.reduceAdd, Nat.reduceMul, Nat.reduceSub, Nat.reduceLT, Nat.reduceLeDiff, Nat.reduceEqDiff, Nat.reduceDiv, Nat.reduceMod, Nat.reducePow, Nat.reduceBEq, Nat.reduceBNe, Int.reduceLT, Int.reduceLE, Int.reduceGT, Int.reduceGE, Int.reduceBEq, Int.reduceBNe, Int.reduceToNat, Int.reduceAdd, Int.reduceSub, Int.reduceMul, Int.reduceEq, Int.reduceNeg, reduceCtorEq, decide_true, decide_false, Bool.false_eq_true]
  · simp only [go_sem, List.isEmpty_nil, isC, eq_self, reduceIte, Nat.reduceAdd, Nat.reduceMul, Nat.reduceSub, Nat.reduceLT, Nat.reduceLeDiff, Nat.reduceEqDiff, Nat.reduceDiv, Nat.reduceMod, Nat.reducePow, Nat.reduceBEq, Nat.reduceBNe, Int.reduceLT, Int.reduceLE, Int.reduceGT, Int.reduceGE, Int.reduceBEq, Int.reduceBNe, Int.reduceToNat, Int.reduceAdd, Int.reduceSub, Int.reduceMul, Int.reduceEq, Int.reduceNeg, reduceCtorEq, decide_true, decide_false, Bool.false_eq_true]

noncomputable def S20 : List AV → Option Ret := nz (sumOf (fun p : List Int × Nat => match p with | (a, x) => (U6 a) ∧ ((dig x).length ≤ 1000000)) (fun p : List Int × Nat => match p with | (a, x) => [AG a, DS (dig x)]) (fun p : List Int × Nat => match p with | (a, x) => ⟨.bool (decide (a = lim6 x)), none⟩))
theorem S20_eq (a : List Int) (x : Nat) (h0 : U6 a) (h1 : (dig x).length ≤ 1000000) : S20 [AG a, DS (dig x)] = some ⟨.bool (decide (a = lim6 x)), none⟩ :=
  sumOf_eq (dom := (fun p : List Int × Nat => match p with | (a, x) => (U6 a) ∧ ((dig x).length ≤ 1000000))) (enc := (fun p : List Int × Nat => match p with | (a, x) => [AG a, DS (dig x)])) (out := (fun p : List Int × Nat => match p with | (a, x) => ⟨.bool (decide (a = lim6 x)), none⟩)) (a, x) ⟨h0, h1⟩ (fun y _ e => by
    obtain ⟨y0, y1⟩ := y
    simp only [List.cons.injEq, AV.agg.injEq, AV.int.injEq, AV.slc.injEq, AV.iptr.injEq, AV.bool.injEq, AV.str.injEq, ints_injEq, dig_injEq,  Int.ofNat_inj, BitVec.toNat_inj, true_and, and_true] at e
    first | with_reducible rfl | simp only [e] | rfl)
theorem S20_inv {args : List AV} {r : Ret} (h : sumOf (fun p : List Int × Nat => match p with | (a, x) => (U6 a) ∧ ((dig x).length ≤ 1000000)) (fun p : List Int × Nat => match p with | (a, x) => [AG a, DS (dig x)]) (fun p : List Int × Nat => match p with | (a, x) => ⟨.bool (decide (a = lim6 x)), none⟩) args = some r) : ∃ (a : List Int) (x : Nat), ((U6 a) ∧ ((dig x).length ≤ 1000000)) ∧ args = [AG a, DS (dig x)] ∧ r = ⟨.bool (decide (a = lim6 x)), none⟩ := by
  obtain ⟨x, h1, h2, h3⟩ := sumOf_inv h
  obtain ⟨a, x⟩ := x
  exact ⟨a, x, h1, h2.symm, h3⟩

set_option maxRecDepth 100000 in
theorem snd20 : SndE Tryd.prog NoG 20 S20 := by
  refine snd_nz (snd_by [(48, S48)] [] Tryd.func20 (by kernel_rfl) lite20 nt20 rs20 ⟨snd48, trivial⟩ trivial (fun hT args r h => ?_))
  obtain ⟨a, x, ⟨hd0, hd1⟩, rfl, rfl⟩ := S20_inv h
  clear h
  have hM := hM0
  refine ⟨Nat.le_of_ble_eq_true rfl, fun F => ?_⟩
  unfold L20
  have hl := hd0.1
  have f := S48_eq x hd1
  have lo := lim6_len x
  generalize lim6 x = out at *
  refine Lwp.seq (Lwp.regI hT ?_)
  simp only [L20r0, go_sem, List.isEmpty_nil, isC, eq_self, reduceIte, Nat.reduceAdd, Nat.reduceMul, Nat.reduceSub, Nat.reduceLT, Nat.reduceLeDiff, Nat.reduceEqDiff, Nat.reduceDiv, Nat.reduceMod, Nat.reducePow, Nat.reduceBEq, Nat.reduceBNe, Int.reduceLT, Int.reduceLE, Int.reduceGT, Int.reduceGE, Int.reduceBEq, Int.reduceBNe, Int.reduceToNat, Int.reduceAdd, Int.reduceSub, Int.reduceMul, Int.reduceEq, Int.reduceNeg, reduceCtorEq, decide_true, decide_false, Bool.false_eq_true, ty3, ty4, ty5, ty9, ty22, ty23, ty24, ty38, ty40, ty43, ty27, ty28, ty74, ty75, ty52, eq24, pG, nG, fld0, fld2, hl]
  refine Lwp.seq (Lwp.regD hT hM ?_)
  simp only [L20r1, go_sem, List.isEmpty_nil, isC, eq_self, reduceIte, Nat.reduceAdd, Nat.reduceMul, Nat.reduceSub, Nat.reduceLT, Nat.reduceLeDiff, Nat.reduceEqDiff, Nat.reduceDiv, Nat.reduceMod, Nat.reducePow, Nat.reduceBEq, Nat.reduceBNe, Int.reduceLT, Int.reduceLE, Int.reduceGT, Int.reduceGE, Int.reduceBEq, Int.reduceBNe, Int.reduceToNat, Int.reduceAdd, Int.reduceSub, Int.reduceMul, Int.reduceEq, Int.reduceNeg, reduceCtorEq, decide_true, decide_false, Bool.false_eq_true, ty3, ty4, ty5, ty9, ty22, ty23, ty24, ty38, ty40, ty43, ty27, ty28, ty74, ty75, ty52, eq24, pG, nG, fld0, fld2, hl, f, lo]
  refine Lwp.ret (post_val (v := .bool (decide (a = out))) ?_ ?_)
  · simp only [go_sem, List.isEmpty_nil, isC, eq_self, reduceIte, Nat.reduceAdd, Nat.reduceMul, Nat.reduceSub, Nat.reduceLT, Nat.reduceLeDiff, Nat.reduceEqDiff, Nat.reduceDiv, Nat.reduceMod, Nat.reducePow, Nat.reduceBEq, Nat.reduceBNe, Int.reduceLT, Int.reduceLE, Int.reduceGT, Int.reduceGE, Int.reduceBEq, Int.reduceBNe, Int.reduceToNat, Int.reduceAdd, Int.reduceSub, Int.reduceMul, Int.reduceEq, Int.reduceNeg, reduceCtorEq, decide_true, decide_false, Bool.false_eq_true]
  · simp only [go_sem, List.isEmpty_nil, isC, eq_self, reduceIte, Nat.reduceAdd, Nat.reduceMul, Nat.reduceSub, Nat.reduceLT, Nat.reduceLeDiff, Nat.reduceEqDiff, Nat.reduceDiv, Nat.reduceMod, Nat.reducePow, Nat.reduceBEq, Nat.reduceBNe, Int.reduceLT, Int.reduceLE, Int.reduceGT, Int.reduceGE, Int.reduceBEq, Int.reduceBNe, Int.reduceToNat, Int.reduceAdd, Int.reduceSub, Int.reduceMul, Int.reduceEq, Int.reduceNeg, reduceCtorEq, decide_true, decide_false, Bool.false_eq_true]

noncomputable def S26 : List AV → Option Ret := nz (sumOf (fun p : List Int × List Int => match p with | (a, b) => (U6 a) ∧ (U6 b)) (fun p : List Int × List Int => match p with | (a, b) => [AG a, AG b]) (fun p : List Int × List Int => match p with | (a, b) => ⟨AG (lim6 ((v64 a + v64 b) % nN)), none⟩))
theorem S26_eq (a : List Int) (b : List Int) (h0 : U6 a) (h1 : U6 b) : S26 [AG a, AG b] = some ⟨AG (lim6 ((v64 a + v64 b) % nN)), none⟩ :=
  sumOf_eq (dom := (fun p : List Int × List Int => match p with | (a, b) => (U6 a) ∧ (U6 b))) (enc := (fun p : List Int × List Int => match p with | (a, b) => [AG a, AG b])) (out := (fun p : List Int × List Int => match p with | (a, b) => ⟨AG (lim6 ((v64 a + v64 b) % nN)), none⟩)) (a, b) ⟨h0, h1⟩ (fun y _ e => by
    obtain ⟨y0, y1⟩ := y
    simp only [List.cons.injEq, AV.agg.injEq, AV.int.injEq, AV.slc.injEq, AV.iptr.injEq, AV.bool.injEq, AV.str.injEq, ints_injEq, dig_injEq,  Int.ofNat_inj, BitVec.toNat_inj, true_and, and_true] at e
    first | with_reducible rfl | simp only [e] | rfl)
theorem S26_inv {args : List AV} {r : Ret} (h : sumOf (fun p : List Int × List Int => match p with | (a, b) => (U6 a) ∧ (U6 b)) (fun p : List Int × List Int => match p with | (a, b) => [AG a, AG b]) (fun p : List Int × List Int => match p with | (a, b) => ⟨AG (lim6 ((v64 a + v64 b) % nN)), none⟩) args = some r) : ∃ (a : List Int) (b : List Int), ((U6 a) ∧ (U6 b)) ∧ args = [AG a, AG b] ∧ r = ⟨AG (lim6 ((v64 a + v64 b) % nN)), none⟩ := by
  obtain ⟨x, h1, h2, h3⟩ := sumOf_inv h
  obtain ⟨a, b⟩ := x
  exact ⟨a, b, h1, h2.symm, h3⟩

set_option maxRecDepth 100000 in
theorem snd26 : SndG Tryd.prog nG 26 S26 := by
  refine snd_nz (sndG_by (gl := nG) [(49, S49)] [] Tryd.func26 (by kernel_rfl) lite26 nt26 rs26 ⟨(by first | exact snd49 | exact snd49.toG), trivial⟩ trivial (fun hT args r h => ?_))
  obtain ⟨a, b, ⟨hd0, hd1⟩, rfl, rfl⟩ := S26_inv h
  clear h
  have hM := hM0
  refine ⟨Nat.le_of_ble_eq_true rfl, fun F => ?_⟩
  unfold L26
  have hl := hd0.1
  have hl1 := hd1.1
  have h2 := nD_len
  have f := S49_eq a b nD hd0 hd1 nD_mod
  rw [nD_take, ← nN_eq] at f
  have lo := lim6_len ((v64 a + v64 b) % nN)
  generalize lim6 ((v64 a + v64 b) % nN) = out at *
  refine Lwp.seq (Lwp.regI hT ?_)
  simp only [L26r0, go_sem, List.isEmpty_nil, isC, eq_self, reduceIte, Nat.reduceAdd, Nat.reduceMul, Nat.reduceSub, Nat.reduceLT, Nat.reduceLeDiff, Nat.reduceEqDiff, Nat.reduceDiv, Nat.reduceMod, Nat.reducePow, Nat.reduceBEq, Nat.reduceBNe, Int.reduceLT, Int.reduceLE, Int.reduceGT, Int.reduceGE, Int.reduceBEq, Int.reduceBNe, Int.reduceToNat, Int.reduceAdd, Int.reduceSub, Int.reduceMul, Int.reduceEq, Int.reduceNeg, reduceCtorEq, decide_true, decide_false, Bool.false_eq_true, ty3, ty4, ty5, ty9, ty22, ty23, ty24, ty38, ty40, ty43, ty27, ty28, ty74, ty75, ty52, eq24, pG, nG, fld0, fld2, hl, hl1]
  refine Lwp.seq (Lwp.regI hT ?_)
  simp only [L26r1, go_sem, List.isEmpty_nil, isC, eq_self, reduceIte, Nat.reduceAdd, Nat.reduceMul, Nat.reduceSub, Nat.reduceLT, Nat.reduceLeDiff, Nat.reduceEqDiff, Nat.reduceDiv, Nat.reduceMod, Nat.reducePow, Nat.reduceBEq, Nat.reduceBNe, Int.reduceLT, Int.reduceLE, Int.reduceGT, Int.reduceGE, Int.reduceBEq, Int.reduceBNe, Int.reduceToNat, Int.reduceAdd, Int.reduceSub, Int.reduceMul, Int.reduceEq, Int.reduceNeg, reduceCtorEq, decide_true, decide_false, Bool.false_eq_true, ty3, ty4, ty5, ty9, ty22, ty23, ty24, ty38, ty40, ty43, ty27, ty28, ty74, ty75, ty52, eq24, pG, nG, fld0, fld2, hl, hl1, h2, f, lo, Nat.le_refl]
  refine Lwp.ret (post_val (v := AG out) ?_ ?_)
  · simp only [go_sem, List.isEmpty_nil, isC, eq_self, reduceIte, Nat.reduceAdd, Nat.reduceMul, Nat.reduceSub, Nat.reduceLT, Nat.reduceLeDiff, Nat.reduceEqDiff, Nat.reduceDiv, Nat.reduceMod, Nat.reducePow, Nat.reduceBEq, Nat.reduceBNe, Int.reduceLT, Int.reduceLE, Int.reduceGT, Int.reduceGE, Int.reduceBEq, Int.reduceBNe, Int.reduceToNat, Int.reduceAdd, Int.reduceSub, Int.reduceMul, Int.reduceEq, Int.reduceNeg, reduceCtorEq, decide_true, decide_false, Bool.false_eq_true, ty24, lo]
  · simp only [go_sem, List.isEmpty_nil, isC, eq_self, reduceIte, Nat.reduceAdd, Nat.reduceMul, Nat.reduceSub, Nat.reduceLT, Nat.reduceLeDiff, Nat.reduceEqDiff, Nat.reduceDiv, Nat.reduceMod, Nat.reducePow, Nat.reduceBEq, Nat.reduceBNe, Int.reduceLT, Int.reduceLE, Int.reduceGT, Int.reduceGE, Int.reduceBEq, Int.reduceBNe, Int.reduceToNat, Int.reduceAdd, Int.reduceSub, Int.reduceMul, Int.reduceEq, Int.reduceNeg, reduceCtorEq, decide_true, decide_false, Bool.false_eq_true]

theorem five_set : (List.replicate 6 (0 : Int)).set 0 5 = [5, 0, 0, 0, 0, 0] := rfl
theorem five_U6 : U6 [5, 0, 0, 0, 0, 0] := ⟨rfl, by decide⟩
theorem five_val : lim6 ((v64 nL + v64 [5, 0, 0, 0, 0, 0]) % nN) = [5, 0, 0, 0, 0, 0] := by
  rw [← nN_eq, show v64 [5, 0, 0, 0, 0, 0] = 5 by decide, Nat.add_mod_left, Nat.mod_eq_of_lt (show 5 < nN by rw [nN_eq, nL_eq]; decide)]
  decide
noncomputable def S28 : List AV → Option Ret := nz (sumOf (fun p : Unit => match p with | () => True) (fun p : Unit => match p with | () => []) (fun p : Unit => match p with | () => ⟨.bool true, none⟩))
theorem S28_eq  : S28 [] = some ⟨.bool true, none⟩ :=
  sumOf_eq (dom := (fun p : Unit => match p with | () => True)) (enc := (fun p : Unit => match p with | () => [])) (out := (fun p : Unit => match p with | () => ⟨.bool true, none⟩)) () trivial (fun y _ e => by
    rfl)
theorem S28_inv {args : List AV} {r : Ret} (h : sumOf (fun p : Unit => match p with | () => True) (fun p : Unit => match p with | () => []) (fun p : Unit => match p with | () => ⟨.bool true, none⟩) args = some r) : (True) ∧ args = [] ∧ r = ⟨.bool true, none⟩ := by
  obtain ⟨x, h1, h2, h3⟩ := sumOf_inv h
  exact ⟨h1, h2.symm, h3⟩

set_option maxRecDepth 100000 in
theorem snd28 : SndG Tryd.prog nG 28 S28 := by
  refine snd_nz (sndG_by (gl := nG) [(21, S21), (26, S26)] [] Tryd.func28 (by kernel_rfl) lite28 nt28 rs28 ⟨(by first | exact snd21 | exact snd21.toG), (by first | exact snd26 | exact snd26.toG), trivial⟩ trivial (fun hT args r h => ?_))
  obtain ⟨_, rfl, rfl⟩ := S28_inv h
  clear h
  have hM := hM0
  refine ⟨Nat.le_of_ble_eq_true rfl, fun F => ?_⟩
  unfold L28
  have f1 := S21_eq
  have f2 := S26_eq nL [5, 0, 0, 0, 0, 0] nL_good.1 five_U6
  rw [five_val] at f2
  have hs := five_set
  have hl := nL_good.1.1
  have lo : ([5, 0, 0, 0, 0, 0] : List Int).length = 6 := rfl
  generalize ([5, 0, 0, 0, 0, 0] : List Int) = out at *
  refine Lwp.seq (Lwp.regI hT ?_)
  simp only [L28r0, go_sem, List.isEmpty_nil, isC, eq_self, reduceIte, Nat.reduceAdd, Nat.reduceMul, Nat.reduceSub, Nat.reduceLT, Nat.reduceLeDiff, Nat.reduceEqDiff, Nat.reduceDiv, Nat.reduceMod, Nat.reducePow, Nat.reduceBEq, Nat.reduceBNe, Int.reduceLT, Int.reduceLE, Int.reduceGT, Int.reduceGE, Int.reduceBEq, Int.reduceBNe, Int.reduceToNat, Int.reduceAdd, Int.reduceSub, Int.reduceMul, Int.reduceEq, Int.reduceNeg, reduceCtorEq, decide_true, decide_false, Bool.false_eq_true, ty3, ty4, ty5, ty9, ty22, ty23, ty24, ty38, ty40, ty43, ty27, ty28, ty74, ty75, ty52, eq24, pG, nG, fld0, fld2]
  refine Lwp.seq (Lwp.regI hT ?_)
  simp only [L28r1, go_sem, List.isEmpty_nil, isC, eq_self, reduceIte, Nat.reduceAdd, Nat.reduceMul, Nat.reduceSub, Nat.reduceLT, Nat.reduceLeDiff, Nat.reduceEqDiff, Nat.reduceDiv, Nat.reduceMod, Nat.reducePow, Nat.reduceBEq, Nat.reduceBNe, Int.reduceLT, Int.reduceLE, Int.reduceGT, Int.reduceGE, Int.reduceBEq, Int.reduceBNe, Int.reduceToNat, Int.reduceAdd, Int.reduceSub, Int.reduceMul, Int.reduceEq, Int.reduceNeg, reduceCtorEq, decide_true, decide_false, Bool.false_eq_true, ty3, ty4, ty5, ty9, ty22, ty23, ty24, ty38, ty40, ty43, ty27, ty28, ty74, ty75, ty52, eq24, pG, nG, fld0, fld2, f1, f2, hs, hl, lo]
  refine Lwp.ret (post_val (v := .bool true) ?_ ?_)
  · simp only [go_sem, List.isEmpty_nil, isC, eq_self, reduceIte, Nat.reduceAdd, Nat.reduceMul, Nat.reduceSub, Nat.reduceLT, Nat.reduceLeDiff, Nat.reduceEqDiff, Nat.reduceDiv, Nat.reduceMod, Nat.reducePow, Nat.reduceBEq, Nat.reduceBNe, Int.reduceLT, Int.reduceLE, Int.reduceGT, Int.reduceGE, Int.reduceBEq, Int.reduceBNe, Int.reduceToNat, Int.reduceAdd, Int.reduceSub, Int.reduceMul, Int.reduceEq, Int.reduceNeg, reduceCtorEq, decide_true, decide_false, Bool.false_eq_true]
  · simp only [go_sem, List.isEmpty_nil, isC, eq_self, reduceIte, Nat.reduceAdd, Nat.reduceMul, Nat.reduceSub, Nat.reduceLT, Nat.reduceLeDiff, Nat.reduceEqDiff, Nat.reduceDiv, Nat.reduceMod, Nat.reducePow, Nat.reduceBEq, Nat.reduceBNe, Int.reduceLT, Int.reduceLE, Int.reduceGT, Int.reduceGE, Int.reduceBEq, Int.reduceBNe, Int.reduceToNat, Int.reduceAdd, Int.reduceSub, Int.reduceMul, Int.reduceEq, Int.reduceNeg, reduceCtorEq, decide_true, decide_false, Bool.false_eq_true]


end Eng


namespace Eng
open Go Go.Proofs
set_option linter.unusedSimpArgs false
set_option linter.unusedVariables false
theorem dig_nil : dig 0 = [] := dig_zero
theorem lim6_nil : lim6 0 = List.replicate 6 0 := by decide

end Eng


namespace Eng
/-! Prime numbers: Fermat's little theorem, Pocklington's criterion. -/
def Pr (n : Nat) : Prop := 2 ≤ n ∧ ∀ d, d ∣ n → d = 1 ∨ d = n
theorem Pr.cop {r a : Nat} (h : Pr r) (ha : ¬ r ∣ a) : Nat.Coprime r a := by
  rcases h.2 _ (Nat.gcd_dvd_left r a) with h1 | h1
  · exact h1
  · exact absurd (h1 ▸ Nat.gcd_dvd_right r a) ha
theorem Pr.mul {r a b : Nat} (h : Pr r) (hd : r ∣ a * b) : r ∣ a ∨ r ∣ b := by
  by_cases ha : r ∣ a
  · exact .inl ha
  · exact .inr ((h.cop ha).dvd_of_dvd_mul_left hd)
end Eng


namespace Eng
open Go Go.Proofs
set_option linter.unusedSimpArgs false
set_option linter.unusedVariables false
theorem lim6_inj {x y : Nat} (hx : x < 18446744073709551616 ^ 6) (hy : y < 18446744073709551616 ^ 6) (h : lim6 x = lim6 y) : x = y := by
  rw [← v64_lim6 hx, ← v64_lim6 hy, h]
theorem dec_zero {x : Nat} (hx : x < 18446744073709551616 ^ 6) : decide (lim6 x = List.replicate 6 0) = decide (x = 0) := by
  by_cases h : x = 0
  · subst h; rw [lim6_nil]; simp
  · rw [decide_eq_false h, decide_eq_false]
    rw [← lim6_nil]
    exact fun e => h (lim6_inj hx (by decide) e)

end Eng

