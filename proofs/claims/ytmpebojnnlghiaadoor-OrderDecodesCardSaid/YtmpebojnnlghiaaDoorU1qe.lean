/- Contracts of the program's functions, and laws over them. There is no further condition. -/
import Derived.Test.YtmpebojnnlghiaaDoorU0qe
import Derived.Test.YtmpebojnnlghiaaDoorED
set_option linter.unusedVariables false
set_option linter.unusedSimpArgs false
set_option exponentiation.threshold 2000
namespace Eng
open Go Go.Proofs
set_option linter.unusedSimpArgs false
set_option linter.unusedVariables false
theorem S53_low {i n : Nat} (hi : i ≤ 1099511627776) (h : n < 4294967296 ^ i) : S53 [.slc i (ints .u64 (low i n))] = some ⟨.slc (dig (n)).length (ints .u64 (dig (n))), none⟩ := by
  have := S53_eq (low i n) (low_D32 i n) (by rw [low_len]; exact hi)
  rw [low_len, dig_low h] at this
  exact this

noncomputable def S27 : List AV → Option Ret := nz (sumOf (fun p : Nat × Nat => match p with | (x, y) => ((dig x).length ≤ 1000000) ∧ ((dig y).length ≤ 1000000)) (fun p : Nat × Nat => match p with | (x, y) => [.slc (dig (x)).length (ints .u64 (dig (x))), .slc (dig (y)).length (ints .u64 (dig (y)))]) (fun p : Nat × Nat => match p with | (x, y) => ⟨.slc (dig (x + y)).length (ints .u64 (dig (x + y))), none⟩))
theorem S27_eq (x : Nat) (y : Nat) (h0 : (dig x).length ≤ 1000000) (h1 : (dig y).length ≤ 1000000) : S27 [.slc (dig (x)).length (ints .u64 (dig (x))), .slc (dig (y)).length (ints .u64 (dig (y)))] = some ⟨.slc (dig (x + y)).length (ints .u64 (dig (x + y))), none⟩ :=
  sumOf_eq (dom := (fun p : Nat × Nat => match p with | (x, y) => ((dig x).length ≤ 1000000) ∧ ((dig y).length ≤ 1000000))) (enc := (fun p : Nat × Nat => match p with | (x, y) => [.slc (dig (x)).length (ints .u64 (dig (x))), .slc (dig (y)).length (ints .u64 (dig (y)))])) (out := (fun p : Nat × Nat => match p with | (x, y) => ⟨.slc (dig (x + y)).length (ints .u64 (dig (x + y))), none⟩)) (x, y) ⟨h0, h1⟩ (fun y _ e => by
    obtain ⟨y0, y1⟩ := y
    simp only [List.cons.injEq, AV.agg.injEq, AV.int.injEq, AV.slc.injEq, AV.iptr.injEq, AV.bool.injEq, AV.str.injEq, ints_injEq, dig_injEq,  Int.ofNat_inj, BitVec.toNat_inj, true_and, and_true] at e
    first | with_reducible rfl | simp only [e] | rfl)
theorem S27_inv {args : List AV} {r : Ret} (h : sumOf (fun p : Nat × Nat => match p with | (x, y) => ((dig x).length ≤ 1000000) ∧ ((dig y).length ≤ 1000000)) (fun p : Nat × Nat => match p with | (x, y) => [.slc (dig (x)).length (ints .u64 (dig (x))), .slc (dig (y)).length (ints .u64 (dig (y)))]) (fun p : Nat × Nat => match p with | (x, y) => ⟨.slc (dig (x + y)).length (ints .u64 (dig (x + y))), none⟩) args = some r) : ∃ (x : Nat) (y : Nat), (((dig x).length ≤ 1000000) ∧ ((dig y).length ≤ 1000000)) ∧ args = [.slc (dig (x)).length (ints .u64 (dig (x))), .slc (dig (y)).length (ints .u64 (dig (y)))] ∧ r = ⟨.slc (dig (x + y)).length (ints .u64 (dig (x + y))), none⟩ := by
  obtain ⟨x, h1, h2, h3⟩ := sumOf_inv h
  obtain ⟨x, y⟩ := x
  exact ⟨x, y, h1, h2.symm, h3⟩


theorem sum_lt {x y i : Nat} (hx : (dig x).length ≤ i) (hy : (dig y).length ≤ i) (hc : (x % 4294967296 ^ i + y % 4294967296 ^ i) / 4294967296 ^ i = 0) : x + y < 4294967296 ^ i := by
  rw [dig_len_le] at hx hy
  rw [Nat.mod_eq_of_lt hx, Nat.mod_eq_of_lt hy] at hc
  have hp : 0 < 4294967296 ^ i := Nat.pow_pos (by decide)
  rcases Nat.div_eq_zero_iff.1 hc with h | h
  · omega
  · exact h
theorem car_le (B x y i : Nat) (hB : 0 < B) : (x % B ^ i + y % B ^ i) / B ^ i ≤ 1 := by
  have hp : 0 < B ^ i := Nat.pow_pos hB
  have h1 := Nat.mod_lt x hp
  have h2 := Nat.mod_lt y hp
  have : (x % B ^ i + y % B ^ i) / B ^ i < 2 := by
    rw [Nat.div_lt_iff_lt_mul hp]; omega
  omega
theorem car_end {x y : Nat} {i : Nat} (hx : (dig x).length < i) (hy : (dig y).length < i) : (x % 4294967296 ^ i + y % 4294967296 ^ i) / 4294967296 ^ i = 0 := by
  have h1 := (dig_len_le x (i - 1)).1 (by omega)
  have h2 := (dig_len_le y (i - 1)).1 (by omega)
  obtain ⟨j, rfl⟩ : ∃ j, i = j + 1 := ⟨i - 1, by omega⟩
  simp only [Nat.add_sub_cancel] at h1 h2
  have e : 4294967296 ^ (j + 1) = 4294967296 ^ j * 4294967296 := Nat.pow_succ ..
  rw [Nat.mod_eq_of_lt (by omega), Nat.mod_eq_of_lt (by omega)]
  exact Nat.div_eq_of_lt (by omega)

def St30 (x y i : Nat) : AState := { nt := 43, env := [(0, .slc (dig (x)).length (ints .u64 (dig (x)))), (1, .slc (dig (y)).length (ints .u64 (dig (y)))), (5, .osl 50 0 i 1), (6, .int .u64 (((x % 4294967296 ^ i + y % 4294967296 ^ i) / 4294967296 ^ i : Nat) : Int)), (7, .int .i64 i)], mem := [(50, ints .u64 (low i (x + y)))], next := 60 }

set_option maxRecDepth 100000 in
theorem snd27 : SndE Tryd.prog NoG 27 S27 := by
  refine snd_nz (snd_by [(53, S53), (52, S52)] [] Tryd.func27 (by kernel_rfl) lite27 nt27 rs27 ⟨snd53, snd52, trivial⟩ trivial (fun hT args r h => ?_))
  obtain ⟨x, y, ⟨hd0, hd1⟩, rfl, rfl⟩ := S27_inv h
  clear h
  have hM := hM0
  refine ⟨Nat.le_of_ble_eq_true rfl, fun F => ?_⟩
  unfold L27
  refine Lwp.seq (Lwp.regI hT ?_)
  simp only [L27r0, go_sem, List.isEmpty_nil, isC, eq_self, reduceIte, Nat.reduceAdd, Nat.reduceMul, Nat.reduceSub, Nat.reduceLT, Nat.reduceLeDiff, Nat.reduceEqDiff, Nat.reduceDiv, Nat.reduceMod, Nat.reducePow, Nat.reduceBEq, Nat.reduceBNe, Int.reduceLT, Int.reduceLE, Int.reduceGT, Int.reduceGE, Int.reduceBEq, Int.reduceBNe, Int.reduceToNat, Int.reduceAdd, Int.reduceSub, Int.reduceMul, Int.reduceEq, Int.reduceNeg, reduceCtorEq, decide_true, decide_false, Bool.false_eq_true, ty3, ty4, ty22, ty23, ty24, ty27, ty28, eq24]
  refine Lwp.seq (Lwp.regI hT ?_)
  simp only [L27r1, go_sem, List.isEmpty_nil, isC, eq_self, reduceIte, Nat.reduceAdd, Nat.reduceMul, Nat.reduceSub, Nat.reduceLT, Nat.reduceLeDiff, Nat.reduceEqDiff, Nat.reduceDiv, Nat.reduceMod, Nat.reducePow, Nat.reduceBEq, Nat.reduceBNe, Int.reduceLT, Int.reduceLE, Int.reduceGT, Int.reduceGE, Int.reduceBEq, Int.reduceBNe, Int.reduceToNat, Int.reduceAdd, Int.reduceSub, Int.reduceMul, Int.reduceEq, Int.reduceNeg, reduceCtorEq, decide_true, decide_false, Bool.false_eq_true, ty3, ty4, ty22, ty23, ty24, ty27, ty28, eq24]
  refine Lwp.seq (Lwp.regI hT ?_)
  simp only [L27r2, go_sem, List.isEmpty_nil, isC, eq_self, reduceIte, Nat.reduceAdd, Nat.reduceMul, Nat.reduceSub, Nat.reduceLT, Nat.reduceLeDiff, Nat.reduceEqDiff, Nat.reduceDiv, Nat.reduceMod, Nat.reducePow, Nat.reduceBEq, Nat.reduceBNe, Int.reduceLT, Int.reduceLE, Int.reduceGT, Int.reduceGE, Int.reduceBEq, Int.reduceBNe, Int.reduceToNat, Int.reduceAdd, Int.reduceSub, Int.reduceMul, Int.reduceEq, Int.reduceNeg, reduceCtorEq, decide_true, decide_false, Bool.false_eq_true, ty3, ty4, ty22, ty23, ty24, ty27, ty28, eq24]
  refine Lwp.seq (Lwp.seq (Lwp.region hT ?_))
  simp only [L27r3, go_sem, List.isEmpty_nil, isC, eq_self, reduceIte, Nat.reduceAdd, Nat.reduceMul, Nat.reduceSub, Nat.reduceLT, Nat.reduceLeDiff, Nat.reduceEqDiff, Nat.reduceDiv, Nat.reduceMod, Nat.reducePow, Nat.reduceBEq, Nat.reduceBNe, Int.reduceLT, Int.reduceLE, Int.reduceGT, Int.reduceGE, Int.reduceBEq, Int.reduceBNe, Int.reduceToNat, Int.reduceAdd, Int.reduceSub, Int.reduceMul, Int.reduceEq, Int.reduceNeg, reduceCtorEq, decide_true, decide_false, Bool.false_eq_true, ty3]
  refine Lwp.block (Lwp.whl (St30 x y) (fun i => i ≤ 1000001) (fun i => 1000001 - i) 0 (Nat.zero_le _) ?_ ?_)
  · refine Weak.trans (weak_nil (t := 5) (id := 50) (sz := 1) rfl rfl) ?_
    refine weak_of rfl ?_ ?_ ?_
    · (simp only [go_sem, List.isEmpty_nil, isC, eq_self, reduceIte, Nat.reduceAdd, Nat.reduceMul, Nat.reduceSub, Nat.reduceLT, Nat.reduceLeDiff, Nat.reduceEqDiff, Nat.reduceDiv, Nat.reduceMod, Nat.reducePow, Nat.reduceBEq, Nat.reduceBNe, Int.reduceLT, Int.reduceLE, Int.reduceGT, Int.reduceGE, Int.reduceBEq, Int.reduceBNe, Int.reduceToNat, Int.reduceAdd, Int.reduceSub, Int.reduceMul, Int.reduceEq, Int.reduceNeg, reduceCtorEq, decide_true, decide_false, Bool.false_eq_true, St30, Nat.pow_zero, Nat.mod_one, Nat.div_one]; try rfl)
    · (simp only [go_sem, List.isEmpty_nil, isC, eq_self, reduceIte, Nat.reduceAdd, Nat.reduceMul, Nat.reduceSub, Nat.reduceLT, Nat.reduceLeDiff, Nat.reduceEqDiff, Nat.reduceDiv, Nat.reduceMod, Nat.reducePow, Nat.reduceBEq, Nat.reduceBNe, Int.reduceLT, Int.reduceLE, Int.reduceGT, Int.reduceGE, Int.reduceBEq, Int.reduceBNe, Int.reduceToNat, Int.reduceAdd, Int.reduceSub, Int.reduceMul, Int.reduceEq, Int.reduceNeg, reduceCtorEq, decide_true, decide_false, Bool.false_eq_true, St30, Nat.pow_zero, Nat.mod_one, Nat.div_one]; try rfl)
    · (simp only [go_sem, List.isEmpty_nil, isC, eq_self, reduceIte, Nat.reduceAdd, Nat.reduceMul, Nat.reduceSub, Nat.reduceLT, Nat.reduceLeDiff, Nat.reduceEqDiff, Nat.reduceDiv, Nat.reduceMod, Nat.reducePow, Nat.reduceBEq, Nat.reduceBNe, Int.reduceLT, Int.reduceLE, Int.reduceGT, Int.reduceGE, Int.reduceBEq, Int.reduceBNe, Int.reduceToNat, Int.reduceAdd, Int.reduceSub, Int.reduceMul, Int.reduceEq, Int.reduceNeg, reduceCtorEq, decide_true, decide_false, Bool.false_eq_true, St30, Nat.pow_zero, Nat.mod_one, Nat.div_one]; try rfl)
  · intro i hi
    have cl := car_le 4294967296 x y i (by decide)
    have cs := add_car 4294967296 x y i (by decide)
    have ds := add_dig 4294967296 x y i (by decide)
    have gx := dig_getD x i
    have gy := dig_getD y i
    have ce := @car_end x y i
    have cn := @sum_lt x y i
    have t1 : (dig x).length ≤ 1099511627776 := by omega
    have t2 : (dig y).length ≤ 1099511627776 := by omega
    have fx := S52_eq (dig x) i t1
    have fy := S52_eq (dig y) i t2
    generalize hc : (x % 4294967296 ^ i + y % 4294967296 ^ i) / 4294967296 ^ i = c at *
    have b1 : IntKind.u64.wrap ((dig x).getD i 0 + (dig y).getD i 0) = (dig x).getD i 0 + (dig y).getD i 0 := wrap_u64 (by omega) (by omega)
    have b2 : IntKind.u64.wrap ((dig x).getD i 0 + (dig y).getD i 0 + (c : Int)) = (dig x).getD i 0 + (dig y).getD i 0 + (c : Int) := wrap_u64 (by omega) (by omega)
    have b3 : ((dig x).getD i 0 + (dig y).getD i 0 + (c : Int)).tmod 4294967296 = (((x + y) / 4294967296 ^ i % 4294967296 : Nat) : Int) := by
      rw [Int.tmod_eq_emod_of_nonneg (by omega), ds, gx, gy]; omega
    have b4 : IntKind.u64.wrap (((dig x).getD i 0 + (dig y).getD i 0 + (c : Int)).tdiv 4294967296) = (((x % 4294967296 ^ (i + 1) + y % 4294967296 ^ (i + 1)) / 4294967296 ^ (i + 1) : Nat) : Int) := by
      rw [Int.tdiv_eq_ediv_of_nonneg (by omega), cs, gx, gy, wrap_u64 (by omega) (by omega)]; omega
    have body : i ≤ 1000000 → ∀ Q : AE → AState → Prop, (∀ st', Weak (tb Tryd.prog [(53, S53), (52, S52)] []) F st' (St30 x y (i + 1)) → Q .normal st') →
        Lwp okDraw (tb Tryd.prog [(53, S53), (52, S52)] []) F (.seq (.block 1 (.seq (.region L27r6) (.seq (.region L27r7) (.region L27r8)))) (.region L27r5)) Q (St30 x y i) := by
      intro hi1 Q hQ
      unfold St30
      rw [hc]
      have a3 := wrap_succ' (n := i) (by omega)
      have a4 : (i + 1) * 8 ≤ 140737488355328 := by omega
      refine Lwp.seq (Lwp.block ?_)
      refine Lwp.seq (Lwp.regI hT ?_)
      simp only [L27r6, go_sem, List.isEmpty_nil, isC, eq_self, reduceIte, Nat.reduceAdd, Nat.reduceMul, Nat.reduceSub, Nat.reduceLT, Nat.reduceLeDiff, Nat.reduceEqDiff, Nat.reduceDiv, Nat.reduceMod, Nat.reducePow, Nat.reduceBEq, Nat.reduceBNe, Int.reduceLT, Int.reduceLE, Int.reduceGT, Int.reduceGE, Int.reduceBEq, Int.reduceBNe, Int.reduceToNat, Int.reduceAdd, Int.reduceSub, Int.reduceMul, Int.reduceEq, Int.reduceNeg, reduceCtorEq, decide_true, decide_false, Bool.false_eq_true, ty3, ty4, ty22, ty23, ty24, ty27, ty28, eq24, fx, fy, b1, b2]
      refine Lwp.seq (Lwp.regI hT ?_)
      simp only [L27r7, go_sem, List.isEmpty_nil, isC, eq_self, reduceIte, Nat.reduceAdd, Nat.reduceMul, Nat.reduceSub, Nat.reduceLT, Nat.reduceLeDiff, Nat.reduceEqDiff, Nat.reduceDiv, Nat.reduceMod, Nat.reducePow, Nat.reduceBEq, Nat.reduceBNe, Int.reduceLT, Int.reduceLE, Int.reduceGT, Int.reduceGE, Int.reduceBEq, Int.reduceBNe, Int.reduceToNat, Int.reduceAdd, Int.reduceSub, Int.reduceMul, Int.reduceEq, Int.reduceNeg, reduceCtorEq, decide_true, decide_false, Bool.false_eq_true, ty3, ty4, ty22, ty23, ty24, ty27, ty28, eq24, a4, b3, low_len]
      refine Lwp.regI hT ?_
      simp only [L27r8, go_sem, List.isEmpty_nil, isC, eq_self, reduceIte, Nat.reduceAdd, Nat.reduceMul, Nat.reduceSub, Nat.reduceLT, Nat.reduceLeDiff, Nat.reduceEqDiff, Nat.reduceDiv, Nat.reduceMod, Nat.reducePow, Nat.reduceBEq, Nat.reduceBNe, Int.reduceLT, Int.reduceLE, Int.reduceGT, Int.reduceGE, Int.reduceBEq, Int.reduceBNe, Int.reduceToNat, Int.reduceAdd, Int.reduceSub, Int.reduceMul, Int.reduceEq, Int.reduceNeg, reduceCtorEq, decide_true, decide_false, Bool.false_eq_true, ty3, ty4, ty22, ty23, ty24, ty27, ty28, eq24, b4]
      refine Lwp.regI hT ?_
      simp only [L27r5, go_sem, List.isEmpty_nil, isC, eq_self, reduceIte, Nat.reduceAdd, Nat.reduceMul, Nat.reduceSub, Nat.reduceLT, Nat.reduceLeDiff, Nat.reduceEqDiff, Nat.reduceDiv, Nat.reduceMod, Nat.reducePow, Nat.reduceBEq, Nat.reduceBNe, Int.reduceLT, Int.reduceLE, Int.reduceGT, Int.reduceGE, Int.reduceBEq, Int.reduceBNe, Int.reduceToNat, Int.reduceAdd, Int.reduceSub, Int.reduceMul, Int.reduceEq, Int.reduceNeg, reduceCtorEq, decide_true, decide_false, Bool.false_eq_true, ty3, ty4, ty22, ty23, ty24, ty27, ty28, eq24, a3]
      refine hQ _ ?_
      refine weak_of rfl ?_ ?_ ?_
      · (simp only [go_sem, List.isEmpty_nil, isC, eq_self, reduceIte, Nat.reduceAdd, Nat.reduceMul, Nat.reduceSub, Nat.reduceLT, Nat.reduceLeDiff, Nat.reduceEqDiff, Nat.reduceDiv, Nat.reduceMod, Nat.reducePow, Nat.reduceBEq, Nat.reduceBNe, Int.reduceLT, Int.reduceLE, Int.reduceGT, Int.reduceGE, Int.reduceBEq, Int.reduceBNe, Int.reduceToNat, Int.reduceAdd, Int.reduceSub, Int.reduceMul, Int.reduceEq, Int.reduceNeg, reduceCtorEq, decide_true, decide_false, Bool.false_eq_true, St30, low_succ]; try rfl)
      · (simp only [go_sem, List.isEmpty_nil, isC, eq_self, reduceIte, Nat.reduceAdd, Nat.reduceMul, Nat.reduceSub, Nat.reduceLT, Nat.reduceLeDiff, Nat.reduceEqDiff, Nat.reduceDiv, Nat.reduceMod, Nat.reducePow, Nat.reduceBEq, Nat.reduceBNe, Int.reduceLT, Int.reduceLE, Int.reduceGT, Int.reduceGE, Int.reduceBEq, Int.reduceBNe, Int.reduceToNat, Int.reduceAdd, Int.reduceSub, Int.reduceMul, Int.reduceEq, Int.reduceNeg, reduceCtorEq, decide_true, decide_false, Bool.false_eq_true, St30, low_succ]; try rfl)
      · (simp only [go_sem, List.isEmpty_nil, isC, eq_self, reduceIte, Nat.reduceAdd, Nat.reduceMul, Nat.reduceSub, Nat.reduceLT, Nat.reduceLeDiff, Nat.reduceEqDiff, Nat.reduceDiv, Nat.reduceMod, Nat.reducePow, Nat.reduceBEq, Nat.reduceBNe, Int.reduceLT, Int.reduceLE, Int.reduceGT, Int.reduceGE, Int.reduceBEq, Int.reduceBNe, Int.reduceToNat, Int.reduceAdd, Int.reduceSub, Int.reduceMul, Int.reduceEq, Int.reduceNeg, reduceCtorEq, decide_true, decide_false, Bool.false_eq_true, St30, low_succ]; try rfl)
    refine Lwp.seq (Lwp.seq (Lwp.region hT ?_))
    have go : i ≤ 1000000 → ∀ st, Weak (tb Tryd.prog [(53, S53), (52, S52)] []) F st (St30 x y i) → Lwp okDraw (tb Tryd.prog [(53, S53), (52, S52)] []) F (.seq (.block 1 (.seq (.region L27r6) (.seq (.region L27r7) (.region L27r8)))) (.region L27r5)) (AE.then (fun st' => ∃ b, b ≤ 1000001 ∧ 1000001 - b < 1000001 - i ∧ Weak (tb Tryd.prog [(53, S53), (52, S52)] []) F st' (St30 x y b)) (AE.inBlock 0 (AE.then (Lwp okDraw (tb Tryd.prog [(53, S53), (52, S52)] []) F ((LC.region L27r9).seq LC.ret) (Post (tb Tryd.prog [(53, S53), (52, S52)] []) [ResultVar.tmp 4] { v := .slc (dig (x + y)).length (ints .u64 (dig (x + y))) })) (Post (tb Tryd.prog [(53, S53), (52, S52)] []) [ResultVar.tmp 4] { v := .slc (dig (x + y)).length (ints .u64 (dig (x + y))) })))) st :=
      fun h st hw => Lwp.weaken hw (body h _ (fun st' h' => ⟨i + 1, by omega, by omega, h'⟩))
    by_cases h1 : i < (dig x).length
    · have d1 : (i : Int) < (dig x).length := by omega
      simp only [L27r4, St30, hc, go_sem, List.isEmpty_nil, isC, eq_self, reduceIte, Nat.reduceAdd, Nat.reduceMul, Nat.reduceSub, Nat.reduceLT, Nat.reduceLeDiff, Nat.reduceEqDiff, Nat.reduceDiv, Nat.reduceMod, Nat.reducePow, Nat.reduceBEq, Nat.reduceBNe, Int.reduceLT, Int.reduceLE, Int.reduceGT, Int.reduceGE, Int.reduceBEq, Int.reduceBNe, Int.reduceToNat, Int.reduceAdd, Int.reduceSub, Int.reduceMul, Int.reduceEq, Int.reduceNeg, reduceCtorEq, decide_true, decide_false, Bool.false_eq_true, ty3, ty22, ty28, d1]
      refine Lwp.cond rfl (fun _ => Lwp.skip ?_) (fun h => by cases h)
      simp only [go_sem, List.isEmpty_nil, isC, eq_self, reduceIte, Nat.reduceAdd, Nat.reduceMul, Nat.reduceSub, Nat.reduceLT, Nat.reduceLeDiff, Nat.reduceEqDiff, Nat.reduceDiv, Nat.reduceMod, Nat.reducePow, Nat.reduceBEq, Nat.reduceBNe, Int.reduceLT, Int.reduceLE, Int.reduceGT, Int.reduceGE, Int.reduceBEq, Int.reduceBNe, Int.reduceToNat, Int.reduceAdd, Int.reduceSub, Int.reduceMul, Int.reduceEq, Int.reduceNeg, reduceCtorEq, decide_true, decide_false, Bool.false_eq_true]
      refine go (by omega) _ ?_
      refine weak_of rfl ?_ ?_ ?_
      · (simp only [go_sem, List.isEmpty_nil, isC, eq_self, reduceIte, Nat.reduceAdd, Nat.reduceMul, Nat.reduceSub, Nat.reduceLT, Nat.reduceLeDiff, Nat.reduceEqDiff, Nat.reduceDiv, Nat.reduceMod, Nat.reducePow, Nat.reduceBEq, Nat.reduceBNe, Int.reduceLT, Int.reduceLE, Int.reduceGT, Int.reduceGE, Int.reduceBEq, Int.reduceBNe, Int.reduceToNat, Int.reduceAdd, Int.reduceSub, Int.reduceMul, Int.reduceEq, Int.reduceNeg, reduceCtorEq, decide_true, decide_false, Bool.false_eq_true, St30, hc]; try rfl)
      · (simp only [go_sem, List.isEmpty_nil, isC, eq_self, reduceIte, Nat.reduceAdd, Nat.reduceMul, Nat.reduceSub, Nat.reduceLT, Nat.reduceLeDiff, Nat.reduceEqDiff, Nat.reduceDiv, Nat.reduceMod, Nat.reducePow, Nat.reduceBEq, Nat.reduceBNe, Int.reduceLT, Int.reduceLE, Int.reduceGT, Int.reduceGE, Int.reduceBEq, Int.reduceBNe, Int.reduceToNat, Int.reduceAdd, Int.reduceSub, Int.reduceMul, Int.reduceEq, Int.reduceNeg, reduceCtorEq, decide_true, decide_false, Bool.false_eq_true, St30, hc]; try rfl)
      · (simp only [go_sem, List.isEmpty_nil, isC, eq_self, reduceIte, Nat.reduceAdd, Nat.reduceMul, Nat.reduceSub, Nat.reduceLT, Nat.reduceLeDiff, Nat.reduceEqDiff, Nat.reduceDiv, Nat.reduceMod, Nat.reducePow, Nat.reduceBEq, Nat.reduceBNe, Int.reduceLT, Int.reduceLE, Int.reduceGT, Int.reduceGE, Int.reduceBEq, Int.reduceBNe, Int.reduceToNat, Int.reduceAdd, Int.reduceSub, Int.reduceMul, Int.reduceEq, Int.reduceNeg, reduceCtorEq, decide_true, decide_false, Bool.false_eq_true, St30, hc]; try rfl)
    · have d1 : ¬ (i : Int) < (dig x).length := by omega
      by_cases h2 : i < (dig y).length
      · have d2 : (i : Int) < (dig y).length := by omega
        simp only [L27r4, St30, hc, go_sem, List.isEmpty_nil, isC, eq_self, reduceIte, Nat.reduceAdd, Nat.reduceMul, Nat.reduceSub, Nat.reduceLT, Nat.reduceLeDiff, Nat.reduceEqDiff, Nat.reduceDiv, Nat.reduceMod, Nat.reducePow, Nat.reduceBEq, Nat.reduceBNe, Int.reduceLT, Int.reduceLE, Int.reduceGT, Int.reduceGE, Int.reduceBEq, Int.reduceBNe, Int.reduceToNat, Int.reduceAdd, Int.reduceSub, Int.reduceMul, Int.reduceEq, Int.reduceNeg, reduceCtorEq, decide_true, decide_false, Bool.false_eq_true, ty3, ty22, ty28, d1, d2]
        refine Lwp.cond rfl (fun _ => Lwp.skip ?_) (fun h => by cases h)
        simp only [go_sem, List.isEmpty_nil, isC, eq_self, reduceIte, Nat.reduceAdd, Nat.reduceMul, Nat.reduceSub, Nat.reduceLT, Nat.reduceLeDiff, Nat.reduceEqDiff, Nat.reduceDiv, Nat.reduceMod, Nat.reducePow, Nat.reduceBEq, Nat.reduceBNe, Int.reduceLT, Int.reduceLE, Int.reduceGT, Int.reduceGE, Int.reduceBEq, Int.reduceBNe, Int.reduceToNat, Int.reduceAdd, Int.reduceSub, Int.reduceMul, Int.reduceEq, Int.reduceNeg, reduceCtorEq, decide_true, decide_false, Bool.false_eq_true]
        refine go (by omega) _ ?_
        refine weak_of rfl ?_ ?_ ?_
        · (simp only [go_sem, List.isEmpty_nil, isC, eq_self, reduceIte, Nat.reduceAdd, Nat.reduceMul, Nat.reduceSub, Nat.reduceLT, Nat.reduceLeDiff, Nat.reduceEqDiff, Nat.reduceDiv, Nat.reduceMod, Nat.reducePow, Nat.reduceBEq, Nat.reduceBNe, Int.reduceLT, Int.reduceLE, Int.reduceGT, Int.reduceGE, Int.reduceBEq, Int.reduceBNe, Int.reduceToNat, Int.reduceAdd, Int.reduceSub, Int.reduceMul, Int.reduceEq, Int.reduceNeg, reduceCtorEq, decide_true, decide_false, Bool.false_eq_true, St30, hc]; try rfl)
        · (simp only [go_sem, List.isEmpty_nil, isC, eq_self, reduceIte, Nat.reduceAdd, Nat.reduceMul, Nat.reduceSub, Nat.reduceLT, Nat.reduceLeDiff, Nat.reduceEqDiff, Nat.reduceDiv, Nat.reduceMod, Nat.reducePow, Nat.reduceBEq, Nat.reduceBNe, Int.reduceLT, Int.reduceLE, Int.reduceGT, Int.reduceGE, Int.reduceBEq, Int.reduceBNe, Int.reduceToNat, Int.reduceAdd, Int.reduceSub, Int.reduceMul, Int.reduceEq, Int.reduceNeg, reduceCtorEq, decide_true, decide_false, Bool.false_eq_true, St30, hc]; try rfl)
        · (simp only [go_sem, List.isEmpty_nil, isC, eq_self, reduceIte, Nat.reduceAdd, Nat.reduceMul, Nat.reduceSub, Nat.reduceLT, Nat.reduceLeDiff, Nat.reduceEqDiff, Nat.reduceDiv, Nat.reduceMod, Nat.reducePow, Nat.reduceBEq, Nat.reduceBNe, Int.reduceLT, Int.reduceLE, Int.reduceGT, Int.reduceGE, Int.reduceBEq, Int.reduceBNe, Int.reduceToNat, Int.reduceAdd, Int.reduceSub, Int.reduceMul, Int.reduceEq, Int.reduceNeg, reduceCtorEq, decide_true, decide_false, Bool.false_eq_true, St30, hc]; try rfl)
      · have d2 : ¬ (i : Int) < (dig y).length := by omega
        by_cases h3 : c = 0
        · have d3 : ¬ (c : Int) > 0 := by omega
          have hlt := cn (by omega) (by omega) h3
          have f54 := S53_low (show i ≤ 1099511627776 by omega) hlt
          simp only [L27r4, St30, hc, go_sem, List.isEmpty_nil, isC, eq_self, reduceIte, Nat.reduceAdd, Nat.reduceMul, Nat.reduceSub, Nat.reduceLT, Nat.reduceLeDiff, Nat.reduceEqDiff, Nat.reduceDiv, Nat.reduceMod, Nat.reducePow, Nat.reduceBEq, Nat.reduceBNe, Int.reduceLT, Int.reduceLE, Int.reduceGT, Int.reduceGE, Int.reduceBEq, Int.reduceBNe, Int.reduceToNat, Int.reduceAdd, Int.reduceSub, Int.reduceMul, Int.reduceEq, Int.reduceNeg, reduceCtorEq, decide_true, decide_false, Bool.false_eq_true, ty3, ty22, ty28, d1, d2, d3]
          refine Lwp.cond rfl (fun h => by cases h) (fun _ => Lwp.exit ?_)
          simp only [go_sem, List.isEmpty_nil, isC, eq_self, reduceIte, Nat.reduceAdd, Nat.reduceMul, Nat.reduceSub, Nat.reduceLT, Nat.reduceLeDiff, Nat.reduceEqDiff, Nat.reduceDiv, Nat.reduceMod, Nat.reducePow, Nat.reduceBEq, Nat.reduceBNe, Int.reduceLT, Int.reduceLE, Int.reduceGT, Int.reduceGE, Int.reduceBEq, Int.reduceBNe, Int.reduceToNat, Int.reduceAdd, Int.reduceSub, Int.reduceMul, Int.reduceEq, Int.reduceNeg, reduceCtorEq, decide_true, decide_false, Bool.false_eq_true]
          refine Lwp.seq (Lwp.regI hT ?_)
          simp only [L27r9, go_sem, List.isEmpty_nil, isC, eq_self, reduceIte, Nat.reduceAdd, Nat.reduceMul, Nat.reduceSub, Nat.reduceLT, Nat.reduceLeDiff, Nat.reduceEqDiff, Nat.reduceDiv, Nat.reduceMod, Nat.reducePow, Nat.reduceBEq, Nat.reduceBNe, Int.reduceLT, Int.reduceLE, Int.reduceGT, Int.reduceGE, Int.reduceBEq, Int.reduceBNe, Int.reduceToNat, Int.reduceAdd, Int.reduceSub, Int.reduceMul, Int.reduceEq, Int.reduceNeg, reduceCtorEq, decide_true, decide_false, Bool.false_eq_true, ty3, ty4, ty22, ty23, ty24, ty27, ty28, eq24, low_len, Nat.le_refl, f54]
          refine Lwp.ret (post_val (v := .slc (dig (x + y)).length (ints .u64 (dig (x + y)))) ?_ ?_)
          · simp only [go_sem, List.isEmpty_nil, isC, eq_self, reduceIte, Nat.reduceAdd, Nat.reduceMul, Nat.reduceSub, Nat.reduceLT, Nat.reduceLeDiff, Nat.reduceEqDiff, Nat.reduceDiv, Nat.reduceMod, Nat.reducePow, Nat.reduceBEq, Nat.reduceBNe, Int.reduceLT, Int.reduceLE, Int.reduceGT, Int.reduceGE, Int.reduceBEq, Int.reduceBNe, Int.reduceToNat, Int.reduceAdd, Int.reduceSub, Int.reduceMul, Int.reduceEq, Int.reduceNeg, reduceCtorEq, decide_true, decide_false, Bool.false_eq_true]
          · simp only [go_sem, List.isEmpty_nil, isC, eq_self, reduceIte, Nat.reduceAdd, Nat.reduceMul, Nat.reduceSub, Nat.reduceLT, Nat.reduceLeDiff, Nat.reduceEqDiff, Nat.reduceDiv, Nat.reduceMod, Nat.reducePow, Nat.reduceBEq, Nat.reduceBNe, Int.reduceLT, Int.reduceLE, Int.reduceGT, Int.reduceGE, Int.reduceBEq, Int.reduceBNe, Int.reduceToNat, Int.reduceAdd, Int.reduceSub, Int.reduceMul, Int.reduceEq, Int.reduceNeg, reduceCtorEq, decide_true, decide_false, Bool.false_eq_true]
        · have d3 : (c : Int) > 0 := by omega
          simp only [L27r4, St30, hc, go_sem, List.isEmpty_nil, isC, eq_self, reduceIte, Nat.reduceAdd, Nat.reduceMul, Nat.reduceSub, Nat.reduceLT, Nat.reduceLeDiff, Nat.reduceEqDiff, Nat.reduceDiv, Nat.reduceMod, Nat.reducePow, Nat.reduceBEq, Nat.reduceBNe, Int.reduceLT, Int.reduceLE, Int.reduceGT, Int.reduceGE, Int.reduceBEq, Int.reduceBNe, Int.reduceToNat, Int.reduceAdd, Int.reduceSub, Int.reduceMul, Int.reduceEq, Int.reduceNeg, reduceCtorEq, decide_true, decide_false, Bool.false_eq_true, ty3, ty22, ty28, d1, d2, d3]
          refine Lwp.cond rfl (fun _ => Lwp.skip ?_) (fun h => by cases h)
          simp only [go_sem, List.isEmpty_nil, isC, eq_self, reduceIte, Nat.reduceAdd, Nat.reduceMul, Nat.reduceSub, Nat.reduceLT, Nat.reduceLeDiff, Nat.reduceEqDiff, Nat.reduceDiv, Nat.reduceMod, Nat.reducePow, Nat.reduceBEq, Nat.reduceBNe, Int.reduceLT, Int.reduceLE, Int.reduceGT, Int.reduceGE, Int.reduceBEq, Int.reduceBNe, Int.reduceToNat, Int.reduceAdd, Int.reduceSub, Int.reduceMul, Int.reduceEq, Int.reduceNeg, reduceCtorEq, decide_true, decide_false, Bool.false_eq_true]
          refine go ?_ _ ?_
          · have : ¬ ((dig x).length < i ∧ (dig y).length < i) := fun h => h3 (ce h.1 h.2)
            omega
          · refine weak_of rfl ?_ ?_ ?_
            · (simp only [go_sem, List.isEmpty_nil, isC, eq_self, reduceIte, Nat.reduceAdd, Nat.reduceMul, Nat.reduceSub, Nat.reduceLT, Nat.reduceLeDiff, Nat.reduceEqDiff, Nat.reduceDiv, Nat.reduceMod, Nat.reducePow, Nat.reduceBEq, Nat.reduceBNe, Int.reduceLT, Int.reduceLE, Int.reduceGT, Int.reduceGE, Int.reduceBEq, Int.reduceBNe, Int.reduceToNat, Int.reduceAdd, Int.reduceSub, Int.reduceMul, Int.reduceEq, Int.reduceNeg, reduceCtorEq, decide_true, decide_false, Bool.false_eq_true, St30, hc]; try rfl)
            · (simp only [go_sem, List.isEmpty_nil, isC, eq_self, reduceIte, Nat.reduceAdd, Nat.reduceMul, Nat.reduceSub, Nat.reduceLT, Nat.reduceLeDiff, Nat.reduceEqDiff, Nat.reduceDiv, Nat.reduceMod, Nat.reducePow, Nat.reduceBEq, Nat.reduceBNe, Int.reduceLT, Int.reduceLE, Int.reduceGT, Int.reduceGE, Int.reduceBEq, Int.reduceBNe, Int.reduceToNat, Int.reduceAdd, Int.reduceSub, Int.reduceMul, Int.reduceEq, Int.reduceNeg, reduceCtorEq, decide_true, decide_false, Bool.false_eq_true, St30, hc]; try rfl)
            · (simp only [go_sem, List.isEmpty_nil, isC, eq_self, reduceIte, Nat.reduceAdd, Nat.reduceMul, Nat.reduceSub, Nat.reduceLT, Nat.reduceLeDiff, Nat.reduceEqDiff, Nat.reduceDiv, Nat.reduceMod, Nat.reducePow, Nat.reduceBEq, Nat.reduceBNe, Int.reduceLT, Int.reduceLE, Int.reduceGT, Int.reduceGE, Int.reduceBEq, Int.reduceBNe, Int.reduceToNat, Int.reduceAdd, Int.reduceSub, Int.reduceMul, Int.reduceEq, Int.reduceNeg, reduceCtorEq, decide_true, decide_false, Bool.false_eq_true, St30, hc]; try rfl)
end Eng


namespace Eng
open Go Go.Proofs
set_option linter.unusedSimpArgs false
def subC (a b : List Int) : Nat → Int
  | 0 => 0
  | i + 1 => if a.getD i 0 < b.getD i 0 + subC a b i then 1 else 0
def subD (a b : List Int) (i : Nat) : Int := (a.getD i 0 - b.getD i 0 - subC a b i) % 18446744073709551616
def addC (a b : List Int) : Nat → Int
  | 0 => 0
  | i + 1 => (a.getD i 0 + b.getD i 0 + addC a b i) / 18446744073709551616
def addD (a b : List Int) (i : Nat) : Int := (a.getD i 0 + b.getD i 0 + addC a b i) % 18446744073709551616
theorem subC_bit (a b : List Int) (i : Nat) : 0 ≤ subC a b i ∧ subC a b i ≤ 1 := by
  cases i with
  | zero => simp [subC]
  | succ i => rw [subC]; split <;> omega
theorem addC_bit {a b : List Int} (ha : U6 a) (hb : U6 b) (i : Nat) : 0 ≤ addC a b i ∧ addC a b i ≤ 1 := by
  induction i with
  | zero => simp [addC]
  | succ i ih =>
    have h1 := ha.at i
    have h2 := hb.at i
    unfold U64 at h1 h2
    rw [addC]; omega

noncomputable def S60 : List AV → Option Ret := nz (sumOf (fun p : List Int × List Int => match p with | (a, b) => (U6 a) ∧ (U6 b)) (fun p : List Int × List Int => match p with | (a, b) => [.agg (ints .u64 a), .agg (ints .u64 b)]) (fun p : List Int × List Int => match p with | (a, b) => ⟨.tup [.agg (ints .u64 (tab 6 (subD a b))), .int .u64 (subC a b 6)], none⟩))
theorem S60_eq (a : List Int) (b : List Int) (h0 : U6 a) (h1 : U6 b) : S60 [.agg (ints .u64 a), .agg (ints .u64 b)] = some ⟨.tup [.agg (ints .u64 (tab 6 (subD a b))), .int .u64 (subC a b 6)], none⟩ :=
  sumOf_eq (dom := (fun p : List Int × List Int => match p with | (a, b) => (U6 a) ∧ (U6 b))) (enc := (fun p : List Int × List Int => match p with | (a, b) => [.agg (ints .u64 a), .agg (ints .u64 b)])) (out := (fun p : List Int × List Int => match p with | (a, b) => ⟨.tup [.agg (ints .u64 (tab 6 (subD a b))), .int .u64 (subC a b 6)], none⟩)) (a, b) ⟨h0, h1⟩ (fun y _ e => by
    obtain ⟨y0, y1⟩ := y
    simp only [List.cons.injEq, AV.agg.injEq, AV.int.injEq, AV.slc.injEq, AV.iptr.injEq, AV.bool.injEq, AV.str.injEq, ints_injEq, dig_injEq,  Int.ofNat_inj, BitVec.toNat_inj, true_and, and_true] at e
    first | with_reducible rfl | simp only [e] | rfl)
theorem S60_inv {args : List AV} {r : Ret} (h : sumOf (fun p : List Int × List Int => match p with | (a, b) => (U6 a) ∧ (U6 b)) (fun p : List Int × List Int => match p with | (a, b) => [.agg (ints .u64 a), .agg (ints .u64 b)]) (fun p : List Int × List Int => match p with | (a, b) => ⟨.tup [.agg (ints .u64 (tab 6 (subD a b))), .int .u64 (subC a b 6)], none⟩) args = some r) : ∃ (a : List Int) (b : List Int), ((U6 a) ∧ (U6 b)) ∧ args = [.agg (ints .u64 a), .agg (ints .u64 b)] ∧ r = ⟨.tup [.agg (ints .u64 (tab 6 (subD a b))), .int .u64 (subC a b 6)], none⟩ := by
  obtain ⟨x, h1, h2, h3⟩ := sumOf_inv h
  obtain ⟨a, b⟩ := x
  exact ⟨a, b, h1, h2.symm, h3⟩


set_option maxRecDepth 100000 in
theorem snd60 : SndE Tryd.prog NoG 60 S60 := by
  refine snd_nz (snd_by [] [(74, subX)] Tryd.func60 (by kernel_rfl) lite60 nt60 rs60 trivial ⟨ext74, trivial⟩ (fun hT args r h => ?_))
  obtain ⟨a, b, ⟨hd0, hd1⟩, rfl, rfl⟩ := S60_inv h
  clear h
  have hM := hM0
  refine ⟨Nat.le_of_ble_eq_true rfl, fun F => ?_⟩
  unfold L60
  have hl := hd0.1
  have hl' := hd1.1
  refine Lwp.seq (Lwp.regI hT ?_)
  simp only [L60r0, go_sem, List.isEmpty_nil, isC, eq_self, reduceIte, Nat.reduceAdd, Nat.reduceMul, Nat.reduceSub, Nat.reduceLT, Nat.reduceLeDiff, Nat.reduceEqDiff, Nat.reduceDiv, Nat.reduceMod, Nat.reducePow, Nat.reduceBEq, Nat.reduceBNe, Int.reduceLT, Int.reduceLE, Int.reduceGT, Int.reduceGE, Int.reduceBEq, Int.reduceBNe, Int.reduceToNat, Int.reduceAdd, Int.reduceSub, Int.reduceMul, Int.reduceEq, Int.reduceNeg, reduceCtorEq, decide_true, decide_false, Bool.false_eq_true, ty3, ty22, ty24, eq24]
  refine Lwp.seq (Lwp.regI hT ?_)
  simp only [L60r1, go_sem, List.isEmpty_nil, isC, eq_self, reduceIte, Nat.reduceAdd, Nat.reduceMul, Nat.reduceSub, Nat.reduceLT, Nat.reduceLeDiff, Nat.reduceEqDiff, Nat.reduceDiv, Nat.reduceMod, Nat.reducePow, Nat.reduceBEq, Nat.reduceBNe, Int.reduceLT, Int.reduceLE, Int.reduceGT, Int.reduceGE, Int.reduceBEq, Int.reduceBNe, Int.reduceToNat, Int.reduceAdd, Int.reduceSub, Int.reduceMul, Int.reduceEq, Int.reduceNeg, reduceCtorEq, decide_true, decide_false, Bool.false_eq_true, ty3, ty22, ty24, eq24]
  refine Lwp.seq (Lwp.regI hT ?_)
  simp only [L60r2, go_sem, List.isEmpty_nil, isC, eq_self, reduceIte, Nat.reduceAdd, Nat.reduceMul, Nat.reduceSub, Nat.reduceLT, Nat.reduceLeDiff, Nat.reduceEqDiff, Nat.reduceDiv, Nat.reduceMod, Nat.reducePow, Nat.reduceBEq, Nat.reduceBNe, Int.reduceLT, Int.reduceLE, Int.reduceGT, Int.reduceGE, Int.reduceBEq, Int.reduceBNe, Int.reduceToNat, Int.reduceAdd, Int.reduceSub, Int.reduceMul, Int.reduceEq, Int.reduceNeg, reduceCtorEq, decide_true, decide_false, Bool.false_eq_true, ty3, ty22, ty24, eq24]
  refine Lwp.seq ?_
  refine Lwp.seq (Lwp.regI hT ?_)
  simp only [L60r3, go_sem, List.isEmpty_nil, isC, eq_self, reduceIte, Nat.reduceAdd, Nat.reduceMul, Nat.reduceSub, Nat.reduceLT, Nat.reduceLeDiff, Nat.reduceEqDiff, Nat.reduceDiv, Nat.reduceMod, Nat.reducePow, Nat.reduceBEq, Nat.reduceBNe, Int.reduceLT, Int.reduceLE, Int.reduceGT, Int.reduceGE, Int.reduceBEq, Int.reduceBNe, Int.reduceToNat, Int.reduceAdd, Int.reduceSub, Int.reduceMul, Int.reduceEq, Int.reduceNeg, reduceCtorEq, decide_true, decide_false, Bool.false_eq_true, ty3, ty22, ty24, eq24]
  refine Lwp.block (Lwp.range (fun i => { nt := 28, env := [(2, .own 0 0), (3, .own 1 0), (4, .own 2 0), (6, .own 4 0), (7, .int .u64 (subC a b i)), (9, .int .i64 i)], mem := [(0, ints .u64 a), (1, ints .u64 b), (2, ints .u64 (List.replicate 6 0)), (4, ints .u64 (upto 6 (subD a b) i))], next := 20 }) 6 ?_ (fun i hi => ?_) ?_)
  · refine weak_of rfl ?_ ?_ ?_
    · (simp only [go_sem, List.isEmpty_nil, isC, eq_self, reduceIte, Nat.reduceAdd, Nat.reduceMul, Nat.reduceSub, Nat.reduceLT, Nat.reduceLeDiff, Nat.reduceEqDiff, Nat.reduceDiv, Nat.reduceMod, Nat.reducePow, Nat.reduceBEq, Nat.reduceBNe, Int.reduceLT, Int.reduceLE, Int.reduceGT, Int.reduceGE, Int.reduceBEq, Int.reduceBNe, Int.reduceToNat, Int.reduceAdd, Int.reduceSub, Int.reduceMul, Int.reduceEq, Int.reduceNeg, reduceCtorEq, decide_true, decide_false, Bool.false_eq_true, upto_zero, subC]; try rfl)
    · (simp only [go_sem, List.isEmpty_nil, isC, eq_self, reduceIte, Nat.reduceAdd, Nat.reduceMul, Nat.reduceSub, Nat.reduceLT, Nat.reduceLeDiff, Nat.reduceEqDiff, Nat.reduceDiv, Nat.reduceMod, Nat.reducePow, Nat.reduceBEq, Nat.reduceBNe, Int.reduceLT, Int.reduceLE, Int.reduceGT, Int.reduceGE, Int.reduceBEq, Int.reduceBNe, Int.reduceToNat, Int.reduceAdd, Int.reduceSub, Int.reduceMul, Int.reduceEq, Int.reduceNeg, reduceCtorEq, decide_true, decide_false, Bool.false_eq_true, upto_zero, subC]; try rfl)
    · (simp only [go_sem, List.isEmpty_nil, isC, eq_self, reduceIte, Nat.reduceAdd, Nat.reduceMul, Nat.reduceSub, Nat.reduceLT, Nat.reduceLeDiff, Nat.reduceEqDiff, Nat.reduceDiv, Nat.reduceMod, Nat.reducePow, Nat.reduceBEq, Nat.reduceBNe, Int.reduceLT, Int.reduceLE, Int.reduceGT, Int.reduceGE, Int.reduceBEq, Int.reduceBNe, Int.reduceToNat, Int.reduceAdd, Int.reduceSub, Int.reduceMul, Int.reduceEq, Int.reduceNeg, reduceCtorEq, decide_true, decide_false, Bool.false_eq_true, upto_zero, subC]; try rfl)
  · have h1 : (i : Int) < 6 := by omega
    have h2 : (0 : Int) ≤ i := by omega
    have h3 : i ≤ 5 := by omega
    have h4 := wrap_succ hi (by decide)
    have h5 := upto_set 6 (subD a b) i _ rfl
    have h6 := subX_eq _ _ _ (hd0.at i) (hd1.at i) (subC_bit a b i).1 (subC_bit a b i).2
    refine Lwp.seq (Lwp.regI hT ?_)
    simp only [L60r4, go_sem, List.isEmpty_nil, isC, eq_self, reduceIte, Nat.reduceAdd, Nat.reduceMul, Nat.reduceSub, Nat.reduceLT, Nat.reduceLeDiff, Nat.reduceEqDiff, Nat.reduceDiv, Nat.reduceMod, Nat.reducePow, Nat.reduceBEq, Nat.reduceBNe, Int.reduceLT, Int.reduceLE, Int.reduceGT, Int.reduceGE, Int.reduceBEq, Int.reduceBNe, Int.reduceToNat, Int.reduceAdd, Int.reduceSub, Int.reduceMul, Int.reduceEq, Int.reduceNeg, reduceCtorEq, decide_true, decide_false, Bool.false_eq_true, ty3, ty22, ty24, eq24, h1]
    refine Lwp.seq (Lwp.cond rfl (fun _ => Lwp.skip ?_) (fun h => by cases h))
    refine Lwp.seq (Lwp.block ?_)
    refine Lwp.seq (Lwp.regI hT ?_)
    simp only [L60r5, go_sem, List.isEmpty_nil, isC, eq_self, reduceIte, Nat.reduceAdd, Nat.reduceMul, Nat.reduceSub, Nat.reduceLT, Nat.reduceLeDiff, Nat.reduceEqDiff, Nat.reduceDiv, Nat.reduceMod, Nat.reducePow, Nat.reduceBEq, Nat.reduceBNe, Int.reduceLT, Int.reduceLE, Int.reduceGT, Int.reduceGE, Int.reduceBEq, Int.reduceBNe, Int.reduceToNat, Int.reduceAdd, Int.reduceSub, Int.reduceMul, Int.reduceEq, Int.reduceNeg, reduceCtorEq, decide_true, decide_false, Bool.false_eq_true, ty3, ty22, ty24, eq24]
    refine Lwp.regD hT hM ?_
    simp only [L60r6, go_sem, List.isEmpty_nil, isC, eq_self, reduceIte, Nat.reduceAdd, Nat.reduceMul, Nat.reduceSub, Nat.reduceLT, Nat.reduceLeDiff, Nat.reduceEqDiff, Nat.reduceDiv, Nat.reduceMod, Nat.reducePow, Nat.reduceBEq, Nat.reduceBNe, Int.reduceLT, Int.reduceLE, Int.reduceGT, Int.reduceGE, Int.reduceBEq, Int.reduceBNe, Int.reduceToNat, Int.reduceAdd, Int.reduceSub, Int.reduceMul, Int.reduceEq, Int.reduceNeg, reduceCtorEq, decide_true, decide_false, Bool.false_eq_true, ty3, ty22, ty24, eq24, h1, h2, h3, hl, hl', hi, upto_len, h6]
    refine Lwp.regI hT ?_
    simp only [L60r7, go_sem, List.isEmpty_nil, isC, eq_self, reduceIte, Nat.reduceAdd, Nat.reduceMul, Nat.reduceSub, Nat.reduceLT, Nat.reduceLeDiff, Nat.reduceEqDiff, Nat.reduceDiv, Nat.reduceMod, Nat.reducePow, Nat.reduceBEq, Nat.reduceBNe, Int.reduceLT, Int.reduceLE, Int.reduceGT, Int.reduceGE, Int.reduceBEq, Int.reduceBNe, Int.reduceToNat, Int.reduceAdd, Int.reduceSub, Int.reduceMul, Int.reduceEq, Int.reduceNeg, reduceCtorEq, decide_true, decide_false, Bool.false_eq_true, ty3, ty22, ty24, eq24, h4]
    refine weak_of rfl ?_ ?_ ?_
    · (simp only [go_sem, List.isEmpty_nil, isC, eq_self, reduceIte, Nat.reduceAdd, Nat.reduceMul, Nat.reduceSub, Nat.reduceLT, Nat.reduceLeDiff, Nat.reduceEqDiff, Nat.reduceDiv, Nat.reduceMod, Nat.reducePow, Nat.reduceBEq, Nat.reduceBNe, Int.reduceLT, Int.reduceLE, Int.reduceGT, Int.reduceGE, Int.reduceBEq, Int.reduceBNe, Int.reduceToNat, Int.reduceAdd, Int.reduceSub, Int.reduceMul, Int.reduceEq, Int.reduceNeg, reduceCtorEq, decide_true, decide_false, Bool.false_eq_true, ← h5, subD, subC]; try rfl)
    · (simp only [go_sem, List.isEmpty_nil, isC, eq_self, reduceIte, Nat.reduceAdd, Nat.reduceMul, Nat.reduceSub, Nat.reduceLT, Nat.reduceLeDiff, Nat.reduceEqDiff, Nat.reduceDiv, Nat.reduceMod, Nat.reducePow, Nat.reduceBEq, Nat.reduceBNe, Int.reduceLT, Int.reduceLE, Int.reduceGT, Int.reduceGE, Int.reduceBEq, Int.reduceBNe, Int.reduceToNat, Int.reduceAdd, Int.reduceSub, Int.reduceMul, Int.reduceEq, Int.reduceNeg, reduceCtorEq, decide_true, decide_false, Bool.false_eq_true, ← h5, subD, subC]; try rfl)
    · (simp only [go_sem, List.isEmpty_nil, isC, eq_self, reduceIte, Nat.reduceAdd, Nat.reduceMul, Nat.reduceSub, Nat.reduceLT, Nat.reduceLeDiff, Nat.reduceEqDiff, Nat.reduceDiv, Nat.reduceMod, Nat.reducePow, Nat.reduceBEq, Nat.reduceBNe, Int.reduceLT, Int.reduceLE, Int.reduceGT, Int.reduceGE, Int.reduceBEq, Int.reduceBNe, Int.reduceToNat, Int.reduceAdd, Int.reduceSub, Int.reduceMul, Int.reduceEq, Int.reduceNeg, reduceCtorEq, decide_true, decide_false, Bool.false_eq_true, ← h5, subD, subC]; try rfl)
  · refine Lwp.seq (Lwp.regI hT ?_)
    simp only [L60r4, go_sem, List.isEmpty_nil, isC, eq_self, reduceIte, Nat.reduceAdd, Nat.reduceMul, Nat.reduceSub, Nat.reduceLT, Nat.reduceLeDiff, Nat.reduceEqDiff, Nat.reduceDiv, Nat.reduceMod, Nat.reducePow, Nat.reduceBEq, Nat.reduceBNe, Int.reduceLT, Int.reduceLE, Int.reduceGT, Int.reduceGE, Int.reduceBEq, Int.reduceBNe, Int.reduceToNat, Int.reduceAdd, Int.reduceSub, Int.reduceMul, Int.reduceEq, Int.reduceNeg, reduceCtorEq, decide_true, decide_false, Bool.false_eq_true, ty3, ty22, ty24, eq24]
    refine Lwp.seq (Lwp.cond rfl (fun h => by cases h) (fun _ => Lwp.exit ?_))
    simp only [go_sem, List.isEmpty_nil, isC, eq_self, reduceIte, Nat.reduceAdd, Nat.reduceMul, Nat.reduceSub, Nat.reduceLT, Nat.reduceLeDiff, Nat.reduceEqDiff, Nat.reduceDiv, Nat.reduceMod, Nat.reducePow, Nat.reduceBEq, Nat.reduceBNe, Int.reduceLT, Int.reduceLE, Int.reduceGT, Int.reduceGE, Int.reduceBEq, Int.reduceBNe, Int.reduceToNat, Int.reduceAdd, Int.reduceSub, Int.reduceMul, Int.reduceEq, Int.reduceNeg, reduceCtorEq, decide_true, decide_false, Bool.false_eq_true]
    refine Lwp.seq (Lwp.regI hT ?_)
    simp only [L60r8, go_sem, List.isEmpty_nil, isC, eq_self, reduceIte, Nat.reduceAdd, Nat.reduceMul, Nat.reduceSub, Nat.reduceLT, Nat.reduceLeDiff, Nat.reduceEqDiff, Nat.reduceDiv, Nat.reduceMod, Nat.reducePow, Nat.reduceBEq, Nat.reduceBNe, Int.reduceLT, Int.reduceLE, Int.reduceGT, Int.reduceGE, Int.reduceBEq, Int.reduceBNe, Int.reduceToNat, Int.reduceAdd, Int.reduceSub, Int.reduceMul, Int.reduceEq, Int.reduceNeg, reduceCtorEq, decide_true, decide_false, Bool.false_eq_true, ty3, ty22, ty24, eq24, upto_len]
    refine Lwp.ret (post_val (v := .tup [.agg (ints .u64 (tab 6 (subD a b))), .int .u64 (subC a b 6)]) ?_ ?_)
    · simp only [go_sem, List.isEmpty_nil, isC, eq_self, reduceIte, Nat.reduceAdd, Nat.reduceMul, Nat.reduceSub, Nat.reduceLT, Nat.reduceLeDiff, Nat.reduceEqDiff, Nat.reduceDiv, Nat.reduceMod, Nat.reducePow, Nat.reduceBEq, Nat.reduceBNe, Int.reduceLT, Int.reduceLE, Int.reduceGT, Int.reduceGE, Int.reduceBEq, Int.reduceBNe, Int.reduceToNat, Int.reduceAdd, Int.reduceSub, Int.reduceMul, Int.reduceEq, Int.reduceNeg, reduceCtorEq, decide_true, decide_false, Bool.false_eq_true, ty24, upto_full, tab_len]
    · simp only [go_sem, List.isEmpty_nil, isC, eq_self, reduceIte, Nat.reduceAdd, Nat.reduceMul, Nat.reduceSub, Nat.reduceLT, Nat.reduceLeDiff, Nat.reduceEqDiff, Nat.reduceDiv, Nat.reduceMod, Nat.reducePow, Nat.reduceBEq, Nat.reduceBNe, Int.reduceLT, Int.reduceLE, Int.reduceGT, Int.reduceGE, Int.reduceBEq, Int.reduceBNe, Int.reduceToNat, Int.reduceAdd, Int.reduceSub, Int.reduceMul, Int.reduceEq, Int.reduceNeg, reduceCtorEq, decide_true, decide_false, Bool.false_eq_true]

noncomputable def S62 : List AV → Option Ret := nz (sumOf (fun p : List Int × List Int => match p with | (a, b) => (U6 a) ∧ (U6 b)) (fun p : List Int × List Int => match p with | (a, b) => [.agg (ints .u64 a), .agg (ints .u64 b)]) (fun p : List Int × List Int => match p with | (a, b) => ⟨.tup [.agg (ints .u64 (tab 6 (addD a b))), .int .u64 (addC a b 6)], none⟩))
theorem S62_eq (a : List Int) (b : List Int) (h0 : U6 a) (h1 : U6 b) : S62 [.agg (ints .u64 a), .agg (ints .u64 b)] = some ⟨.tup [.agg (ints .u64 (tab 6 (addD a b))), .int .u64 (addC a b 6)], none⟩ :=
  sumOf_eq (dom := (fun p : List Int × List Int => match p with | (a, b) => (U6 a) ∧ (U6 b))) (enc := (fun p : List Int × List Int => match p with | (a, b) => [.agg (ints .u64 a), .agg (ints .u64 b)])) (out := (fun p : List Int × List Int => match p with | (a, b) => ⟨.tup [.agg (ints .u64 (tab 6 (addD a b))), .int .u64 (addC a b 6)], none⟩)) (a, b) ⟨h0, h1⟩ (fun y _ e => by
    obtain ⟨y0, y1⟩ := y
    simp only [List.cons.injEq, AV.agg.injEq, AV.int.injEq, AV.slc.injEq, AV.iptr.injEq, AV.bool.injEq, AV.str.injEq, ints_injEq, dig_injEq,  Int.ofNat_inj, BitVec.toNat_inj, true_and, and_true] at e
    first | with_reducible rfl | simp only [e] | rfl)
theorem S62_inv {args : List AV} {r : Ret} (h : sumOf (fun p : List Int × List Int => match p with | (a, b) => (U6 a) ∧ (U6 b)) (fun p : List Int × List Int => match p with | (a, b) => [.agg (ints .u64 a), .agg (ints .u64 b)]) (fun p : List Int × List Int => match p with | (a, b) => ⟨.tup [.agg (ints .u64 (tab 6 (addD a b))), .int .u64 (addC a b 6)], none⟩) args = some r) : ∃ (a : List Int) (b : List Int), ((U6 a) ∧ (U6 b)) ∧ args = [.agg (ints .u64 a), .agg (ints .u64 b)] ∧ r = ⟨.tup [.agg (ints .u64 (tab 6 (addD a b))), .int .u64 (addC a b 6)], none⟩ := by
  obtain ⟨x, h1, h2, h3⟩ := sumOf_inv h
  obtain ⟨a, b⟩ := x
  exact ⟨a, b, h1, h2.symm, h3⟩


set_option maxRecDepth 100000 in
theorem snd62 : SndE Tryd.prog NoG 62 S62 := by
  refine snd_nz (snd_by [] [(75, addX)] Tryd.func62 (by kernel_rfl) lite62 nt62 rs62 trivial ⟨ext75, trivial⟩ (fun hT args r h => ?_))
  obtain ⟨a, b, ⟨hd0, hd1⟩, rfl, rfl⟩ := S62_inv h
  clear h
  have hM := hM0
  refine ⟨Nat.le_of_ble_eq_true rfl, fun F => ?_⟩
  unfold L62
  have hl := hd0.1
  have hl' := hd1.1
  refine Lwp.seq (Lwp.regI hT ?_)
  simp only [L62r0, go_sem, List.isEmpty_nil, isC, eq_self, reduceIte, Nat.reduceAdd, Nat.reduceMul, Nat.reduceSub, Nat.reduceLT, Nat.reduceLeDiff, Nat.reduceEqDiff, Nat.reduceDiv, Nat.reduceMod, Nat.reducePow, Nat.reduceBEq, Nat.reduceBNe, Int.reduceLT, Int.reduceLE, Int.reduceGT, Int.reduceGE, Int.reduceBEq, Int.reduceBNe, Int.reduceToNat, Int.reduceAdd, Int.reduceSub, Int.reduceMul, Int.reduceEq, Int.reduceNeg, reduceCtorEq, decide_true, decide_false, Bool.false_eq_true, ty3, ty22, ty24, eq24]
  refine Lwp.seq (Lwp.regI hT ?_)
  simp only [L62r1, go_sem, List.isEmpty_nil, isC, eq_self, reduceIte, Nat.reduceAdd, Nat.reduceMul, Nat.reduceSub, Nat.reduceLT, Nat.reduceLeDiff, Nat.reduceEqDiff, Nat.reduceDiv, Nat.reduceMod, Nat.reducePow, Nat.reduceBEq, Nat.reduceBNe, Int.reduceLT, Int.reduceLE, Int.reduceGT, Int.reduceGE, Int.reduceBEq, Int.reduceBNe, Int.reduceToNat, Int.reduceAdd, Int.reduceSub, Int.reduceMul, Int.reduceEq, Int.reduceNeg, reduceCtorEq, decide_true, decide_false, Bool.false_eq_true, ty3, ty22, ty24, eq24]
  refine Lwp.seq (Lwp.regI hT ?_)
  simp only [L62r2, go_sem, List.isEmpty_nil, isC, eq_self, reduceIte, Nat.reduceAdd, Nat.reduceMul, Nat.reduceSub, Nat.reduceLT, Nat.reduceLeDiff, Nat.reduceEqDiff, Nat.reduceDiv, Nat.reduceMod, Nat.reducePow, Nat.reduceBEq, Nat.reduceBNe, Int.reduceLT, Int.reduceLE, Int.reduceGT, Int.reduceGE, Int.reduceBEq, Int.reduceBNe, Int.reduceToNat, Int.reduceAdd, Int.reduceSub, Int.reduceMul, Int.reduceEq, Int.reduceNeg, reduceCtorEq, decide_true, decide_false, Bool.false_eq_true, ty3, ty22, ty24, eq24]
  refine Lwp.seq ?_
  refine Lwp.seq (Lwp.regI hT ?_)
  simp only [L62r3, go_sem, List.isEmpty_nil, isC, eq_self, reduceIte, Nat.reduceAdd, Nat.reduceMul, Nat.reduceSub, Nat.reduceLT, Nat.reduceLeDiff, Nat.reduceEqDiff, Nat.reduceDiv, Nat.reduceMod, Nat.reducePow, Nat.reduceBEq, Nat.reduceBNe, Int.reduceLT, Int.reduceLE, Int.reduceGT, Int.reduceGE, Int.reduceBEq, Int.reduceBNe, Int.reduceToNat, Int.reduceAdd, Int.reduceSub, Int.reduceMul, Int.reduceEq, Int.reduceNeg, reduceCtorEq, decide_true, decide_false, Bool.false_eq_true, ty3, ty22, ty24, eq24]
  refine Lwp.block (Lwp.range (fun i => { nt := 28, env := [(2, .own 0 0), (3, .own 1 0), (4, .own 2 0), (6, .own 4 0), (7, .int .u64 (addC a b i)), (9, .int .i64 i)], mem := [(0, ints .u64 a), (1, ints .u64 b), (2, ints .u64 (List.replicate 6 0)), (4, ints .u64 (upto 6 (addD a b) i))], next := 20 }) 6 ?_ (fun i hi => ?_) ?_)
  · refine weak_of rfl ?_ ?_ ?_
    · (simp only [go_sem, List.isEmpty_nil, isC, eq_self, reduceIte, Nat.reduceAdd, Nat.reduceMul, Nat.reduceSub, Nat.reduceLT, Nat.reduceLeDiff, Nat.reduceEqDiff, Nat.reduceDiv, Nat.reduceMod, Nat.reducePow, Nat.reduceBEq, Nat.reduceBNe, Int.reduceLT, Int.reduceLE, Int.reduceGT, Int.reduceGE, Int.reduceBEq, Int.reduceBNe, Int.reduceToNat, Int.reduceAdd, Int.reduceSub, Int.reduceMul, Int.reduceEq, Int.reduceNeg, reduceCtorEq, decide_true, decide_false, Bool.false_eq_true, upto_zero, addC]; try rfl)
    · (simp only [go_sem, List.isEmpty_nil, isC, eq_self, reduceIte, Nat.reduceAdd, Nat.reduceMul, Nat.reduceSub, Nat.reduceLT, Nat.reduceLeDiff, Nat.reduceEqDiff, Nat.reduceDiv, Nat.reduceMod, Nat.reducePow, Nat.reduceBEq, Nat.reduceBNe, Int.reduceLT, Int.reduceLE, Int.reduceGT, Int.reduceGE, Int.reduceBEq, Int.reduceBNe, Int.reduceToNat, Int.reduceAdd, Int.reduceSub, Int.reduceMul, Int.reduceEq, Int.reduceNeg, reduceCtorEq, decide_true, decide_false, Bool.false_eq_true, upto_zero, addC]; try rfl)
    · (simp only [go_sem, List.isEmpty_nil, isC, eq_self, reduceIte, Nat.reduceAdd, Nat.reduceMul, Nat.reduceSub, Nat.reduceLT, Nat.reduceLeDiff, Nat.reduceEqDiff, Nat.reduceDiv, Nat.reduceMod, Nat.reducePow, Nat.reduceBEq, Nat.reduceBNe, Int.reduceLT, Int.reduceLE, Int.reduceGT, Int.reduceGE, Int.reduceBEq, Int.reduceBNe, Int.reduceToNat, Int.reduceAdd, Int.reduceSub, Int.reduceMul, Int.reduceEq, Int.reduceNeg, reduceCtorEq, decide_true, decide_false, Bool.false_eq_true, upto_zero, addC]; try rfl)
  · have h1 : (i : Int) < 6 := by omega
    have h2 : (0 : Int) ≤ i := by omega
    have h3 : i ≤ 5 := by omega
    have h4 := wrap_succ hi (by decide)
    have h5 := upto_set 6 (addD a b) i _ rfl
    have h6 := addX_eq _ _ _ (hd0.at i) (hd1.at i) (addC_bit hd0 hd1 i).1 (addC_bit hd0 hd1 i).2
    refine Lwp.seq (Lwp.regI hT ?_)
    simp only [L62r4, go_sem, List.isEmpty_nil, isC, eq_self, reduceIte, Nat.reduceAdd, Nat.reduceMul, Nat.reduceSub, Nat.reduceLT, Nat.reduceLeDiff, Nat.reduceEqDiff, Nat.reduceDiv, Nat.reduceMod, Nat.reducePow, Nat.reduceBEq, Nat.reduceBNe, Int.reduceLT, Int.reduceLE, Int.reduceGT, Int.reduceGE, Int.reduceBEq, Int.reduceBNe, Int.reduceToNat, Int.reduceAdd, Int.reduceSub, Int.reduceMul, Int.reduceEq, Int.reduceNeg, reduceCtorEq, decide_true, decide_false, Bool.false_eq_true, ty3, ty22, ty24, eq24, h1]
    refine Lwp.seq (Lwp.cond rfl (fun _ => Lwp.skip ?_) (fun h => by cases h))
    refine Lwp.seq (Lwp.block ?_)
    refine Lwp.seq (Lwp.regI hT ?_)
    simp only [L62r5, go_sem, List.isEmpty_nil, isC, eq_self, reduceIte, Nat.reduceAdd, Nat.reduceMul, Nat.reduceSub, Nat.reduceLT, Nat.reduceLeDiff, Nat.reduceEqDiff, Nat.reduceDiv, Nat.reduceMod, Nat.reducePow, Nat.reduceBEq, Nat.reduceBNe, Int.reduceLT, Int.reduceLE, Int.reduceGT, Int.reduceGE, Int.reduceBEq, Int.reduceBNe, Int.reduceToNat, Int.reduceAdd, Int.reduceSub, Int.reduceMul, Int.reduceEq, Int.reduceNeg, reduceCtorEq, decide_true, decide_false, Bool.false_eq_true, ty3, ty22, ty24, eq24]
    refine Lwp.regD hT hM ?_
    simp only [L62r6, go_sem, List.isEmpty_nil, isC, eq_self, reduceIte, Nat.reduceAdd, Nat.reduceMul, Nat.reduceSub, Nat.reduceLT, Nat.reduceLeDiff, Nat.reduceEqDiff, Nat.reduceDiv, Nat.reduceMod, Nat.reducePow, Nat.reduceBEq, Nat.reduceBNe, Int.reduceLT, Int.reduceLE, Int.reduceGT, Int.reduceGE, Int.reduceBEq, Int.reduceBNe, Int.reduceToNat, Int.reduceAdd, Int.reduceSub, Int.reduceMul, Int.reduceEq, Int.reduceNeg, reduceCtorEq, decide_true, decide_false, Bool.false_eq_true, ty3, ty22, ty24, eq24, h1, h2, h3, hl, hl', hi, upto_len, h6]
    refine Lwp.regI hT ?_
    simp only [L62r7, go_sem, List.isEmpty_nil, isC, eq_self, reduceIte, Nat.reduceAdd, Nat.reduceMul, Nat.reduceSub, Nat.reduceLT, Nat.reduceLeDiff, Nat.reduceEqDiff, Nat.reduceDiv, Nat.reduceMod, Nat.reducePow, Nat.reduceBEq, Nat.reduceBNe, Int.reduceLT, Int.reduceLE, Int.reduceGT, Int.reduceGE, Int.reduceBEq, Int.reduceBNe, Int.reduceToNat, Int.reduceAdd, Int.reduceSub, Int.reduceMul, Int.reduceEq, Int.reduceNeg, reduceCtorEq, decide_true, decide_false, Bool.false_eq_true, ty3, ty22, ty24, eq24, h4]
    refine weak_of rfl ?_ ?_ ?_
    · (simp only [go_sem, List.isEmpty_nil, isC, eq_self, reduceIte, Nat.reduceAdd, Nat.reduceMul, Nat.reduceSub, Nat.reduceLT, Nat.reduceLeDiff, Nat.reduceEqDiff, Nat.reduceDiv, Nat.reduceMod, Nat.reducePow, Nat.reduceBEq, Nat.reduceBNe, Int.reduceLT, Int.reduceLE, Int.reduceGT, Int.reduceGE, Int.reduceBEq, Int.reduceBNe, Int.reduceToNat, Int.reduceAdd, Int.reduceSub, Int.reduceMul, Int.reduceEq, Int.reduceNeg, reduceCtorEq, decide_true, decide_false, Bool.false_eq_true, ← h5, addD, addC]; try rfl)
    · (simp only [go_sem, List.isEmpty_nil, isC, eq_self, reduceIte, Nat.reduceAdd, Nat.reduceMul, Nat.reduceSub, Nat.reduceLT, Nat.reduceLeDiff, Nat.reduceEqDiff, Nat.reduceDiv, Nat.reduceMod, Nat.reducePow, Nat.reduceBEq, Nat.reduceBNe, Int.reduceLT, Int.reduceLE, Int.reduceGT, Int.reduceGE, Int.reduceBEq, Int.reduceBNe, Int.reduceToNat, Int.reduceAdd, Int.reduceSub, Int.reduceMul, Int.reduceEq, Int.reduceNeg, reduceCtorEq, decide_true, decide_false, Bool.false_eq_true, ← h5, addD, addC]; try rfl)
    · (simp only [go_sem, List.isEmpty_nil, isC, eq_self, reduceIte, Nat.reduceAdd, Nat.reduceMul, Nat.reduceSub, Nat.reduceLT, Nat.reduceLeDiff, Nat.reduceEqDiff, Nat.reduceDiv, Nat.reduceMod, Nat.reducePow, Nat.reduceBEq, Nat.reduceBNe, Int.reduceLT, Int.reduceLE, Int.reduceGT, Int.reduceGE, Int.reduceBEq, Int.reduceBNe, Int.reduceToNat, Int.reduceAdd, Int.reduceSub, Int.reduceMul, Int.reduceEq, Int.reduceNeg, reduceCtorEq, decide_true, decide_false, Bool.false_eq_true, ← h5, addD, addC]; try rfl)
  · refine Lwp.seq (Lwp.regI hT ?_)
    simp only [L62r4, go_sem, List.isEmpty_nil, isC, eq_self, reduceIte, Nat.reduceAdd, Nat.reduceMul, Nat.reduceSub, Nat.reduceLT, Nat.reduceLeDiff, Nat.reduceEqDiff, Nat.reduceDiv, Nat.reduceMod, Nat.reducePow, Nat.reduceBEq, Nat.reduceBNe, Int.reduceLT, Int.reduceLE, Int.reduceGT, Int.reduceGE, Int.reduceBEq, Int.reduceBNe, Int.reduceToNat, Int.reduceAdd, Int.reduceSub, Int.reduceMul, Int.reduceEq, Int.reduceNeg, reduceCtorEq, decide_true, decide_false, Bool.false_eq_true, ty3, ty22, ty24, eq24]
    refine Lwp.seq (Lwp.cond rfl (fun h => by cases h) (fun _ => Lwp.exit ?_))
    simp only [go_sem, List.isEmpty_nil, isC, eq_self, reduceIte, Nat.reduceAdd, Nat.reduceMul, Nat.reduceSub, Nat.reduceLT, Nat.reduceLeDiff, Nat.reduceEqDiff, Nat.reduceDiv, Nat.reduceMod, Nat.reducePow, Nat.reduceBEq, Nat.reduceBNe, Int.reduceLT, Int.reduceLE, Int.reduceGT, Int.reduceGE, Int.reduceBEq, Int.reduceBNe, Int.reduceToNat, Int.reduceAdd, Int.reduceSub, Int.reduceMul, Int.reduceEq, Int.reduceNeg, reduceCtorEq, decide_true, decide_false, Bool.false_eq_true]
    refine Lwp.seq (Lwp.regI hT ?_)
    simp only [L62r8, go_sem, List.isEmpty_nil, isC, eq_self, reduceIte, Nat.reduceAdd, Nat.reduceMul, Nat.reduceSub, Nat.reduceLT, Nat.reduceLeDiff, Nat.reduceEqDiff, Nat.reduceDiv, Nat.reduceMod, Nat.reducePow, Nat.reduceBEq, Nat.reduceBNe, Int.reduceLT, Int.reduceLE, Int.reduceGT, Int.reduceGE, Int.reduceBEq, Int.reduceBNe, Int.reduceToNat, Int.reduceAdd, Int.reduceSub, Int.reduceMul, Int.reduceEq, Int.reduceNeg, reduceCtorEq, decide_true, decide_false, Bool.false_eq_true, ty3, ty22, ty24, eq24, upto_len]
    refine Lwp.ret (post_val (v := .tup [.agg (ints .u64 (tab 6 (addD a b))), .int .u64 (addC a b 6)]) ?_ ?_)
    · simp only [go_sem, List.isEmpty_nil, isC, eq_self, reduceIte, Nat.reduceAdd, Nat.reduceMul, Nat.reduceSub, Nat.reduceLT, Nat.reduceLeDiff, Nat.reduceEqDiff, Nat.reduceDiv, Nat.reduceMod, Nat.reducePow, Nat.reduceBEq, Nat.reduceBNe, Int.reduceLT, Int.reduceLE, Int.reduceGT, Int.reduceGE, Int.reduceBEq, Int.reduceBNe, Int.reduceToNat, Int.reduceAdd, Int.reduceSub, Int.reduceMul, Int.reduceEq, Int.reduceNeg, reduceCtorEq, decide_true, decide_false, Bool.false_eq_true, ty24, upto_full, tab_len]
    · simp only [go_sem, List.isEmpty_nil, isC, eq_self, reduceIte, Nat.reduceAdd, Nat.reduceMul, Nat.reduceSub, Nat.reduceLT, Nat.reduceLeDiff, Nat.reduceEqDiff, Nat.reduceDiv, Nat.reduceMod, Nat.reducePow, Nat.reduceBEq, Nat.reduceBNe, Int.reduceLT, Int.reduceLE, Int.reduceGT, Int.reduceGE, Int.reduceBEq, Int.reduceBNe, Int.reduceToNat, Int.reduceAdd, Int.reduceSub, Int.reduceMul, Int.reduceEq, Int.reduceNeg, reduceCtorEq, decide_true, decide_false, Bool.false_eq_true]

noncomputable def S57 : List AV → Option Ret := nz (sumOf (fun p : List Int × List Int => match p with | (a, b) => (U6 a) ∧ (U6 b)) (fun p : List Int × List Int => match p with | (a, b) => [.agg (ints .u64 a), .agg (ints .u64 b)]) (fun p : List Int × List Int => match p with | (a, b) => ⟨.int .u64 (subC a b 6), none⟩))
theorem S57_eq (a : List Int) (b : List Int) (h0 : U6 a) (h1 : U6 b) : S57 [.agg (ints .u64 a), .agg (ints .u64 b)] = some ⟨.int .u64 (subC a b 6), none⟩ :=
  sumOf_eq (dom := (fun p : List Int × List Int => match p with | (a, b) => (U6 a) ∧ (U6 b))) (enc := (fun p : List Int × List Int => match p with | (a, b) => [.agg (ints .u64 a), .agg (ints .u64 b)])) (out := (fun p : List Int × List Int => match p with | (a, b) => ⟨.int .u64 (subC a b 6), none⟩)) (a, b) ⟨h0, h1⟩ (fun y _ e => by
    obtain ⟨y0, y1⟩ := y
    simp only [List.cons.injEq, AV.agg.injEq, AV.int.injEq, AV.slc.injEq, AV.iptr.injEq, AV.bool.injEq, AV.str.injEq, ints_injEq, dig_injEq,  Int.ofNat_inj, BitVec.toNat_inj, true_and, and_true] at e
    first | with_reducible rfl | simp only [e] | rfl)
theorem S57_inv {args : List AV} {r : Ret} (h : sumOf (fun p : List Int × List Int => match p with | (a, b) => (U6 a) ∧ (U6 b)) (fun p : List Int × List Int => match p with | (a, b) => [.agg (ints .u64 a), .agg (ints .u64 b)]) (fun p : List Int × List Int => match p with | (a, b) => ⟨.int .u64 (subC a b 6), none⟩) args = some r) : ∃ (a : List Int) (b : List Int), ((U6 a) ∧ (U6 b)) ∧ args = [.agg (ints .u64 a), .agg (ints .u64 b)] ∧ r = ⟨.int .u64 (subC a b 6), none⟩ := by
  obtain ⟨x, h1, h2, h3⟩ := sumOf_inv h
  obtain ⟨a, b⟩ := x
  exact ⟨a, b, h1, h2.symm, h3⟩


set_option maxRecDepth 100000 in
theorem snd57 : SndE Tryd.prog NoG 57 S57 := by
  refine snd_nz (snd_by [(60, S60)] [] Tryd.func57 (by kernel_rfl) lite57 nt57 rs57 ⟨snd60, trivial⟩ trivial (fun hT args r h => ?_))
  obtain ⟨a, b, ⟨hd0, hd1⟩, rfl, rfl⟩ := S57_inv h
  clear h
  have hM := hM0
  refine ⟨Nat.le_of_ble_eq_true rfl, fun F => ?_⟩
  unfold L57
  have hl := hd0.1
  have hl' := hd1.1
  refine Lwp.seq (Lwp.regI hT ?_)
  simp only [L57r0, go_sem, List.isEmpty_nil, isC, eq_self, reduceIte, Nat.reduceAdd, Nat.reduceMul, Nat.reduceSub, Nat.reduceLT, Nat.reduceLeDiff, Nat.reduceEqDiff, Nat.reduceDiv, Nat.reduceMod, Nat.reducePow, Nat.reduceBEq, Nat.reduceBNe, Int.reduceLT, Int.reduceLE, Int.reduceGT, Int.reduceGE, Int.reduceBEq, Int.reduceBNe, Int.reduceToNat, Int.reduceAdd, Int.reduceSub, Int.reduceMul, Int.reduceEq, Int.reduceNeg, reduceCtorEq, decide_true, decide_false, Bool.false_eq_true, ty3, ty22, ty24, eq24]
  refine Lwp.seq (Lwp.regI hT ?_)
  simp only [L57r1, go_sem, List.isEmpty_nil, isC, eq_self, reduceIte, Nat.reduceAdd, Nat.reduceMul, Nat.reduceSub, Nat.reduceLT, Nat.reduceLeDiff, Nat.reduceEqDiff, Nat.reduceDiv, Nat.reduceMod, Nat.reducePow, Nat.reduceBEq, Nat.reduceBNe, Int.reduceLT, Int.reduceLE, Int.reduceGT, Int.reduceGE, Int.reduceBEq, Int.reduceBNe, Int.reduceToNat, Int.reduceAdd, Int.reduceSub, Int.reduceMul, Int.reduceEq, Int.reduceNeg, reduceCtorEq, decide_true, decide_false, Bool.false_eq_true, ty3, ty22, ty24, eq24, hl, hl', S60_eq _ _ hd0 hd1, tab_len]
  refine Lwp.seq (Lwp.regI hT ?_)
  simp only [L57r2, go_sem, List.isEmpty_nil, isC, eq_self, reduceIte, Nat.reduceAdd, Nat.reduceMul, Nat.reduceSub, Nat.reduceLT, Nat.reduceLeDiff, Nat.reduceEqDiff, Nat.reduceDiv, Nat.reduceMod, Nat.reducePow, Nat.reduceBEq, Nat.reduceBNe, Int.reduceLT, Int.reduceLE, Int.reduceGT, Int.reduceGE, Int.reduceBEq, Int.reduceBNe, Int.reduceToNat, Int.reduceAdd, Int.reduceSub, Int.reduceMul, Int.reduceEq, Int.reduceNeg, reduceCtorEq, decide_true, decide_false, Bool.false_eq_true, ty3, ty22, ty24, eq24]
  refine Lwp.ret (post_val (v := .int .u64 (subC a b 6)) ?_ ?_)
  · simp only [go_sem, List.isEmpty_nil, isC, eq_self, reduceIte, Nat.reduceAdd, Nat.reduceMul, Nat.reduceSub, Nat.reduceLT, Nat.reduceLeDiff, Nat.reduceEqDiff, Nat.reduceDiv, Nat.reduceMod, Nat.reducePow, Nat.reduceBEq, Nat.reduceBNe, Int.reduceLT, Int.reduceLE, Int.reduceGT, Int.reduceGE, Int.reduceBEq, Int.reduceBNe, Int.reduceToNat, Int.reduceAdd, Int.reduceSub, Int.reduceMul, Int.reduceEq, Int.reduceNeg, reduceCtorEq, decide_true, decide_false, Bool.false_eq_true]
  · simp only [go_sem, List.isEmpty_nil, isC, eq_self, reduceIte, Nat.reduceAdd, Nat.reduceMul, Nat.reduceSub, Nat.reduceLT, Nat.reduceLeDiff, Nat.reduceEqDiff, Nat.reduceDiv, Nat.reduceMod, Nat.reducePow, Nat.reduceBEq, Nat.reduceBNe, Int.reduceLT, Int.reduceLE, Int.reduceGT, Int.reduceGE, Int.reduceBEq, Int.reduceBNe, Int.reduceToNat, Int.reduceAdd, Int.reduceSub, Int.reduceMul, Int.reduceEq, Int.reduceNeg, reduceCtorEq, decide_true, decide_false, Bool.false_eq_true]
end Eng


namespace Eng
open Go Go.Proofs
set_option linter.unusedSimpArgs false
set_option linter.unusedVariables false
noncomputable def S55 : List AV → Option Ret := nz (sumOf (fun p : Nat × Nat => match p with | (x, y) => ((dig x).length ≤ 1000000) ∧ ((dig y).length ≤ 1000000) ∧ (y ≤ x)) (fun p : Nat × Nat => match p with | (x, y) => [.slc (dig (x)).length (ints .u64 (dig (x))), .slc (dig (y)).length (ints .u64 (dig (y)))]) (fun p : Nat × Nat => match p with | (x, y) => ⟨.slc (dig (x - y)).length (ints .u64 (dig (x - y))), none⟩))
theorem S55_eq (x : Nat) (y : Nat) (h0 : (dig x).length ≤ 1000000) (h1 : (dig y).length ≤ 1000000) (h2 : y ≤ x) : S55 [.slc (dig (x)).length (ints .u64 (dig (x))), .slc (dig (y)).length (ints .u64 (dig (y)))] = some ⟨.slc (dig (x - y)).length (ints .u64 (dig (x - y))), none⟩ :=
  sumOf_eq (dom := (fun p : Nat × Nat => match p with | (x, y) => ((dig x).length ≤ 1000000) ∧ ((dig y).length ≤ 1000000) ∧ (y ≤ x))) (enc := (fun p : Nat × Nat => match p with | (x, y) => [.slc (dig (x)).length (ints .u64 (dig (x))), .slc (dig (y)).length (ints .u64 (dig (y)))])) (out := (fun p : Nat × Nat => match p with | (x, y) => ⟨.slc (dig (x - y)).length (ints .u64 (dig (x - y))), none⟩)) (x, y) ⟨h0, h1, h2⟩ (fun y _ e => by
    obtain ⟨y0, y1⟩ := y
    simp only [List.cons.injEq, AV.agg.injEq, AV.int.injEq, AV.slc.injEq, AV.iptr.injEq, AV.bool.injEq, AV.str.injEq, ints_injEq, dig_injEq,  Int.ofNat_inj, BitVec.toNat_inj, true_and, and_true] at e
    first | with_reducible rfl | simp only [e] | rfl)
theorem S55_inv {args : List AV} {r : Ret} (h : sumOf (fun p : Nat × Nat => match p with | (x, y) => ((dig x).length ≤ 1000000) ∧ ((dig y).length ≤ 1000000) ∧ (y ≤ x)) (fun p : Nat × Nat => match p with | (x, y) => [.slc (dig (x)).length (ints .u64 (dig (x))), .slc (dig (y)).length (ints .u64 (dig (y)))]) (fun p : Nat × Nat => match p with | (x, y) => ⟨.slc (dig (x - y)).length (ints .u64 (dig (x - y))), none⟩) args = some r) : ∃ (x : Nat) (y : Nat), (((dig x).length ≤ 1000000) ∧ ((dig y).length ≤ 1000000) ∧ (y ≤ x)) ∧ args = [.slc (dig (x)).length (ints .u64 (dig (x))), .slc (dig (y)).length (ints .u64 (dig (y)))] ∧ r = ⟨.slc (dig (x - y)).length (ints .u64 (dig (x - y))), none⟩ := by
  obtain ⟨x, h1, h2, h3⟩ := sumOf_inv h
  obtain ⟨x, y⟩ := x
  exact ⟨x, y, h1, h2.symm, h3⟩


def St32 (x y i : Nat) : AState := { nt := 35, env := [(0, .slc (dig (x)).length (ints .u64 (dig (x)))), (1, .slc (dig (y)).length (ints .u64 (dig (y)))), (5, .osl 50 0 i 1), (6, .int .u64 (borrow 4294967296 x y i : Nat)), (7, .int .i64 i)], mem := [(50, ints .u64 (low i (x - y)))], next := 60 }

set_option maxRecDepth 100000 in
theorem snd55 : SndE Tryd.prog NoG 55 S55 := by
  refine snd_nz (snd_by [(53, S53), (52, S52)] [] Tryd.func55 (by kernel_rfl) lite55 nt55 rs55 ⟨snd53, snd52, trivial⟩ trivial (fun hT args r h => ?_))
  obtain ⟨x, y, ⟨hd0, hd1, hd2⟩, rfl, rfl⟩ := S55_inv h
  clear h
  have hM := hM0
  refine ⟨Nat.le_of_ble_eq_true rfl, fun F => ?_⟩
  unfold L55
  refine Lwp.seq (Lwp.regI hT ?_)
  simp only [L55r0, go_sem, List.isEmpty_nil, isC, eq_self, reduceIte, Nat.reduceAdd, Nat.reduceMul, Nat.reduceSub, Nat.reduceLT, Nat.reduceLeDiff, Nat.reduceEqDiff, Nat.reduceDiv, Nat.reduceMod, Nat.reducePow, Nat.reduceBEq, Nat.reduceBNe, Int.reduceLT, Int.reduceLE, Int.reduceGT, Int.reduceGE, Int.reduceBEq, Int.reduceBNe, Int.reduceToNat, Int.reduceAdd, Int.reduceSub, Int.reduceMul, Int.reduceEq, Int.reduceNeg, reduceCtorEq, decide_true, decide_false, Bool.false_eq_true, ty3, ty4, ty22, ty23, ty24, ty27, ty28, eq24]
  refine Lwp.seq (Lwp.regI hT ?_)
  simp only [L55r1, go_sem, List.isEmpty_nil, isC, eq_self, reduceIte, Nat.reduceAdd, Nat.reduceMul, Nat.reduceSub, Nat.reduceLT, Nat.reduceLeDiff, Nat.reduceEqDiff, Nat.reduceDiv, Nat.reduceMod, Nat.reducePow, Nat.reduceBEq, Nat.reduceBNe, Int.reduceLT, Int.reduceLE, Int.reduceGT, Int.reduceGE, Int.reduceBEq, Int.reduceBNe, Int.reduceToNat, Int.reduceAdd, Int.reduceSub, Int.reduceMul, Int.reduceEq, Int.reduceNeg, reduceCtorEq, decide_true, decide_false, Bool.false_eq_true, ty3, ty4, ty22, ty23, ty24, ty27, ty28, eq24]
  refine Lwp.seq (Lwp.regI hT ?_)
  simp only [L55r2, go_sem, List.isEmpty_nil, isC, eq_self, reduceIte, Nat.reduceAdd, Nat.reduceMul, Nat.reduceSub, Nat.reduceLT, Nat.reduceLeDiff, Nat.reduceEqDiff, Nat.reduceDiv, Nat.reduceMod, Nat.reducePow, Nat.reduceBEq, Nat.reduceBNe, Int.reduceLT, Int.reduceLE, Int.reduceGT, Int.reduceGE, Int.reduceBEq, Int.reduceBNe, Int.reduceToNat, Int.reduceAdd, Int.reduceSub, Int.reduceMul, Int.reduceEq, Int.reduceNeg, reduceCtorEq, decide_true, decide_false, Bool.false_eq_true, ty3, ty4, ty22, ty23, ty24, ty27, ty28, eq24]
  refine Lwp.seq (Lwp.seq (Lwp.region hT ?_))
  simp only [L55r3, go_sem, List.isEmpty_nil, isC, eq_self, reduceIte, Nat.reduceAdd, Nat.reduceMul, Nat.reduceSub, Nat.reduceLT, Nat.reduceLeDiff, Nat.reduceEqDiff, Nat.reduceDiv, Nat.reduceMod, Nat.reducePow, Nat.reduceBEq, Nat.reduceBNe, Int.reduceLT, Int.reduceLE, Int.reduceGT, Int.reduceGE, Int.reduceBEq, Int.reduceBNe, Int.reduceToNat, Int.reduceAdd, Int.reduceSub, Int.reduceMul, Int.reduceEq, Int.reduceNeg, reduceCtorEq, decide_true, decide_false, Bool.false_eq_true, ty3]
  refine Lwp.block (Lwp.range (St32 x y) (dig x).length ?_ (fun i hi => ?_) ?_)
  · refine Weak.trans (weak_nil (t := 5) (id := 50) (sz := 1) rfl rfl) ?_
    refine weak_of rfl ?_ ?_ ?_
    · (simp only [go_sem, List.isEmpty_nil, isC, eq_self, reduceIte, Nat.reduceAdd, Nat.reduceMul, Nat.reduceSub, Nat.reduceLT, Nat.reduceLeDiff, Nat.reduceEqDiff, Nat.reduceDiv, Nat.reduceMod, Nat.reducePow, Nat.reduceBEq, Nat.reduceBNe, Int.reduceLT, Int.reduceLE, Int.reduceGT, Int.reduceGE, Int.reduceBEq, Int.reduceBNe, Int.reduceToNat, Int.reduceAdd, Int.reduceSub, Int.reduceMul, Int.reduceEq, Int.reduceNeg, reduceCtorEq, decide_true, decide_false, Bool.false_eq_true, St32, borrow, Nat.pow_zero, Nat.mod_one, Nat.lt_irrefl]; try rfl)
    · (simp only [go_sem, List.isEmpty_nil, isC, eq_self, reduceIte, Nat.reduceAdd, Nat.reduceMul, Nat.reduceSub, Nat.reduceLT, Nat.reduceLeDiff, Nat.reduceEqDiff, Nat.reduceDiv, Nat.reduceMod, Nat.reducePow, Nat.reduceBEq, Nat.reduceBNe, Int.reduceLT, Int.reduceLE, Int.reduceGT, Int.reduceGE, Int.reduceBEq, Int.reduceBNe, Int.reduceToNat, Int.reduceAdd, Int.reduceSub, Int.reduceMul, Int.reduceEq, Int.reduceNeg, reduceCtorEq, decide_true, decide_false, Bool.false_eq_true, St32, borrow, Nat.pow_zero, Nat.mod_one, Nat.lt_irrefl]; try rfl)
    · (simp only [go_sem, List.isEmpty_nil, isC, eq_self, reduceIte, Nat.reduceAdd, Nat.reduceMul, Nat.reduceSub, Nat.reduceLT, Nat.reduceLeDiff, Nat.reduceEqDiff, Nat.reduceDiv, Nat.reduceMod, Nat.reducePow, Nat.reduceBEq, Nat.reduceBNe, Int.reduceLT, Int.reduceLE, Int.reduceGT, Int.reduceGE, Int.reduceBEq, Int.reduceBNe, Int.reduceToNat, Int.reduceAdd, Int.reduceSub, Int.reduceMul, Int.reduceEq, Int.reduceNeg, reduceCtorEq, decide_true, decide_false, Bool.false_eq_true, St32, borrow, Nat.pow_zero, Nat.mod_one, Nat.lt_irrefl]; try rfl)
  · have bs := bor_succ 4294967296 x y i (by decide)
    have ds := sub_dig 4294967296 x y i (by decide)
    have hb1 : borrow 4294967296 x y i ≤ 1 := by unfold borrow; split <;> omega
    have gx := dig_getD x i
    have gy := dig_getD y i
    have t1 : (dig x).length ≤ 1099511627776 := by omega
    have t2 : (dig y).length ≤ 1099511627776 := by omega
    have fx := S52_eq (dig x) i t1
    have fy := S52_eq (dig y) i t2
    have hz : (((x - y) / 4294967296 ^ i % 4294967296 : Nat) : Int) = (((x : Int) - y) / (4294967296 : Nat) ^ i) % (4294967296 : Nat) := by
      rw [show (x : Int) - y = ((x - y : Nat) : Int) by omega]; norm_cast
    rw [ds] at hz
    generalize hc' : borrow 4294967296 x y (i + 1) = c' at *
    generalize hc : borrow 4294967296 x y i = c at *
    have b0 : IntKind.u64.wrap ((dig x).getD i 0 + 4294967296) = (dig x).getD i 0 + 4294967296 := wrap_u64 (by omega) (by omega)
    have b1 : IntKind.u64.wrap ((dig x).getD i 0 + 4294967296 - (dig y).getD i 0) = (dig x).getD i 0 + 4294967296 - (dig y).getD i 0 := wrap_u64 (by omega) (by omega)
    have b2 : IntKind.u64.wrap ((dig x).getD i 0 + 4294967296 - (dig y).getD i 0 - (c : Int)) = (dig x).getD i 0 + 4294967296 - (dig y).getD i 0 - (c : Int) := wrap_u64 (by omega) (by omega)
    have b3 : ((dig x).getD i 0 + 4294967296 - (dig y).getD i 0 - (c : Int)).tmod 4294967296 = (((x - y) / 4294967296 ^ i % 4294967296 : Nat) : Int) := by
      rw [Int.tmod_eq_emod_of_nonneg (by omega), hz, gx, gy]; omega
    have q0 : c' ≤ 1 := by rw [bs]; split <;> omega
    have q1 : ((dig x).getD i 0 + 4294967296 - (dig y).getD i 0 - (c : Int)).tdiv 4294967296 = 1 - (c' : Int) := by
      rw [Int.tdiv_eq_ediv_of_nonneg (by omega), bs, gx, gy]
      split <;> omega
    have b4 : IntKind.u64.wrap (1 - IntKind.u64.wrap (((dig x).getD i 0 + 4294967296 - (dig y).getD i 0 - (c : Int)).tdiv 4294967296)) = (c' : Int) := by
      rw [q1, wrap_u64 (x := 1 - (c' : Int)) (by omega) (by omega), wrap_u64 (by omega) (by omega)]; omega
    have a1 : (i : Int) < (dig x).length := by omega
    have a3 := wrap_succ' (n := i) (by omega)
    have a4 : (i + 1) * 8 ≤ 140737488355328 := by omega
    refine Lwp.seq (Lwp.seq (Lwp.region hT ?_))
    simp only [L55r4, St32, hc, go_sem, List.isEmpty_nil, isC, eq_self, reduceIte, Nat.reduceAdd, Nat.reduceMul, Nat.reduceSub, Nat.reduceLT, Nat.reduceLeDiff, Nat.reduceEqDiff, Nat.reduceDiv, Nat.reduceMod, Nat.reducePow, Nat.reduceBEq, Nat.reduceBNe, Int.reduceLT, Int.reduceLE, Int.reduceGT, Int.reduceGE, Int.reduceBEq, Int.reduceBNe, Int.reduceToNat, Int.reduceAdd, Int.reduceSub, Int.reduceMul, Int.reduceEq, Int.reduceNeg, reduceCtorEq, decide_true, decide_false, Bool.false_eq_true, ty3, ty22, ty28, a1]
    refine Lwp.cond rfl (fun _ => Lwp.skip ?_) (fun h => by cases h)
    simp only [go_sem, List.isEmpty_nil, isC, eq_self, reduceIte, Nat.reduceAdd, Nat.reduceMul, Nat.reduceSub, Nat.reduceLT, Nat.reduceLeDiff, Nat.reduceEqDiff, Nat.reduceDiv, Nat.reduceMod, Nat.reducePow, Nat.reduceBEq, Nat.reduceBNe, Int.reduceLT, Int.reduceLE, Int.reduceGT, Int.reduceGE, Int.reduceBEq, Int.reduceBNe, Int.reduceToNat, Int.reduceAdd, Int.reduceSub, Int.reduceMul, Int.reduceEq, Int.reduceNeg, reduceCtorEq, decide_true, decide_false, Bool.false_eq_true]
    refine Lwp.seq (Lwp.block ?_)
    refine Lwp.seq (Lwp.regI hT ?_)
    simp only [L55r6, go_sem, List.isEmpty_nil, isC, eq_self, reduceIte, Nat.reduceAdd, Nat.reduceMul, Nat.reduceSub, Nat.reduceLT, Nat.reduceLeDiff, Nat.reduceEqDiff, Nat.reduceDiv, Nat.reduceMod, Nat.reducePow, Nat.reduceBEq, Nat.reduceBNe, Int.reduceLT, Int.reduceLE, Int.reduceGT, Int.reduceGE, Int.reduceBEq, Int.reduceBNe, Int.reduceToNat, Int.reduceAdd, Int.reduceSub, Int.reduceMul, Int.reduceEq, Int.reduceNeg, reduceCtorEq, decide_true, decide_false, Bool.false_eq_true, ty3, ty4, ty22, ty23, ty24, ty27, ty28, eq24, fx, fy, b0, b1, b2]
    refine Lwp.seq (Lwp.regI hT ?_)
    simp only [L55r7, go_sem, List.isEmpty_nil, isC, eq_self, reduceIte, Nat.reduceAdd, Nat.reduceMul, Nat.reduceSub, Nat.reduceLT, Nat.reduceLeDiff, Nat.reduceEqDiff, Nat.reduceDiv, Nat.reduceMod, Nat.reducePow, Nat.reduceBEq, Nat.reduceBNe, Int.reduceLT, Int.reduceLE, Int.reduceGT, Int.reduceGE, Int.reduceBEq, Int.reduceBNe, Int.reduceToNat, Int.reduceAdd, Int.reduceSub, Int.reduceMul, Int.reduceEq, Int.reduceNeg, reduceCtorEq, decide_true, decide_false, Bool.false_eq_true, ty3, ty4, ty22, ty23, ty24, ty27, ty28, eq24, a4, b3, low_len]
    refine Lwp.regI hT ?_
    simp only [L55r8, go_sem, List.isEmpty_nil, isC, eq_self, reduceIte, Nat.reduceAdd, Nat.reduceMul, Nat.reduceSub, Nat.reduceLT, Nat.reduceLeDiff, Nat.reduceEqDiff, Nat.reduceDiv, Nat.reduceMod, Nat.reducePow, Nat.reduceBEq, Nat.reduceBNe, Int.reduceLT, Int.reduceLE, Int.reduceGT, Int.reduceGE, Int.reduceBEq, Int.reduceBNe, Int.reduceToNat, Int.reduceAdd, Int.reduceSub, Int.reduceMul, Int.reduceEq, Int.reduceNeg, reduceCtorEq, decide_true, decide_false, Bool.false_eq_true, ty3, ty4, ty22, ty23, ty24, ty27, ty28, eq24, b4]
    refine Lwp.regI hT ?_
    simp only [L55r5, go_sem, List.isEmpty_nil, isC, eq_self, reduceIte, Nat.reduceAdd, Nat.reduceMul, Nat.reduceSub, Nat.reduceLT, Nat.reduceLeDiff, Nat.reduceEqDiff, Nat.reduceDiv, Nat.reduceMod, Nat.reducePow, Nat.reduceBEq, Nat.reduceBNe, Int.reduceLT, Int.reduceLE, Int.reduceGT, Int.reduceGE, Int.reduceBEq, Int.reduceBNe, Int.reduceToNat, Int.reduceAdd, Int.reduceSub, Int.reduceMul, Int.reduceEq, Int.reduceNeg, reduceCtorEq, decide_true, decide_false, Bool.false_eq_true, ty3, ty4, ty22, ty23, ty24, ty27, ty28, eq24, a3]
    refine weak_of rfl ?_ ?_ ?_
    · (simp only [go_sem, List.isEmpty_nil, isC, eq_self, reduceIte, Nat.reduceAdd, Nat.reduceMul, Nat.reduceSub, Nat.reduceLT, Nat.reduceLeDiff, Nat.reduceEqDiff, Nat.reduceDiv, Nat.reduceMod, Nat.reducePow, Nat.reduceBEq, Nat.reduceBNe, Int.reduceLT, Int.reduceLE, Int.reduceGT, Int.reduceGE, Int.reduceBEq, Int.reduceBNe, Int.reduceToNat, Int.reduceAdd, Int.reduceSub, Int.reduceMul, Int.reduceEq, Int.reduceNeg, reduceCtorEq, decide_true, decide_false, Bool.false_eq_true, St32, low_succ, hc']; try rfl)
    · (simp only [go_sem, List.isEmpty_nil, isC, eq_self, reduceIte, Nat.reduceAdd, Nat.reduceMul, Nat.reduceSub, Nat.reduceLT, Nat.reduceLeDiff, Nat.reduceEqDiff, Nat.reduceDiv, Nat.reduceMod, Nat.reducePow, Nat.reduceBEq, Nat.reduceBNe, Int.reduceLT, Int.reduceLE, Int.reduceGT, Int.reduceGE, Int.reduceBEq, Int.reduceBNe, Int.reduceToNat, Int.reduceAdd, Int.reduceSub, Int.reduceMul, Int.reduceEq, Int.reduceNeg, reduceCtorEq, decide_true, decide_false, Bool.false_eq_true, St32, low_succ, hc']; try rfl)
    · (simp only [go_sem, List.isEmpty_nil, isC, eq_self, reduceIte, Nat.reduceAdd, Nat.reduceMul, Nat.reduceSub, Nat.reduceLT, Nat.reduceLeDiff, Nat.reduceEqDiff, Nat.reduceDiv, Nat.reduceMod, Nat.reducePow, Nat.reduceBEq, Nat.reduceBNe, Int.reduceLT, Int.reduceLE, Int.reduceGT, Int.reduceGE, Int.reduceBEq, Int.reduceBNe, Int.reduceToNat, Int.reduceAdd, Int.reduceSub, Int.reduceMul, Int.reduceEq, Int.reduceNeg, reduceCtorEq, decide_true, decide_false, Bool.false_eq_true, St32, low_succ, hc']; try rfl)
  · refine Lwp.seq (Lwp.seq (Lwp.region hT ?_))
    have a1 : ¬ ((dig x).length : Int) < (dig x).length := by omega
    simp only [L55r4, St32, go_sem, List.isEmpty_nil, isC, eq_self, reduceIte, Nat.reduceAdd, Nat.reduceMul, Nat.reduceSub, Nat.reduceLT, Nat.reduceLeDiff, Nat.reduceEqDiff, Nat.reduceDiv, Nat.reduceMod, Nat.reducePow, Nat.reduceBEq, Nat.reduceBNe, Int.reduceLT, Int.reduceLE, Int.reduceGT, Int.reduceGE, Int.reduceBEq, Int.reduceBNe, Int.reduceToNat, Int.reduceAdd, Int.reduceSub, Int.reduceMul, Int.reduceEq, Int.reduceNeg, reduceCtorEq, decide_true, decide_false, Bool.false_eq_true, ty3, ty22, ty28, a1]
    refine Lwp.cond rfl (fun h => by cases h) (fun _ => Lwp.exit ?_)
    simp only [go_sem, List.isEmpty_nil, isC, eq_self, reduceIte, Nat.reduceAdd, Nat.reduceMul, Nat.reduceSub, Nat.reduceLT, Nat.reduceLeDiff, Nat.reduceEqDiff, Nat.reduceDiv, Nat.reduceMod, Nat.reducePow, Nat.reduceBEq, Nat.reduceBNe, Int.reduceLT, Int.reduceLE, Int.reduceGT, Int.reduceGE, Int.reduceBEq, Int.reduceBNe, Int.reduceToNat, Int.reduceAdd, Int.reduceSub, Int.reduceMul, Int.reduceEq, Int.reduceNeg, reduceCtorEq, decide_true, decide_false, Bool.false_eq_true]
    have hlt : x - y < 4294967296 ^ (dig x).length := Nat.lt_of_le_of_lt (Nat.sub_le _ _) ((dig_len_le x _).1 (Nat.le_refl _))
    have f54 := S53_low (show (dig x).length ≤ 1099511627776 by omega) hlt
    refine Lwp.seq (Lwp.regI hT ?_)
    simp only [L55r9, go_sem, List.isEmpty_nil, isC, eq_self, reduceIte, Nat.reduceAdd, Nat.reduceMul, Nat.reduceSub, Nat.reduceLT, Nat.reduceLeDiff, Nat.reduceEqDiff, Nat.reduceDiv, Nat.reduceMod, Nat.reducePow, Nat.reduceBEq, Nat.reduceBNe, Int.reduceLT, Int.reduceLE, Int.reduceGT, Int.reduceGE, Int.reduceBEq, Int.reduceBNe, Int.reduceToNat, Int.reduceAdd, Int.reduceSub, Int.reduceMul, Int.reduceEq, Int.reduceNeg, reduceCtorEq, decide_true, decide_false, Bool.false_eq_true, ty3, ty4, ty22, ty23, ty24, ty27, ty28, eq24, low_len, Nat.le_refl, f54]
    refine Lwp.ret (post_val (v := .slc (dig (x - y)).length (ints .u64 (dig (x - y)))) ?_ ?_)
    · simp only [go_sem, List.isEmpty_nil, isC, eq_self, reduceIte, Nat.reduceAdd, Nat.reduceMul, Nat.reduceSub, Nat.reduceLT, Nat.reduceLeDiff, Nat.reduceEqDiff, Nat.reduceDiv, Nat.reduceMod, Nat.reducePow, Nat.reduceBEq, Nat.reduceBNe, Int.reduceLT, Int.reduceLE, Int.reduceGT, Int.reduceGE, Int.reduceBEq, Int.reduceBNe, Int.reduceToNat, Int.reduceAdd, Int.reduceSub, Int.reduceMul, Int.reduceEq, Int.reduceNeg, reduceCtorEq, decide_true, decide_false, Bool.false_eq_true]
    · simp only [go_sem, List.isEmpty_nil, isC, eq_self, reduceIte, Nat.reduceAdd, Nat.reduceMul, Nat.reduceSub, Nat.reduceLT, Nat.reduceLeDiff, Nat.reduceEqDiff, Nat.reduceDiv, Nat.reduceMod, Nat.reducePow, Nat.reduceBEq, Nat.reduceBNe, Int.reduceLT, Int.reduceLE, Int.reduceGT, Int.reduceGE, Int.reduceBEq, Int.reduceBNe, Int.reduceToNat, Int.reduceAdd, Int.reduceSub, Int.reduceMul, Int.reduceEq, Int.reduceNeg, reduceCtorEq, decide_true, decide_false, Bool.false_eq_true]

def top : Nat := 39402006196394479212279040100143613805079739270465446667948293404245721771497210611414266254884915640806627990306816
theorem dig_top : dig top = [0, 0, 0, 0, 0, 0, 0, 0, 0, 0, 0, 0, 1] :=
  (congrArg dig (show top = val [0, 0, 0, 0, 0, 0, 0, 0, 0, 0, 0, 0, 1] by decide)).trans (dig_val [0, 0, 0, 0, 0, 0, 0, 0, 0, 0, 0, 0, 1] (by intro x hx; simp at hx; omega) (.inr (by decide)))
theorem top_len : (dig top).length = 13 := by rw [dig_top]; decide

noncomputable def S70 : List AV → Option Ret := nz (sumOf (fun _ : Unit => True) (fun _ => []) (fun _ => ⟨.osl 0 0 13 1, some (ints .u64 (dig top))⟩))
theorem S70_eq : S70 [] = some ⟨.osl 0 0 13 1, some (ints .u64 (dig top))⟩ := sumOf_eq (dom := fun _ : Unit => True) (enc := fun _ : Unit => []) (out := fun _ => ⟨.osl 0 0 13 1, some (ints .u64 (dig top))⟩) () trivial (fun _ _ _ => rfl)
set_option maxRecDepth 100000 in
theorem snd70 : SndE Tryd.prog NoG 70 S70 := by
  refine snd_nz (snd_by [] [] Tryd.func70 (by kernel_rfl) lite70 nt70 rs70 trivial trivial (fun hT args r h => ?_))
  obtain ⟨_, _, rfl, rfl⟩ := sumOf_inv h
  refine ⟨Nat.le_of_ble_eq_true rfl, fun F => ?_⟩
  unfold L70
  refine Lwp.seq (Lwp.regI hT ?_)
  simp only [L70r0, go_sem, List.isEmpty_nil, isC, eq_self, reduceIte, Nat.reduceAdd, Nat.reduceMul, Nat.reduceSub, Nat.reduceLT, Nat.reduceLeDiff, Nat.reduceEqDiff, Nat.reduceDiv, Nat.reduceMod, Nat.reducePow, Nat.reduceBEq, Nat.reduceBNe, Int.reduceLT, Int.reduceLE, Int.reduceGT, Int.reduceGE, Int.reduceBEq, Int.reduceBNe, Int.reduceToNat, Int.reduceAdd, Int.reduceSub, Int.reduceMul, Int.reduceEq, Int.reduceNeg, reduceCtorEq, decide_true, decide_false, Bool.false_eq_true, ty3, ty4, ty22, ty23, ty24, ty27, ty28, eq24]
  refine Lwp.seq (Lwp.regI hT ?_)
  simp only [L70r1, go_sem, List.isEmpty_nil, isC, eq_self, reduceIte, Nat.reduceAdd, Nat.reduceMul, Nat.reduceSub, Nat.reduceLT, Nat.reduceLeDiff, Nat.reduceEqDiff, Nat.reduceDiv, Nat.reduceMod, Nat.reducePow, Nat.reduceBEq, Nat.reduceBNe, Int.reduceLT, Int.reduceLE, Int.reduceGT, Int.reduceGE, Int.reduceBEq, Int.reduceBNe, Int.reduceToNat, Int.reduceAdd, Int.reduceSub, Int.reduceMul, Int.reduceEq, Int.reduceNeg, reduceCtorEq, decide_true, decide_false, Bool.false_eq_true, ty3, ty4, ty22, ty23, ty24, ty27, ty28, eq24]
  refine Lwp.ret (post_blk (v := .osl 1 0 13 1) 1 ?_ ?_ ?_ ?_)
  · simp only [go_sem, List.isEmpty_nil, isC, eq_self, reduceIte, Nat.reduceAdd, Nat.reduceMul, Nat.reduceSub, Nat.reduceLT, Nat.reduceLeDiff, Nat.reduceEqDiff, Nat.reduceDiv, Nat.reduceMod, Nat.reducePow, Nat.reduceBEq, Nat.reduceBNe, Int.reduceLT, Int.reduceLE, Int.reduceGT, Int.reduceGE, Int.reduceBEq, Int.reduceBNe, Int.reduceToNat, Int.reduceAdd, Int.reduceSub, Int.reduceMul, Int.reduceEq, Int.reduceNeg, reduceCtorEq, decide_true, decide_false, Bool.false_eq_true]
  · simp only [go_sem, List.isEmpty_nil, isC, eq_self, reduceIte, Nat.reduceAdd, Nat.reduceMul, Nat.reduceSub, Nat.reduceLT, Nat.reduceLeDiff, Nat.reduceEqDiff, Nat.reduceDiv, Nat.reduceMod, Nat.reducePow, Nat.reduceBEq, Nat.reduceBNe, Int.reduceLT, Int.reduceLE, Int.reduceGT, Int.reduceGE, Int.reduceBEq, Int.reduceBNe, Int.reduceToNat, Int.reduceAdd, Int.reduceSub, Int.reduceMul, Int.reduceEq, Int.reduceNeg, reduceCtorEq, decide_true, decide_false, Bool.false_eq_true]
  · simp only [go_sem, List.isEmpty_nil, isC, eq_self, reduceIte, Nat.reduceAdd, Nat.reduceMul, Nat.reduceSub, Nat.reduceLT, Nat.reduceLeDiff, Nat.reduceEqDiff, Nat.reduceDiv, Nat.reduceMod, Nat.reducePow, Nat.reduceBEq, Nat.reduceBNe, Int.reduceLT, Int.reduceLE, Int.reduceGT, Int.reduceGE, Int.reduceBEq, Int.reduceBNe, Int.reduceToNat, Int.reduceAdd, Int.reduceSub, Int.reduceMul, Int.reduceEq, Int.reduceNeg, reduceCtorEq, decide_true, decide_false, Bool.false_eq_true, dig_top]; rfl
  · simp only [go_sem, List.isEmpty_nil, isC, eq_self, reduceIte, Nat.reduceAdd, Nat.reduceMul, Nat.reduceSub, Nat.reduceLT, Nat.reduceLeDiff, Nat.reduceEqDiff, Nat.reduceDiv, Nat.reduceMod, Nat.reducePow, Nat.reduceBEq, Nat.reduceBNe, Int.reduceLT, Int.reduceLE, Int.reduceGT, Int.reduceGE, Int.reduceBEq, Int.reduceBNe, Int.reduceToNat, Int.reduceAdd, Int.reduceSub, Int.reduceMul, Int.reduceEq, Int.reduceNeg, reduceCtorEq, decide_true, decide_false, Bool.false_eq_true]

noncomputable def S48 : List AV → Option Ret := nz (sumOf (fun p : Nat => match p with | x => ((dig x).length ≤ 1000000)) (fun p : Nat => match p with | x => [.slc (dig (x)).length (ints .u64 (dig (x)))]) (fun p : Nat => match p with | x => ⟨.agg (ints .u64 (lim6 x)), none⟩))
theorem S48_eq (x : Nat) (h0 : (dig x).length ≤ 1000000) : S48 [.slc (dig (x)).length (ints .u64 (dig (x)))] = some ⟨.agg (ints .u64 (lim6 x)), none⟩ :=
  sumOf_eq (dom := (fun p : Nat => match p with | x => ((dig x).length ≤ 1000000))) (enc := (fun p : Nat => match p with | x => [.slc (dig (x)).length (ints .u64 (dig (x)))])) (out := (fun p : Nat => match p with | x => ⟨.agg (ints .u64 (lim6 x)), none⟩)) x h0 (fun y _ e => by
    simp only [List.cons.injEq, AV.agg.injEq, AV.int.injEq, AV.slc.injEq, AV.iptr.injEq, AV.bool.injEq, AV.str.injEq, ints_injEq, dig_injEq,  Int.ofNat_inj, BitVec.toNat_inj, true_and, and_true] at e
    first | with_reducible rfl | simp only [e] | rfl)
theorem S48_inv {args : List AV} {r : Ret} (h : sumOf (fun p : Nat => match p with | x => ((dig x).length ≤ 1000000)) (fun p : Nat => match p with | x => [.slc (dig (x)).length (ints .u64 (dig (x)))]) (fun p : Nat => match p with | x => ⟨.agg (ints .u64 (lim6 x)), none⟩) args = some r) : ∃ (x : Nat), (((dig x).length ≤ 1000000)) ∧ args = [.slc (dig (x)).length (ints .u64 (dig (x)))] ∧ r = ⟨.agg (ints .u64 (lim6 x)), none⟩ := by
  obtain ⟨x, h1, h2, h3⟩ := sumOf_inv h
  exact ⟨x, h1, h2.symm, h3⟩


def St25 (x i : Nat) : AState := { nt := 39, env := [(0, .slc (dig (x)).length (ints .u64 (dig (x)))), (2, .own 0 0), (3, .own 1 0), (4, .int .i64 i)], mem := [(0, ints .u64 (List.replicate 6 0)), (1, ints .u64 (lim6 (x % 4294967296 ^ i)))], next := 60 }

set_option maxRecDepth 100000 in
theorem snd48 : SndE Tryd.prog NoG 48 S48 := by
  refine snd_nz (snd_by [] [] Tryd.func48 (by kernel_rfl) lite48 nt48 rs48 trivial trivial (fun hT args r h => ?_))
  obtain ⟨x, hd0, rfl, rfl⟩ := S48_inv h
  clear h
  have hM := hM0
  refine ⟨Nat.le_of_ble_eq_true rfl, fun F => ?_⟩
  unfold L48
  refine Lwp.seq (Lwp.regI hT ?_)
  simp only [L48r0, go_sem, List.isEmpty_nil, isC, eq_self, reduceIte, Nat.reduceAdd, Nat.reduceMul, Nat.reduceSub, Nat.reduceLT, Nat.reduceLeDiff, Nat.reduceEqDiff, Nat.reduceDiv, Nat.reduceMod, Nat.reducePow, Nat.reduceBEq, Nat.reduceBNe, Int.reduceLT, Int.reduceLE, Int.reduceGT, Int.reduceGE, Int.reduceBEq, Int.reduceBNe, Int.reduceToNat, Int.reduceAdd, Int.reduceSub, Int.reduceMul, Int.reduceEq, Int.reduceNeg, reduceCtorEq, decide_true, decide_false, Bool.false_eq_true, ty3, ty4, ty22, ty23, ty24, ty27, ty28, eq24]
  refine Lwp.seq (Lwp.regI hT ?_)
  simp only [L48r1, go_sem, List.isEmpty_nil, isC, eq_self, reduceIte, Nat.reduceAdd, Nat.reduceMul, Nat.reduceSub, Nat.reduceLT, Nat.reduceLeDiff, Nat.reduceEqDiff, Nat.reduceDiv, Nat.reduceMod, Nat.reducePow, Nat.reduceBEq, Nat.reduceBNe, Int.reduceLT, Int.reduceLE, Int.reduceGT, Int.reduceGE, Int.reduceBEq, Int.reduceBNe, Int.reduceToNat, Int.reduceAdd, Int.reduceSub, Int.reduceMul, Int.reduceEq, Int.reduceNeg, reduceCtorEq, decide_true, decide_false, Bool.false_eq_true, ty3, ty4, ty22, ty23, ty24, ty27, ty28, eq24]
  refine Lwp.seq (Lwp.seq (Lwp.region hT ?_))
  simp only [L48r2, go_sem, List.isEmpty_nil, isC, eq_self, reduceIte, Nat.reduceAdd, Nat.reduceMul, Nat.reduceSub, Nat.reduceLT, Nat.reduceLeDiff, Nat.reduceEqDiff, Nat.reduceDiv, Nat.reduceMod, Nat.reducePow, Nat.reduceBEq, Nat.reduceBNe, Int.reduceLT, Int.reduceLE, Int.reduceGT, Int.reduceGE, Int.reduceBEq, Int.reduceBNe, Int.reduceToNat, Int.reduceAdd, Int.reduceSub, Int.reduceMul, Int.reduceEq, Int.reduceNeg, reduceCtorEq, decide_true, decide_false, Bool.false_eq_true, ty3]
  refine Lwp.block (Lwp.whl (St25 x) (fun i => i ≤ 12) (fun i => 12 - i) 0 (by decide) ?_ (fun i hi => ?_))
  · refine weak_of rfl ?_ ?_ ?_
    · (simp only [go_sem, List.isEmpty_nil, isC, eq_self, reduceIte, Nat.reduceAdd, Nat.reduceMul, Nat.reduceSub, Nat.reduceLT, Nat.reduceLeDiff, Nat.reduceEqDiff, Nat.reduceDiv, Nat.reduceMod, Nat.reducePow, Nat.reduceBEq, Nat.reduceBNe, Int.reduceLT, Int.reduceLE, Int.reduceGT, Int.reduceGE, Int.reduceBEq, Int.reduceBNe, Int.reduceToNat, Int.reduceAdd, Int.reduceSub, Int.reduceMul, Int.reduceEq, Int.reduceNeg, reduceCtorEq, decide_true, decide_false, Bool.false_eq_true, St25, Nat.pow_zero, Nat.mod_one, lim6_zero]; try rfl)
    · (simp only [go_sem, List.isEmpty_nil, isC, eq_self, reduceIte, Nat.reduceAdd, Nat.reduceMul, Nat.reduceSub, Nat.reduceLT, Nat.reduceLeDiff, Nat.reduceEqDiff, Nat.reduceDiv, Nat.reduceMod, Nat.reducePow, Nat.reduceBEq, Nat.reduceBNe, Int.reduceLT, Int.reduceLE, Int.reduceGT, Int.reduceGE, Int.reduceBEq, Int.reduceBNe, Int.reduceToNat, Int.reduceAdd, Int.reduceSub, Int.reduceMul, Int.reduceEq, Int.reduceNeg, reduceCtorEq, decide_true, decide_false, Bool.false_eq_true, St25, Nat.pow_zero, Nat.mod_one, lim6_zero]; try rfl)
    · (simp only [go_sem, List.isEmpty_nil, isC, eq_self, reduceIte, Nat.reduceAdd, Nat.reduceMul, Nat.reduceSub, Nat.reduceLT, Nat.reduceLeDiff, Nat.reduceEqDiff, Nat.reduceDiv, Nat.reduceMod, Nat.reducePow, Nat.reduceBEq, Nat.reduceBNe, Int.reduceLT, Int.reduceLE, Int.reduceGT, Int.reduceGE, Int.reduceBEq, Int.reduceBNe, Int.reduceToNat, Int.reduceAdd, Int.reduceSub, Int.reduceMul, Int.reduceEq, Int.reduceNeg, reduceCtorEq, decide_true, decide_false, Bool.false_eq_true, St25, Nat.pow_zero, Nat.mod_one, lim6_zero]; try rfl)
  · have fin : lim6 (x % 4294967296 ^ i) = lim6 x → ∀ (env : List (Nat × AV)) (nx : Nat), find env 2 = some (.own 0 0) → find env 3 = some (.own 1 0) → Lwp okDraw (tb Tryd.prog [] []) F ((LC.region L48r8).seq LC.ret) (Post (tb Tryd.prog [] []) [.cell 2 23] ⟨.agg (ints .u64 (lim6 x)), none⟩) { nt := 39, env := env, mem := [(0, ints .u64 (List.replicate 6 0)), (1, ints .u64 (lim6 (x % 4294967296 ^ i)))], next := nx } := by
      intro h1 env nx e1 e2
      refine Lwp.seq (Lwp.regI hT ?_)
      simp only [L48r8, go_sem, List.isEmpty_nil, isC, eq_self, reduceIte, Nat.reduceAdd, Nat.reduceMul, Nat.reduceSub, Nat.reduceLT, Nat.reduceLeDiff, Nat.reduceEqDiff, Nat.reduceDiv, Nat.reduceMod, Nat.reducePow, Nat.reduceBEq, Nat.reduceBNe, Int.reduceLT, Int.reduceLE, Int.reduceGT, Int.reduceGE, Int.reduceBEq, Int.reduceBNe, Int.reduceToNat, Int.reduceAdd, Int.reduceSub, Int.reduceMul, Int.reduceEq, Int.reduceNeg, reduceCtorEq, decide_true, decide_false, Bool.false_eq_true, ty3, ty4, ty22, ty23, ty24, ty27, ty28, eq24, e1, e2, h1, lim6_len]
      refine Lwp.ret (post_val (v := .agg (ints .u64 (lim6 x))) ?_ ?_)
      · simp only [go_sem, List.isEmpty_nil, isC, eq_self, reduceIte, Nat.reduceAdd, Nat.reduceMul, Nat.reduceSub, Nat.reduceLT, Nat.reduceLeDiff, Nat.reduceEqDiff, Nat.reduceDiv, Nat.reduceMod, Nat.reducePow, Nat.reduceBEq, Nat.reduceBNe, Int.reduceLT, Int.reduceLE, Int.reduceGT, Int.reduceGE, Int.reduceBEq, Int.reduceBNe, Int.reduceToNat, Int.reduceAdd, Int.reduceSub, Int.reduceMul, Int.reduceEq, Int.reduceNeg, reduceCtorEq, decide_true, decide_false, Bool.false_eq_true, ty23, e1, lim6_len]
      · simp only [go_sem, List.isEmpty_nil, isC, eq_self, reduceIte, Nat.reduceAdd, Nat.reduceMul, Nat.reduceSub, Nat.reduceLT, Nat.reduceLeDiff, Nat.reduceEqDiff, Nat.reduceDiv, Nat.reduceMod, Nat.reducePow, Nat.reduceBEq, Nat.reduceBNe, Int.reduceLT, Int.reduceLE, Int.reduceGT, Int.reduceGE, Int.reduceBEq, Int.reduceBNe, Int.reduceToNat, Int.reduceAdd, Int.reduceSub, Int.reduceMul, Int.reduceEq, Int.reduceNeg, reduceCtorEq, decide_true, decide_false, Bool.false_eq_true]
    refine Lwp.seq (Lwp.seq (Lwp.region hT ?_))
    by_cases h12 : i < 12
    · have a1 : (i : Int) < 12 := by omega
      by_cases hl : i < (dig x).length
      · have a2 : (i : Int) < (dig x).length := by omega
        have a3 : (0 : Int) ≤ i := by omega
        have a4 := wrap_succ' (n := i) (by omega)
        have g := dig_getD x i
        simp only [L48r3, St25, go_sem, List.isEmpty_nil, isC, eq_self, reduceIte, Nat.reduceAdd, Nat.reduceMul, Nat.reduceSub, Nat.reduceLT, Nat.reduceLeDiff, Nat.reduceEqDiff, Nat.reduceDiv, Nat.reduceMod, Nat.reducePow, Nat.reduceBEq, Nat.reduceBNe, Int.reduceLT, Int.reduceLE, Int.reduceGT, Int.reduceGE, Int.reduceBEq, Int.reduceBNe, Int.reduceToNat, Int.reduceAdd, Int.reduceSub, Int.reduceMul, Int.reduceEq, Int.reduceNeg, reduceCtorEq, decide_true, decide_false, Bool.false_eq_true, ty3, ty28, a1, a2]
        refine Lwp.cond rfl (fun _ => Lwp.skip ?_) (fun h => by cases h)
        simp only [go_sem, List.isEmpty_nil, isC, eq_self, reduceIte, Nat.reduceAdd, Nat.reduceMul, Nat.reduceSub, Nat.reduceLT, Nat.reduceLeDiff, Nat.reduceEqDiff, Nat.reduceDiv, Nat.reduceMod, Nat.reducePow, Nat.reduceBEq, Nat.reduceBNe, Int.reduceLT, Int.reduceLE, Int.reduceGT, Int.reduceGE, Int.reduceBEq, Int.reduceBNe, Int.reduceToNat, Int.reduceAdd, Int.reduceSub, Int.reduceMul, Int.reduceEq, Int.reduceNeg, reduceCtorEq, decide_true, decide_false, Bool.false_eq_true]
        refine Lwp.seq (Lwp.block (Lwp.seq (Lwp.region hT ?_)))
        rcases Nat.mod_two_eq_zero_or_one i with hp | hp
        · obtain ⟨j, rfl⟩ : ∃ j, i = 2 * j := ⟨i / 2, by omega⟩
          have c1 : (((2 * j : Nat) : Int).tmod 2 == 0) = true := by rw [Int.tmod_eq_emod_of_nonneg (by omega)]; simp; try omega
          have c2 : IntKind.i64.wrap (((2 * j : Nat) : Int).tdiv 2) = (j : Int) := by rw [Int.tdiv_eq_ediv_of_nonneg (by omega), wrap_i64 (by omega) (by omega)]; omega
          have c3 : (0 : Int) ≤ (j : Int) := by omega
          have c4 : (j : Int) < 6 := by omega
          have c5 : j ≤ 5 := by omega
          have c6 : j < 6 := by omega
          simp only [L48r5, go_sem, List.isEmpty_nil, isC, eq_self, reduceIte, Nat.reduceAdd, Nat.reduceMul, Nat.reduceSub, Nat.reduceLT, Nat.reduceLeDiff, Nat.reduceEqDiff, Nat.reduceDiv, Nat.reduceMod, Nat.reducePow, Nat.reduceBEq, Nat.reduceBNe, Int.reduceLT, Int.reduceLE, Int.reduceGT, Int.reduceGE, Int.reduceBEq, Int.reduceBNe, Int.reduceToNat, Int.reduceAdd, Int.reduceSub, Int.reduceMul, Int.reduceEq, Int.reduceNeg, reduceCtorEq, decide_true, decide_false, Bool.false_eq_true, ty3, c1]
          refine Lwp.cond rfl (fun _ => ?_) (fun h => by cases h)
          refine Lwp.regI hT ?_
          simp only [L48r6, go_sem, List.isEmpty_nil, isC, eq_self, reduceIte, Nat.reduceAdd, Nat.reduceMul, Nat.reduceSub, Nat.reduceLT, Nat.reduceLeDiff, Nat.reduceEqDiff, Nat.reduceDiv, Nat.reduceMod, Nat.reducePow, Nat.reduceBEq, Nat.reduceBNe, Int.reduceLT, Int.reduceLE, Int.reduceGT, Int.reduceGE, Int.reduceBEq, Int.reduceBNe, Int.reduceToNat, Int.reduceAdd, Int.reduceSub, Int.reduceMul, Int.reduceEq, Int.reduceNeg, reduceCtorEq, decide_true, decide_false, Bool.false_eq_true, ty3, ty4, ty22, ty23, ty24, ty27, ty28, eq24, c2, c3, c4, c5, c6, a2, a3, hl, lim6_len, g, lim6_lo]
          refine Lwp.regI hT ?_
          simp only [L48r4, go_sem, List.isEmpty_nil, isC, eq_self, reduceIte, Nat.reduceAdd, Nat.reduceMul, Nat.reduceSub, Nat.reduceLT, Nat.reduceLeDiff, Nat.reduceEqDiff, Nat.reduceDiv, Nat.reduceMod, Nat.reducePow, Nat.reduceBEq, Nat.reduceBNe, Int.reduceLT, Int.reduceLE, Int.reduceGT, Int.reduceGE, Int.reduceBEq, Int.reduceBNe, Int.reduceToNat, Int.reduceAdd, Int.reduceSub, Int.reduceMul, Int.reduceEq, Int.reduceNeg, reduceCtorEq, decide_true, decide_false, Bool.false_eq_true, ty3, ty4, ty22, ty23, ty24, ty27, ty28, eq24, a4]
          refine ⟨2 * j + 1, by omega, by omega, ?_⟩
          refine weak_of rfl ?_ ?_ ?_
          · (simp only [go_sem, List.isEmpty_nil, isC, eq_self, reduceIte, Nat.reduceAdd, Nat.reduceMul, Nat.reduceSub, Nat.reduceLT, Nat.reduceLeDiff, Nat.reduceEqDiff, Nat.reduceDiv, Nat.reduceMod, Nat.reducePow, Nat.reduceBEq, Nat.reduceBNe, Int.reduceLT, Int.reduceLE, Int.reduceGT, Int.reduceGE, Int.reduceBEq, Int.reduceBNe, Int.reduceToNat, Int.reduceAdd, Int.reduceSub, Int.reduceMul, Int.reduceEq, Int.reduceNeg, reduceCtorEq, decide_true, decide_false, Bool.false_eq_true, St25]; try rfl)
          · (simp only [go_sem, List.isEmpty_nil, isC, eq_self, reduceIte, Nat.reduceAdd, Nat.reduceMul, Nat.reduceSub, Nat.reduceLT, Nat.reduceLeDiff, Nat.reduceEqDiff, Nat.reduceDiv, Nat.reduceMod, Nat.reducePow, Nat.reduceBEq, Nat.reduceBNe, Int.reduceLT, Int.reduceLE, Int.reduceGT, Int.reduceGE, Int.reduceBEq, Int.reduceBNe, Int.reduceToNat, Int.reduceAdd, Int.reduceSub, Int.reduceMul, Int.reduceEq, Int.reduceNeg, reduceCtorEq, decide_true, decide_false, Bool.false_eq_true, St25]; try rfl)
          · (simp only [go_sem, List.isEmpty_nil, isC, eq_self, reduceIte, Nat.reduceAdd, Nat.reduceMul, Nat.reduceSub, Nat.reduceLT, Nat.reduceLeDiff, Nat.reduceEqDiff, Nat.reduceDiv, Nat.reduceMod, Nat.reducePow, Nat.reduceBEq, Nat.reduceBNe, Int.reduceLT, Int.reduceLE, Int.reduceGT, Int.reduceGE, Int.reduceBEq, Int.reduceBNe, Int.reduceToNat, Int.reduceAdd, Int.reduceSub, Int.reduceMul, Int.reduceEq, Int.reduceNeg, reduceCtorEq, decide_true, decide_false, Bool.false_eq_true, St25]; try rfl)
        · obtain ⟨j, rfl⟩ : ∃ j, i = 2 * j + 1 := ⟨i / 2, by omega⟩
          have c1 : (((2 * j + 1 : Nat) : Int).tmod 2 == 0) = false := by rw [Int.tmod_eq_emod_of_nonneg (by omega)]; simp; try omega
          have c2 : IntKind.i64.wrap (((2 * j + 1 : Nat) : Int).tdiv 2) = (j : Int) := by rw [Int.tdiv_eq_ediv_of_nonneg (by omega), wrap_i64 (by omega) (by omega)]; omega
          have c3 : (0 : Int) ≤ (j : Int) := by omega
          have c4 : (j : Int) < 6 := by omega
          have c5 : j ≤ 5 := by omega
          have c6 : j < 6 := by omega
          have hi' := lim6_hi x j c6
          have gl := lim6_getD (x % 4294967296 ^ (2 * j + 1)) c6
          have hsm : x % 4294967296 ^ (2 * j + 1) / 18446744073709551616 ^ j < 4294967296 := Nat.div_lt_of_lt_mul (by rw [← pow_two33]; exact Nat.mod_lt _ (Nat.pow_pos (by decide)))
          have gl2 : 0 ≤ (lim6 (x % 4294967296 ^ (2 * j + 1))).getD j 0 ∧ (lim6 (x % 4294967296 ^ (2 * j + 1))).getD j 0 < 4294967296 := by
            rw [gl, Nat.mod_eq_of_lt (by omega)]; generalize x % 4294967296 ^ (2 * j + 1) / 18446744073709551616 ^ j = q at hsm ⊢; omega
          have dd := (dig_D32 x).at (2 * j + 1)
          clear gl
          have c7 : IntKind.u64.wrap ((dig x).getD (2 * j + 1) 0 * 4294967296) = (dig x).getD (2 * j + 1) 0 * 4294967296 := wrap_u64 (by omega) (by omega)
          have c8 : IntKind.u64.wrap ((lim6 (x % 4294967296 ^ (2 * j + 1))).getD j 0 + (dig x).getD (2 * j + 1) 0 * 4294967296) = (lim6 (x % 4294967296 ^ (2 * j + 1))).getD j 0 + (dig x).getD (2 * j + 1) 0 * 4294967296 := wrap_u64 (by omega) (by omega)
          rw [← g] at hi'
          simp only [L48r5, go_sem, List.isEmpty_nil, isC, eq_self, reduceIte, Nat.reduceAdd, Nat.reduceMul, Nat.reduceSub, Nat.reduceLT, Nat.reduceLeDiff, Nat.reduceEqDiff, Nat.reduceDiv, Nat.reduceMod, Nat.reducePow, Nat.reduceBEq, Nat.reduceBNe, Int.reduceLT, Int.reduceLE, Int.reduceGT, Int.reduceGE, Int.reduceBEq, Int.reduceBNe, Int.reduceToNat, Int.reduceAdd, Int.reduceSub, Int.reduceMul, Int.reduceEq, Int.reduceNeg, reduceCtorEq, decide_true, decide_false, Bool.false_eq_true, ty3, c1]
          refine Lwp.cond rfl (fun h => by cases h) (fun _ => ?_)
          refine Lwp.regD hT hM ?_
          simp only [L48r7, go_sem, List.isEmpty_nil, isC, eq_self, reduceIte, Nat.reduceAdd, Nat.reduceMul, Nat.reduceSub, Nat.reduceLT, Nat.reduceLeDiff, Nat.reduceEqDiff, Nat.reduceDiv, Nat.reduceMod, Nat.reducePow, Nat.reduceBEq, Nat.reduceBNe, Int.reduceLT, Int.reduceLE, Int.reduceGT, Int.reduceGE, Int.reduceBEq, Int.reduceBNe, Int.reduceToNat, Int.reduceAdd, Int.reduceSub, Int.reduceMul, Int.reduceEq, Int.reduceNeg, reduceCtorEq, decide_true, decide_false, Bool.false_eq_true, ty3, ty4, ty22, ty23, ty24, ty27, ty28, eq24, c2, c3, c4, c5, c6, c7, c8, a2, a3, hl, lim6_len, hi']
          refine Lwp.regI hT ?_
          simp only [L48r4, go_sem, List.isEmpty_nil, isC, eq_self, reduceIte, Nat.reduceAdd, Nat.reduceMul, Nat.reduceSub, Nat.reduceLT, Nat.reduceLeDiff, Nat.reduceEqDiff, Nat.reduceDiv, Nat.reduceMod, Nat.reducePow, Nat.reduceBEq, Nat.reduceBNe, Int.reduceLT, Int.reduceLE, Int.reduceGT, Int.reduceGE, Int.reduceBEq, Int.reduceBNe, Int.reduceToNat, Int.reduceAdd, Int.reduceSub, Int.reduceMul, Int.reduceEq, Int.reduceNeg, reduceCtorEq, decide_true, decide_false, Bool.false_eq_true, ty3, ty4, ty22, ty23, ty24, ty27, ty28, eq24, a4]
          refine ⟨2 * j + 2, by omega, by omega, ?_⟩
          refine weak_of rfl ?_ ?_ ?_
          · (simp only [go_sem, List.isEmpty_nil, isC, eq_self, reduceIte, Nat.reduceAdd, Nat.reduceMul, Nat.reduceSub, Nat.reduceLT, Nat.reduceLeDiff, Nat.reduceEqDiff, Nat.reduceDiv, Nat.reduceMod, Nat.reducePow, Nat.reduceBEq, Nat.reduceBNe, Int.reduceLT, Int.reduceLE, Int.reduceGT, Int.reduceGE, Int.reduceBEq, Int.reduceBNe, Int.reduceToNat, Int.reduceAdd, Int.reduceSub, Int.reduceMul, Int.reduceEq, Int.reduceNeg, reduceCtorEq, decide_true, decide_false, Bool.false_eq_true, St25, show 2 * j + 2 = 2 * (j + 1) from rfl]; try rfl)
          · (simp only [go_sem, List.isEmpty_nil, isC, eq_self, reduceIte, Nat.reduceAdd, Nat.reduceMul, Nat.reduceSub, Nat.reduceLT, Nat.reduceLeDiff, Nat.reduceEqDiff, Nat.reduceDiv, Nat.reduceMod, Nat.reducePow, Nat.reduceBEq, Nat.reduceBNe, Int.reduceLT, Int.reduceLE, Int.reduceGT, Int.reduceGE, Int.reduceBEq, Int.reduceBNe, Int.reduceToNat, Int.reduceAdd, Int.reduceSub, Int.reduceMul, Int.reduceEq, Int.reduceNeg, reduceCtorEq, decide_true, decide_false, Bool.false_eq_true, St25, show 2 * j + 2 = 2 * (j + 1) from rfl]; try rfl)
          · (simp only [go_sem, List.isEmpty_nil, isC, eq_self, reduceIte, Nat.reduceAdd, Nat.reduceMul, Nat.reduceSub, Nat.reduceLT, Nat.reduceLeDiff, Nat.reduceEqDiff, Nat.reduceDiv, Nat.reduceMod, Nat.reducePow, Nat.reduceBEq, Nat.reduceBNe, Int.reduceLT, Int.reduceLE, Int.reduceGT, Int.reduceGE, Int.reduceBEq, Int.reduceBNe, Int.reduceToNat, Int.reduceAdd, Int.reduceSub, Int.reduceMul, Int.reduceEq, Int.reduceNeg, reduceCtorEq, decide_true, decide_false, Bool.false_eq_true, St25, show 2 * j + 2 = 2 * (j + 1) from rfl]; try rfl)
      · have a2 : ¬ (i : Int) < (dig x).length := by omega
        simp only [L48r3, St25, go_sem, List.isEmpty_nil, isC, eq_self, reduceIte, Nat.reduceAdd, Nat.reduceMul, Nat.reduceSub, Nat.reduceLT, Nat.reduceLeDiff, Nat.reduceEqDiff, Nat.reduceDiv, Nat.reduceMod, Nat.reducePow, Nat.reduceBEq, Nat.reduceBNe, Int.reduceLT, Int.reduceLE, Int.reduceGT, Int.reduceGE, Int.reduceBEq, Int.reduceBNe, Int.reduceToNat, Int.reduceAdd, Int.reduceSub, Int.reduceMul, Int.reduceEq, Int.reduceNeg, reduceCtorEq, decide_true, decide_false, Bool.false_eq_true, ty3, ty28, a1, a2]
        refine Lwp.cond rfl (fun h => by cases h) (fun _ => Lwp.exit ?_)
        simp only [go_sem, List.isEmpty_nil, isC, eq_self, reduceIte, Nat.reduceAdd, Nat.reduceMul, Nat.reduceSub, Nat.reduceLT, Nat.reduceLeDiff, Nat.reduceEqDiff, Nat.reduceDiv, Nat.reduceMod, Nat.reducePow, Nat.reduceBEq, Nat.reduceBNe, Int.reduceLT, Int.reduceLE, Int.reduceGT, Int.reduceGE, Int.reduceBEq, Int.reduceBNe, Int.reduceToNat, Int.reduceAdd, Int.reduceSub, Int.reduceMul, Int.reduceEq, Int.reduceNeg, reduceCtorEq, decide_true, decide_false, Bool.false_eq_true]
        refine fin ?_ _ _ rfl rfl
        rw [Nat.mod_eq_of_lt ((dig_len_le x i).1 (by omega))]
    · have h12' : i = 12 := by omega
      subst h12'
      have a1 : ¬ ((12 : Nat) : Int) < 12 := by omega
      simp only [L48r3, St25, go_sem, List.isEmpty_nil, isC, eq_self, reduceIte, Nat.reduceAdd, Nat.reduceMul, Nat.reduceSub, Nat.reduceLT, Nat.reduceLeDiff, Nat.reduceEqDiff, Nat.reduceDiv, Nat.reduceMod, Nat.reducePow, Nat.reduceBEq, Nat.reduceBNe, Int.reduceLT, Int.reduceLE, Int.reduceGT, Int.reduceGE, Int.reduceBEq, Int.reduceBNe, Int.reduceToNat, Int.reduceAdd, Int.reduceSub, Int.reduceMul, Int.reduceEq, Int.reduceNeg, reduceCtorEq, decide_true, decide_false, Bool.false_eq_true, ty3, ty28, a1]
      refine Lwp.cond rfl (fun h => by cases h) (fun _ => Lwp.exit ?_)
      simp only [go_sem, List.isEmpty_nil, isC, eq_self, reduceIte, Nat.reduceAdd, Nat.reduceMul, Nat.reduceSub, Nat.reduceLT, Nat.reduceLeDiff, Nat.reduceEqDiff, Nat.reduceDiv, Nat.reduceMod, Nat.reducePow, Nat.reduceBEq, Nat.reduceBNe, Int.reduceLT, Int.reduceLE, Int.reduceGT, Int.reduceGE, Int.reduceBEq, Int.reduceBNe, Int.reduceToNat, Int.reduceAdd, Int.reduceSub, Int.reduceMul, Int.reduceEq, Int.reduceNeg, reduceCtorEq, decide_true, decide_false, Bool.false_eq_true]
      refine fin (lim6_mod x) _ _ rfl rfl
end Eng


namespace Eng
open Go Go.Proofs
set_option linter.unusedSimpArgs false
set_option linter.unusedVariables false
/- Sums and differences of limbs. -/
theorem v64_lim6 {x : Nat} (h : x < 18446744073709551616 ^ 6) : v64 (lim6 x) = x := by
  have key : ∀ n, v64 ((List.range n).map (fun j => ((x / 18446744073709551616 ^ j % 18446744073709551616 : Nat) : Int))) = x % 18446744073709551616 ^ n := by
    have app : ∀ a b : List Int, v64 (a ++ b) = v64 a + 18446744073709551616 ^ a.length * v64 b := by
      intro a b
      induction a with
      | nil => simp [v64]
      | cons y a ih =>
        simp only [List.cons_append, v64, ih, List.length_cons, Nat.pow_succ]
        rw [Nat.mul_add, Nat.add_assoc, ← Nat.mul_assoc, Nat.mul_comm 18446744073709551616 (18446744073709551616 ^ _)]
    intro n
    induction n with
    | zero => simp [v64, Nat.mod_one]
    | succ n ih =>
      rw [List.range_succ, List.map_append, app, ih, Nat.mod_pow_succ]
      simp only [List.length_map, List.length_range, List.map_cons, List.map_nil, v64, Int.toNat_natCast, Nat.mul_zero, Nat.add_zero]
  unfold lim6 tab
  rw [key, Nat.mod_eq_of_lt h]
theorem U6_lim (x : Nat) : U6 (lim6 x) := ⟨lim6_len x, lim6_D64 x⟩
theorem addC_lim (x y : Nat) : ∀ i, i ≤ 6 → addC (lim6 x) (lim6 y) i = (((x % 18446744073709551616 ^ i + y % 18446744073709551616 ^ i) / 18446744073709551616 ^ i : Nat) : Int)
  | 0, _ => by simp [addC, Nat.mod_one]
  | i + 1, h => by
    rw [addC, addC_lim x y i (by omega), lim6_getD x (by omega), lim6_getD y (by omega), add_car 18446744073709551616 x y i (by decide)]
    omega
theorem addD_lim (x y : Nat) : tab 6 (addD (lim6 x) (lim6 y)) = lim6 (x + y) := tab_ext fun i hi => by
  rw [addD, addC_lim x y i (by omega), lim6_getD x hi, lim6_getD y hi, add_dig 18446744073709551616 x y i (by decide)]
  omega
theorem addC_six {x y : Nat} (hx : x < 18446744073709551616 ^ 6) (hy : y < 18446744073709551616 ^ 6) : addC (lim6 x) (lim6 y) 6 = if x + y < 18446744073709551616 ^ 6 then 0 else 1 := by
  rw [addC_lim x y 6 (by decide), Nat.mod_eq_of_lt hx, Nat.mod_eq_of_lt hy]
  split
  · rename_i h; rw [Nat.div_eq_of_lt h]; rfl
  · rename_i h
    have : (x + y) / 18446744073709551616 ^ 6 = 1 := by
      rw [Nat.div_eq_iff (by decide)]; omega
    rw [this]; rfl
theorem subC_lim (x y : Nat) : ∀ i, i ≤ 6 → subC (lim6 x) (lim6 y) i = ((borrow 18446744073709551616 x y i : Nat) : Int)
  | 0, _ => by simp [subC, borrow, Nat.mod_one]
  | i + 1, h => by
    rw [subC, subC_lim x y i (by omega), lim6_getD x (by omega), lim6_getD y (by omega), bor_succ 18446744073709551616 x y i (by decide)]
    split <;> split <;> omega
theorem subC_six {x y : Nat} (hx : x < 18446744073709551616 ^ 6) (hy : y < 18446744073709551616 ^ 6) : subC (lim6 x) (lim6 y) 6 = if x < y then 1 else 0 := by
  rw [subC_lim x y 6 (by decide), borrow, Nat.mod_eq_of_lt hx, Nat.mod_eq_of_lt hy]
  split <;> rfl
/-- The limbs of an integer. -/
def limZ (z : Int) : List Int := tab 6 (fun j => z / (18446744073709551616 : Int) ^ j % 18446744073709551616)
theorem limZ_nat (x : Nat) : limZ (x : Int) = lim6 x := tab_ext fun i _ => by
  rfl
theorem subD_lim (x y : Nat) : tab 6 (subD (lim6 x) (lim6 y)) = limZ ((x : Int) - y) := tab_ext fun i hi => by
  have h := sub_dig 18446744073709551616 x y i (by decide)
  rw [subD, subC_lim x y i (by omega), lim6_getD x hi, lim6_getD y hi]
  exact h.symm
theorem limZ_add (z : Int) : limZ (z + 18446744073709551616 ^ 6) = limZ z := tab_ext fun i hi => by
  obtain ⟨m, hm⟩ : ∃ m, 6 = i + 1 + m := ⟨6 - (i + 1), by omega⟩
  have : (18446744073709551616 : Int) ^ 6 = 18446744073709551616 ^ i * (18446744073709551616 * 18446744073709551616 ^ m) := by rw [hm, Int.pow_add, Int.pow_succ, Int.mul_assoc]
  rw [this, Int.add_mul_ediv_left _ _ (by have : (0 : Int) < 18446744073709551616 ^ i := Int.pow_pos (by decide); omega), Int.add_mul_emod_self_left]
end Eng


namespace Eng
open Go Go.Proofs
set_option linter.unusedSimpArgs false
set_option linter.unusedVariables false
theorem dig12 {x : Nat} (h : x < 18446744073709551616 ^ 6) : (dig x).length ≤ 12 := by rw [dig_len_le]; exact h
theorem S62_lim {x y : Nat} (hx : x < 18446744073709551616 ^ 6) (hy : y < 18446744073709551616 ^ 6) : S62 [.agg (ints .u64 (lim6 x)), .agg (ints .u64 (lim6 y))] = some ⟨.tup [.agg (ints .u64 (lim6 (x + y))), .int .u64 (if x + y < 18446744073709551616 ^ 6 then 0 else 1)], none⟩ := by
  rw [S62_eq _ _ (U6_lim x) (U6_lim y), addD_lim, addC_six hx hy]
theorem S60_lim (x y : Nat) : S60 [.agg (ints .u64 (lim6 x)), .agg (ints .u64 (lim6 y))] = some ⟨.tup [.agg (ints .u64 (limZ ((x : Int) - y))), .int .u64 ((borrow 18446744073709551616 x y 6 : Nat) : Int)], none⟩ := by
  rw [S60_eq _ _ (U6_lim x) (U6_lim y), subD_lim, subC_lim x y 6 (by decide)]
theorem S57_lim {x y : Nat} (hx : x < 18446744073709551616 ^ 6) (hy : y < 18446744073709551616 ^ 6) : S57 [.agg (ints .u64 (lim6 x)), .agg (ints .u64 (lim6 y))] = some ⟨.int .u64 (if x < y then 1 else 0), none⟩ := by
  rw [S57_eq _ _ (U6_lim x) (U6_lim y), subC_six hx hy]

end Eng


namespace Eng
open Go
set_option linter.unusedSimpArgs false
/-- One byte more, in digits of w bytes. -/
theorem tab_byte (N w m i : Nat) (hw : 0 < w) : (tab m (fun j => ((N % 256 ^ i / (256 ^ w) ^ j % 256 ^ w : Nat) : Int))).set (i / w) (((N % 256 ^ i / (256 ^ w) ^ (i / w) % 256 ^ w + N / 256 ^ i % 256 * 256 ^ (i % w) : Nat) : Int)) = tab m (fun j => ((N % 256 ^ (i + 1) / (256 ^ w) ^ j % 256 ^ w : Nat) : Int)) := by
  refine tab_set _ _ _ _ _ fun k hk => ?_
  rw [Nat.mod_pow_succ]
  have hr : N % 256 ^ i < 256 ^ i := Nat.mod_lt _ (Nat.pow_pos (by decide))
  have hd : N / 256 ^ i % 256 < 256 := Nat.mod_lt _ (by decide)
  have hs := Nat.mod_lt i hw
  have ei : 256 ^ i = (256 ^ w) ^ (i / w) * 256 ^ (i % w) := by rw [← Nat.pow_mul, ← Nat.pow_add, Nat.div_add_mod]
  have hb : (256 : Nat) ^ (i % w) * 256 ≤ 256 ^ w := by rw [← Nat.pow_succ]; exact Nat.pow_le_pow_right (by decide) hs
  generalize N % 256 ^ i = r at *
  generalize N / 256 ^ i % 256 = d at *
  rw [ei] at hr ⊢
  have hB : 0 < 256 ^ w := Nat.pow_pos (by decide)
  generalize hq : i / w = q at *
  generalize 256 ^ (i % w) = e at *
  generalize (256 : Nat) ^ w = B at *
  have e1 : r + B ^ q * e * d = r + B ^ q * (e * d) := by rw [Nat.mul_assoc]
  rw [e1]
  have hBq : 0 < B ^ q := Nat.pow_pos hB
  have hrq : r / B ^ q < e := Nat.div_lt_of_lt_mul hr
  have he : e * d + e ≤ e * 256 := by rw [← Nat.mul_succ]; exact Nat.mul_le_mul_left _ hd
  by_cases h1 : k = q
  · subst h1
    rw [if_pos rfl, part_eq hB, Nat.mod_eq_of_lt (by omega), Nat.mod_eq_of_lt (by omega), Nat.mul_comm d e]
  · rw [if_neg h1]
    rcases Nat.lt_or_ge k q with h2 | h2
    · rw [part_lt hB h2]
    · have hlt : r + B ^ q * (e * d) < B ^ k := by
        have h3 : r + B ^ q * (e * d) < B ^ q * B := by
          calc r + B ^ q * (e * d) < B ^ q * e + B ^ q * (e * d) := by omega
            _ = B ^ q * (e * d + e) := by rw [Nat.mul_add]; omega
            _ ≤ B ^ q * B := Nat.mul_le_mul_left _ (by omega)
        have h4 : B ^ (q + 1) ≤ B ^ k := Nat.pow_le_pow_right hB (by omega)
        rw [Nat.pow_succ] at h4; omega
      rw [part_gt hlt, part_gt (show r < B ^ k by omega)]
/-- The number of bytes, the highest first. -/
def bev : List Int → Nat
  | [] => 0
  | x :: l => x.toNat * 256 ^ l.length + bev l
theorem bev_lt : ∀ {l : List Int}, U8L l → bev l < 256 ^ l.length
  | [], _ => by simp [bev]
  | x :: l, h => by
    have h1 := bev_lt (l := l) fun y hy => h y (by simp [hy])
    have hx := h x (by simp)
    rw [bev, List.length_cons, Nat.pow_succ]
    have : x.toNat * 256 ^ l.length ≤ 255 * 256 ^ l.length := Nat.mul_le_mul_right _ (by omega)
    omega
theorem bev_getD : ∀ {l : List Int}, U8L l → ∀ j, j < l.length → l.getD j 0 = ((bev l / 256 ^ (l.length - 1 - j) % 256 : Nat) : Int)
  | [], _, j, h => by simp at h
  | x :: l, h, 0, _ => by
    have hx := h x (by simp)
    have h1 := bev_lt (l := l) fun y hy => h y (by simp [hy])
    rw [bev, List.length_cons, show l.length + 1 - 1 - 0 = l.length by omega, Nat.add_comm, Nat.add_mul_div_right _ _ (Nat.pow_pos (by decide)), Nat.div_eq_of_lt h1]
    simp; omega
  | x :: l, h, j + 1, hj => by
    rw [List.length_cons] at hj
    rw [List.getD_cons_succ, bev_getD (fun y hy => h y (by simp [hy])) j (by omega), bev, List.length_cons, show l.length + 1 - 1 - (j + 1) = l.length - 1 - j by omega, Nat.add_comm, Nat.mul_comm]
    rw [part_lt (by decide) (by omega)]
theorem bev_at {l : List Int} (h : U8L l) {i : Nat} (hi : i < l.length) : l.getD (l.length - 1 - i) 0 = ((bev l / 256 ^ i % 256 : Nat) : Int) := by
  rw [bev_getD h _ (by omega)]
  congr 4; omega
/-- One byte more in limbs. -/
theorem lim6_byte (N i : Nat) : (lim6 (N % 256 ^ i)).set (i / 8) (((N % 256 ^ i / 18446744073709551616 ^ (i / 8) % 18446744073709551616 + N / 256 ^ i % 256 * 256 ^ (i % 8) : Nat) : Int)) = lim6 (N % 256 ^ (i + 1)) := tab_byte N 8 6 i (by decide)
theorem low_byte (N m i : Nat) : (low m (N % 256 ^ i)).set (i / 4) (((N % 256 ^ i / 4294967296 ^ (i / 4) % 4294967296 + N / 256 ^ i % 256 * 256 ^ (i % 4) : Nat) : Int)) = low m (N % 256 ^ (i + 1)) := tab_byte N 4 m i (by decide)
/-- What is or-ed above a number is added. -/
theorem orZ_add {a d s : Nat} (ha : a < 256 ^ s) (hs : s < 8) (hd : d < 256) : orZ .u64 (a : Int) (shlZ .u64 (d : Int) ((8 * s : Nat) : Int)) = ((a + d * 256 ^ s : Nat) : Int) := by
  have e2 : (2 : Nat) ^ (8 * s) = 256 ^ s := by rw [Nat.pow_mul]
  have hb : d * 256 ^ s < 18446744073709551616 := by
    have h1 : d * 256 ^ s ≤ 255 * 256 ^ s := Nat.mul_le_mul_right _ (by omega)
    have h2 : (256 : Nat) ^ s ≤ 256 ^ 7 := Nat.pow_le_pow_right (by decide) (by omega)
    omega
  have ha' : a < 18446744073709551616 := by
    have h2 : (256 : Nat) ^ s ≤ 256 ^ 7 := Nat.pow_le_pow_right (by decide) (by omega)
    omega
  have h : shlZ .u64 (d : Int) ((8 * s : Nat) : Int) = IntKind.u64.wrap ((d : Int) * 2 ^ (min ((8 * s : Nat) : Int).toNat 64)) := rfl
  rw [h, Int.toNat_natCast, Nat.min_eq_left (by omega)]
  have e3 : (d : Int) * 2 ^ (8 * s) = ((d * 256 ^ s : Nat) : Int) := by rw [← e2]; simp
  rw [e3, wrap_u64 (by omega) (by omega), orZ_u64, BitVec.toNat_or, ofInt_toNat (by omega) (by omega), ofInt_toNat (by omega) (by omega), Int.toNat_natCast, Int.toNat_natCast]
  congr 1
  rw [Nat.or_comm, ← e2, ← Nat.shiftLeft_eq, ← Nat.shiftLeft_add_eq_or_of_lt (by rw [e2]; exact ha), Nat.add_comm]
end Eng
namespace Eng
open Go
theorem limb_part_lt (N i : Nat) : N % 256 ^ i / 18446744073709551616 ^ (i / 8) % 18446744073709551616 < 256 ^ (i % 8) := by
  have hr : N % 256 ^ i < 256 ^ i := Nat.mod_lt _ (Nat.pow_pos (by decide))
  have ei : 256 ^ i = 18446744073709551616 ^ (i / 8) * 256 ^ (i % 8) := by
    rw [show (18446744073709551616 : Nat) = 256 ^ 8 from rfl, ← Nat.pow_mul, ← Nat.pow_add, Nat.div_add_mod]
  rw [ei] at hr ⊢
  generalize N % (18446744073709551616 ^ (i / 8) * 256 ^ (i % 8)) = r at *
  have h := Nat.div_lt_of_lt_mul hr
  exact Nat.lt_of_le_of_lt (Nat.mod_le _ _) h
theorem low_mod_full {m x : Nat} {i : Nat} (h : x < 256 ^ i) : low m (x % 256 ^ i) = low m x := by rw [Nat.mod_eq_of_lt h]
theorem bev_fits {b : List Int} (h : U8L b) : bev b < 4294967296 ^ (b.length / 4 + 1) := by
  have h1 := bev_lt h
  have h2 : (4294967296 : Nat) ^ (b.length / 4 + 1) = 256 ^ (4 * (b.length / 4 + 1)) := by rw [Nat.pow_mul]
  rw [h2]
  exact Nat.lt_of_lt_of_le h1 (Nat.pow_le_pow_right (by decide) (by omega))
end Eng


namespace Eng
open Go
set_option linter.unusedSimpArgs false
theorem val_set : ∀ (l : List Int) (i : Nat), i < l.length → ∀ x : Int, val (l.set i x) + 4294967296 ^ i * (l.getD i 0).toNat = val l + 4294967296 ^ i * x.toNat
  | [], i, h, _ => by simp at h
  | y :: l, 0, _, x => by simp [val]; omega
  | y :: l, i + 1, h, x => by
    have := val_set l i (by simpa using h) x
    simp only [List.set_cons_succ, val, List.getD_cons_succ, Nat.pow_succ]
    rw [Nat.mul_comm (4294967296 ^ i) 4294967296, Nat.mul_assoc, Nat.mul_assoc]
    generalize 4294967296 ^ i * (l.getD i 0).toNat = p at *
    generalize 4294967296 ^ i * x.toNat = q at *
    omega
theorem D64.set {l : List Int} (h : D64 l) (i : Nat) {x : Int} (h0 : 0 ≤ x) (h1 : x < 18446744073709551616) : D64 (l.set i x) := by
  intro y hy
  rcases List.mem_or_eq_of_mem_set hy with hy | rfl
  · exact h y hy
  · exact ⟨h0, h1⟩
theorem D32.set {l : List Int} (h : D32 l) (i : Nat) {x : Int} (h0 : 0 ≤ x) (h1 : x < 4294967296) : D32 (l.set i x) := by
  intro y hy
  rcases List.mem_or_eq_of_mem_set hy with hy | rfl
  · exact h y hy
  · exact ⟨h0, h1⟩
theorem D64.at {l : List Int} (h : D64 l) (i : Nat) : 0 ≤ l.getD i 0 ∧ l.getD i 0 < 18446744073709551616 := by
  rcases Nat.lt_or_ge i l.length with hi | hi
  · rw [List.getD_eq_getElem?_getD, List.getElem?_eq_getElem hi, Option.getD_some]
    exact h _ (List.getElem_mem hi)
  · rw [List.getD_eq_getElem?_getD, List.getElem?_eq_none hi]
    exact ⟨by decide, by decide⟩
/-- A step of a product: the digits keep the value. -/
theorem mul_step {B V P x y o c s W Z : Nat} (hs : s = x * y + o + c) (hW : W + P * o = V + P * (s % B)) (hV : V + c * P = Z) : W + s / B * (P * B) = Z + P * (x * y) := by
  have h1 : P * s = P * (x * y) + P * o + P * c := by rw [hs, Nat.mul_add, Nat.mul_add]
  have h2 : P * (s % B) + s / B * (P * B) = P * s := by
    have := Nat.mod_add_div s B
    calc P * (s % B) + s / B * (P * B) = P * (s % B + B * (s / B)) := by rw [Nat.mul_add, Nat.mul_comm (s / B), Nat.mul_assoc]
      _ = P * s := by rw [this]
  have h3 : c * P = P * c := Nat.mul_comm _ _
  omega
theorem mul_fits {B x y o c : Nat} (hx : x < B) (hy : y < B) (ho : o < B) (hc : c < B) : x * y + o + c < B * B := by
  have h1 : x * y ≤ (B - 1) * (B - 1) := Nat.mul_le_mul (by omega) (by omega)
  obtain ⟨b, rfl⟩ : ∃ b, B = b + 1 := ⟨B - 1, by omega⟩
  simp only [Nat.add_sub_cancel] at h1
  have : (b + 1) * (b + 1) = b * b + b + b + 1 := by rw [Nat.add_mul, Nat.mul_add]; omega
  omega
theorem mul_div_lt {B s : Nat} (h : s < B * B) : s / B < B := Nat.div_lt_of_lt_mul h
end Eng
namespace Eng
open Go
theorem val_getD : ∀ {l : List Int}, D32 l → ∀ i, l.getD i 0 = ((val l / 4294967296 ^ i % 4294967296 : Nat) : Int)
  | [], _, i => by simp [val]
  | x :: l, h, 0 => by
    have hx := h x (by simp)
    simp [val]; omega
  | x :: l, h, i + 1 => by
    have hx := h x (by simp)
    rw [List.getD_cons_succ, val_getD (fun y hy => h y (by simp [hy])) i, val, Nat.pow_succ, Nat.mul_comm (4294967296 ^ i), ← Nat.div_div_eq_div_mul]
    rw [show (x.toNat + 4294967296 * val l) / 4294967296 = val l by omega]
theorem low_of {m x : Nat} {l : List Int} (hl : l.length = m) (h : D32 l) (hx : val l = x) : l = low m x := by
  subst hx; exact eq_tab hl fun i _ => val_getD h i
end Eng

