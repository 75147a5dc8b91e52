/- Contracts of the program's functions, and laws over them. There is no further condition. -/
import Derived.Test.YtdpbddomncjkjaaG7
set_option linter.unusedVariables false
set_option linter.unusedSimpArgs false
set_option exponentiation.threshold 2000
namespace Eng
open Go Go.Proofs
set_option linter.unusedSimpArgs false
set_option linter.unusedVariables false
-- TY: ty3, ty4, ty5, ty9, ty22, ty27, ty29, ty30, ty76, ty78, eq22
-- INJ: un_injEq

noncomputable def S68 : List AV → Option Ret := nz (sumOf (fun p : Nat => match p with | n => (n ≤ 100000)) (fun p : Nat => match p with | n => [.int .i64 n]) (fun p : Nat => match p with | n => ⟨.slc 8 (ints .u8 (bytesBE 8 (8 * n))), none⟩))
theorem S68_eq (n : Nat) (h0 : n ≤ 100000) : S68 [.int .i64 n] = some ⟨.slc 8 (ints .u8 (bytesBE 8 (8 * n))), none⟩ :=
  sumOf_eq (dom := (fun p : Nat => match p with | n => (n ≤ 100000))) (enc := (fun p : Nat => match p with | n => [.int .i64 n])) (out := (fun p : Nat => match p with | n => ⟨.slc 8 (ints .u8 (bytesBE 8 (8 * n))), none⟩)) n h0 (fun y _ e => by
    simp only [List.cons.injEq, AV.agg.injEq, AV.int.injEq, AV.slc.injEq, AV.iptr.injEq, AV.bool.injEq, AV.str.injEq, ints_injEq, dig_injEq, un_injEq,  Int.ofNat_inj, BitVec.toNat_inj, true_and, and_true] at e
    first | with_reducible rfl | simp only [e] | rfl)
theorem S68_inv {args : List AV} {r : Ret} (h : sumOf (fun p : Nat => match p with | n => (n ≤ 100000)) (fun p : Nat => match p with | n => [.int .i64 n]) (fun p : Nat => match p with | n => ⟨.slc 8 (ints .u8 (bytesBE 8 (8 * n))), none⟩) args = some r) : ∃ (n : Nat), ((n ≤ 100000)) ∧ args = [.int .i64 n] ∧ r = ⟨.slc 8 (ints .u8 (bytesBE 8 (8 * n))), none⟩ := by
  obtain ⟨x, h1, h2, h3⟩ := sumOf_inv h
  exact ⟨x, h1, h2.symm, h3⟩


set_option maxRecDepth 100000 in
theorem snd68 : SndE Try.prog NoG 68 S68 := by
  refine snd_nz (snd_by [] [] Try.func68 (by kernel_rfl) lite68 nt68 rs68 trivial trivial (fun hT args r h => ?_))
  obtain ⟨n, hd0, rfl, rfl⟩ := S68_inv h
  clear h
  have hM := hM0
  refine ⟨Nat.le_of_ble_eq_true rfl, fun F => ?_⟩
  unfold L68
  have w0 : IntKind.i64.wrap (8 * (n : Int)) = ((8 * n : Nat) : Int) := by rw [wrap_i64 (by omega) (by omega)]; omega
  have hN : 8 * n ≤ 800000 := by omega
  generalize 8 * n = N at *
  refine Lwp.seq (Lwp.regI hT ?_)
  simp only [L68r0, go_sem, List.isEmpty_nil, isC, eq_self, reduceIte, Nat.reduceAdd, Nat.reduceMul, Nat.reduceSub, Nat.reduceLT, Nat.reduceLeDiff, Nat.reduceEqDiff, Nat.reduceDiv, Nat.reduceMod, Nat.reducePow, Nat.reduceBEq, Nat.reduceBNe, Int.reduceLT, Int.reduceLE, Int.reduceGT, Int.reduceGE, Int.reduceBEq, Int.reduceBNe, Int.reduceToNat, Int.reduceAdd, Int.reduceSub, Int.reduceMul, Int.reduceEq, Int.reduceNeg, reduceCtorEq, decide_true, decide_false, Bool.false_eq_true, ty3, ty4, ty5, ty9, ty22, ty27, ty29, ty30, ty76, ty78, eq22]
  refine Lwp.seq (Lwp.regI hT ?_)
  simp only [L68r1, go_sem, List.isEmpty_nil, isC, eq_self, reduceIte, Nat.reduceAdd, Nat.reduceMul, Nat.reduceSub, Nat.reduceLT, Nat.reduceLeDiff, Nat.reduceEqDiff, Nat.reduceDiv, Nat.reduceMod, Nat.reducePow, Nat.reduceBEq, Nat.reduceBNe, Int.reduceLT, Int.reduceLE, Int.reduceGT, Int.reduceGE, Int.reduceBEq, Int.reduceBNe, Int.reduceToNat, Int.reduceAdd, Int.reduceSub, Int.reduceMul, Int.reduceEq, Int.reduceNeg, reduceCtorEq, decide_true, decide_false, Bool.false_eq_true, ty3, ty4, ty5, ty9, ty22, ty27, ty29, ty30, ty76, ty78, eq22, ints_zeros]
  refine Lwp.seq (Lwp.regI hT ?_)
  simp only [L68r2, go_sem, List.isEmpty_nil, isC, eq_self, reduceIte, Nat.reduceAdd, Nat.reduceMul, Nat.reduceSub, Nat.reduceLT, Nat.reduceLeDiff, Nat.reduceEqDiff, Nat.reduceDiv, Nat.reduceMod, Nat.reducePow, Nat.reduceBEq, Nat.reduceBNe, Int.reduceLT, Int.reduceLE, Int.reduceGT, Int.reduceGE, Int.reduceBEq, Int.reduceBNe, Int.reduceToNat, Int.reduceAdd, Int.reduceSub, Int.reduceMul, Int.reduceEq, Int.reduceNeg, reduceCtorEq, decide_true, decide_false, Bool.false_eq_true, ty3, ty4, ty5, ty9, ty22, ty27, ty29, ty30, ty76, ty78, eq22, w0]
  refine Lwp.seq ?_
  refine Lwp.seq (Lwp.regI hT ?_)
  simp only [L68r3, go_sem, List.isEmpty_nil, isC, eq_self, reduceIte, Nat.reduceAdd, Nat.reduceMul, Nat.reduceSub, Nat.reduceLT, Nat.reduceLeDiff, Nat.reduceEqDiff, Nat.reduceDiv, Nat.reduceMod, Nat.reducePow, Nat.reduceBEq, Nat.reduceBNe, Int.reduceLT, Int.reduceLE, Int.reduceGT, Int.reduceGE, Int.reduceBEq, Int.reduceBNe, Int.reduceToNat, Int.reduceAdd, Int.reduceSub, Int.reduceMul, Int.reduceEq, Int.reduceNeg, reduceCtorEq, decide_true, decide_false, Bool.false_eq_true, ty3, ty4, ty5, ty9, ty22, ty27, ty29, ty30, ty76, ty78, eq22]
  refine Lwp.block (Lwp.whl (fun j : Nat => { nt := 21, env := [(0, .int .i64 (N / 256 ^ j : Nat)), (3, .osl 1 0 8 1), (4, .int .i64 (7 - (j : Int)))], mem := [(1, ints .u8 (ends 8 N j))], next := 20 }) (fun j => j ≤ 8) (fun j => 8 - j) 0 (Nat.zero_le _) ?_ ?_)
  · refine weak_of rfl ?_ ?_ ?_
    · (simp only [go_sem, List.isEmpty_nil, isC, eq_self, reduceIte, Nat.reduceAdd, Nat.reduceMul, Nat.reduceSub, Nat.reduceLT, Nat.reduceLeDiff, Nat.reduceEqDiff, Nat.reduceDiv, Nat.reduceMod, Nat.reducePow, Nat.reduceBEq, Nat.reduceBNe, Int.reduceLT, Int.reduceLE, Int.reduceGT, Int.reduceGE, Int.reduceBEq, Int.reduceBNe, Int.reduceToNat, Int.reduceAdd, Int.reduceSub, Int.reduceMul, Int.reduceEq, Int.reduceNeg, reduceCtorEq, decide_true, decide_false, Bool.false_eq_true, ends_zero, Nat.pow_zero, Nat.div_one]; try rfl)
    · (simp only [go_sem, List.isEmpty_nil, isC, eq_self, reduceIte, Nat.reduceAdd, Nat.reduceMul, Nat.reduceSub, Nat.reduceLT, Nat.reduceLeDiff, Nat.reduceEqDiff, Nat.reduceDiv, Nat.reduceMod, Nat.reducePow, Nat.reduceBEq, Nat.reduceBNe, Int.reduceLT, Int.reduceLE, Int.reduceGT, Int.reduceGE, Int.reduceBEq, Int.reduceBNe, Int.reduceToNat, Int.reduceAdd, Int.reduceSub, Int.reduceMul, Int.reduceEq, Int.reduceNeg, reduceCtorEq, decide_true, decide_false, Bool.false_eq_true, ends_zero, Nat.pow_zero, Nat.div_one]; try rfl)
    · (simp only [go_sem, List.isEmpty_nil, isC, eq_self, reduceIte, Nat.reduceAdd, Nat.reduceMul, Nat.reduceSub, Nat.reduceLT, Nat.reduceLeDiff, Nat.reduceEqDiff, Nat.reduceDiv, Nat.reduceMod, Nat.reducePow, Nat.reduceBEq, Nat.reduceBNe, Int.reduceLT, Int.reduceLE, Int.reduceGT, Int.reduceGE, Int.reduceBEq, Int.reduceBNe, Int.reduceToNat, Int.reduceAdd, Int.reduceSub, Int.reduceMul, Int.reduceEq, Int.reduceNeg, reduceCtorEq, decide_true, decide_false, Bool.false_eq_true, ends_zero, Nat.pow_zero, Nat.div_one]; try rfl)
  · intro j hj
    refine Lwp.seq ?_
    by_cases h8 : j < 8
    · have j1 : (7 - (j : Int)) ≥ 0 := by omega
      have j2 : (7 - (j : Int)) = ((7 - j : Nat) : Int) := by omega
      have j3 : IntKind.i64.wrap (((7 - j : Nat) : Int) - 1) = 7 - ((j + 1 : Nat) : Int) := by rw [wrap_i64 (by omega) (by omega)]; omega
      have c1 : (0 : Int) ≤ ((7 - j : Nat) : Int) := by omega
      have c2 : ((7 - j : Nat) : Int) < 8 := by omega
      have c3 : 7 - j < 8 := by omega
      have c4 : 7 - j ≤ 7 := by omega
      have es := ends_set 8 N j h8
      rw [show 8 - 1 - j = 7 - j by omega] at es
      have el := ends_len 8 N j
      have t1 : ((N / 256 ^ j : Nat) : Int).tmod 256 = ((N / 256 ^ j % 256 : Nat) : Int) := by rw [Int.tmod_eq_emod_of_nonneg (Int.natCast_nonneg _)]; omega
      have t2 : IntKind.u8.wrap ((N / 256 ^ j % 256 : Nat) : Int) = ((N / 256 ^ j % 256 : Nat) : Int) := wrap_u8 (Int.natCast_nonneg _) (by have : N / 256 ^ j % 256 < 256 := Nat.mod_lt _ (by decide); omega)
      have t3 : IntKind.i64.wrap (((N / 256 ^ j : Nat) : Int).tdiv 256) = ((N / 256 ^ (j + 1) : Nat) : Int) := by
        have e : ((N / 256 ^ j : Nat) : Int) / 256 = ((N / 256 ^ (j + 1) : Nat) : Int) := by rw [Nat.pow_succ, ← Nat.div_div_eq_div_mul]; omega
        have h5 : N / 256 ^ (j + 1) ≤ N := Nat.div_le_self _ _
        rw [Int.tdiv_eq_ediv_of_nonneg (Int.natCast_nonneg _), e]
        generalize N / 256 ^ (j + 1) = q2 at h5 ⊢
        exact wrap_i64 (by omega) (by omega)
      rw [j2] at j1 ⊢
      generalize N / 256 ^ j % 256 = d at *
      generalize N / 256 ^ j = q1 at *
      generalize ends 8 N j = l1 at *
      refine Lwp.seq (Lwp.regI hT ?_)
      simp only [L68r4, go_sem, List.isEmpty_nil, isC, eq_self, reduceIte, Nat.reduceAdd, Nat.reduceMul, Nat.reduceSub, Nat.reduceLT, Nat.reduceLeDiff, Nat.reduceEqDiff, Nat.reduceDiv, Nat.reduceMod, Nat.reducePow, Nat.reduceBEq, Nat.reduceBNe, Int.reduceLT, Int.reduceLE, Int.reduceGT, Int.reduceGE, Int.reduceBEq, Int.reduceBNe, Int.reduceToNat, Int.reduceAdd, Int.reduceSub, Int.reduceMul, Int.reduceEq, Int.reduceNeg, reduceCtorEq, decide_true, decide_false, Bool.false_eq_true, ty3, ty4, ty5, ty9, ty22, ty27, ty29, ty30, ty76, ty78, eq22, j1]
      refine Lwp.cond rfl (fun _ => Lwp.skip ?_) (fun h => by cases h)
      simp only [go_sem, List.isEmpty_nil, isC, eq_self, reduceIte, Nat.reduceAdd, Nat.reduceMul, Nat.reduceSub, Nat.reduceLT, Nat.reduceLeDiff, Nat.reduceEqDiff, Nat.reduceDiv, Nat.reduceMod, Nat.reducePow, Nat.reduceBEq, Nat.reduceBNe, Int.reduceLT, Int.reduceLE, Int.reduceGT, Int.reduceGE, Int.reduceBEq, Int.reduceBNe, Int.reduceToNat, Int.reduceAdd, Int.reduceSub, Int.reduceMul, Int.reduceEq, Int.reduceNeg, reduceCtorEq, decide_true, decide_false, Bool.false_eq_true]
      refine Lwp.seq (Lwp.block ?_)
      refine Lwp.seq (Lwp.regI hT ?_)
      simp only [L68r6, go_sem, List.isEmpty_nil, isC, eq_self, reduceIte, Nat.reduceAdd, Nat.reduceMul, Nat.reduceSub, Nat.reduceLT, Nat.reduceLeDiff, Nat.reduceEqDiff, Nat.reduceDiv, Nat.reduceMod, Nat.reducePow, Nat.reduceBEq, Nat.reduceBNe, Int.reduceLT, Int.reduceLE, Int.reduceGT, Int.reduceGE, Int.reduceBEq, Int.reduceBNe, Int.reduceToNat, Int.reduceAdd, Int.reduceSub, Int.reduceMul, Int.reduceEq, Int.reduceNeg, reduceCtorEq, decide_true, decide_false, Bool.false_eq_true, ty3, ty4, ty5, ty9, ty22, ty27, ty29, ty30, ty76, ty78, eq22, t1, t2, c1, c2, c3, c4, el]
      refine Lwp.regI hT ?_
      simp only [L68r7, go_sem, List.isEmpty_nil, isC, eq_self, reduceIte, Nat.reduceAdd, Nat.reduceMul, Nat.reduceSub, Nat.reduceLT, Nat.reduceLeDiff, Nat.reduceEqDiff, Nat.reduceDiv, Nat.reduceMod, Nat.reducePow, Nat.reduceBEq, Nat.reduceBNe, Int.reduceLT, Int.reduceLE, Int.reduceGT, Int.reduceGE, Int.reduceBEq, Int.reduceBNe, Int.reduceToNat, Int.reduceAdd, Int.reduceSub, Int.reduceMul, Int.reduceEq, Int.reduceNeg, reduceCtorEq, decide_true, decide_false, Bool.false_eq_true, ty3, ty4, ty5, ty9, ty22, ty27, ty29, ty30, ty76, ty78, eq22, t3]
      refine Lwp.regI hT ?_
      simp only [L68r5, go_sem, List.isEmpty_nil, isC, eq_self, reduceIte, Nat.reduceAdd, Nat.reduceMul, Nat.reduceSub, Nat.reduceLT, Nat.reduceLeDiff, Nat.reduceEqDiff, Nat.reduceDiv, Nat.reduceMod, Nat.reducePow, Nat.reduceBEq, Nat.reduceBNe, Int.reduceLT, Int.reduceLE, Int.reduceGT, Int.reduceGE, Int.reduceBEq, Int.reduceBNe, Int.reduceToNat, Int.reduceAdd, Int.reduceSub, Int.reduceMul, Int.reduceEq, Int.reduceNeg, reduceCtorEq, decide_true, decide_false, Bool.false_eq_true, ty3, ty4, ty5, ty9, ty22, ty27, ty29, ty30, ty76, ty78, eq22, j3]
      refine ⟨j + 1, by omega, by omega, ?_⟩
      refine weak_of rfl ?_ ?_ ?_
      · (simp only [go_sem, List.isEmpty_nil, isC, eq_self, reduceIte, Nat.reduceAdd, Nat.reduceMul, Nat.reduceSub, Nat.reduceLT, Nat.reduceLeDiff, Nat.reduceEqDiff, Nat.reduceDiv, Nat.reduceMod, Nat.reducePow, Nat.reduceBEq, Nat.reduceBNe, Int.reduceLT, Int.reduceLE, Int.reduceGT, Int.reduceGE, Int.reduceBEq, Int.reduceBNe, Int.reduceToNat, Int.reduceAdd, Int.reduceSub, Int.reduceMul, Int.reduceEq, Int.reduceNeg, reduceCtorEq, decide_true, decide_false, Bool.false_eq_true, es]; try rfl)
      · (simp only [go_sem, List.isEmpty_nil, isC, eq_self, reduceIte, Nat.reduceAdd, Nat.reduceMul, Nat.reduceSub, Nat.reduceLT, Nat.reduceLeDiff, Nat.reduceEqDiff, Nat.reduceDiv, Nat.reduceMod, Nat.reducePow, Nat.reduceBEq, Nat.reduceBNe, Int.reduceLT, Int.reduceLE, Int.reduceGT, Int.reduceGE, Int.reduceBEq, Int.reduceBNe, Int.reduceToNat, Int.reduceAdd, Int.reduceSub, Int.reduceMul, Int.reduceEq, Int.reduceNeg, reduceCtorEq, decide_true, decide_false, Bool.false_eq_true, es]; try rfl)
      · (simp only [go_sem, List.isEmpty_nil, isC, eq_self, reduceIte, Nat.reduceAdd, Nat.reduceMul, Nat.reduceSub, Nat.reduceLT, Nat.reduceLeDiff, Nat.reduceEqDiff, Nat.reduceDiv, Nat.reduceMod, Nat.reducePow, Nat.reduceBEq, Nat.reduceBNe, Int.reduceLT, Int.reduceLE, Int.reduceGT, Int.reduceGE, Int.reduceBEq, Int.reduceBNe, Int.reduceToNat, Int.reduceAdd, Int.reduceSub, Int.reduceMul, Int.reduceEq, Int.reduceNeg, reduceCtorEq, decide_true, decide_false, Bool.false_eq_true, es]; try rfl)
    · have h8' : j = 8 := by omega
      subst h8'
      have bl := bytesBE_len 8 N
      refine Lwp.seq (Lwp.regI hT ?_)
      simp only [L68r4, go_sem, List.isEmpty_nil, isC, eq_self, reduceIte, Nat.reduceAdd, Nat.reduceMul, Nat.reduceSub, Nat.reduceLT, Nat.reduceLeDiff, Nat.reduceEqDiff, Nat.reduceDiv, Nat.reduceMod, Nat.reducePow, Nat.reduceBEq, Nat.reduceBNe, Int.reduceLT, Int.reduceLE, Int.reduceGT, Int.reduceGE, Int.reduceBEq, Int.reduceBNe, Int.reduceToNat, Int.reduceAdd, Int.reduceSub, Int.reduceMul, Int.reduceEq, Int.reduceNeg, reduceCtorEq, decide_true, decide_false, Bool.false_eq_true, ty3, ty4, ty5, ty9, ty22, ty27, ty29, ty30, ty76, ty78, eq22]
      refine Lwp.cond rfl (fun h => by cases h) (fun _ => Lwp.exit ?_)
      simp only [go_sem, List.isEmpty_nil, isC, eq_self, reduceIte, Nat.reduceAdd, Nat.reduceMul, Nat.reduceSub, Nat.reduceLT, Nat.reduceLeDiff, Nat.reduceEqDiff, Nat.reduceDiv, Nat.reduceMod, Nat.reducePow, Nat.reduceBEq, Nat.reduceBNe, Int.reduceLT, Int.reduceLE, Int.reduceGT, Int.reduceGE, Int.reduceBEq, Int.reduceBNe, Int.reduceToNat, Int.reduceAdd, Int.reduceSub, Int.reduceMul, Int.reduceEq, Int.reduceNeg, reduceCtorEq, decide_true, decide_false, Bool.false_eq_true, ends_full]
      refine Lwp.seq (Lwp.regI hT ?_)
      simp only [L68r8, go_sem, List.isEmpty_nil, isC, eq_self, reduceIte, Nat.reduceAdd, Nat.reduceMul, Nat.reduceSub, Nat.reduceLT, Nat.reduceLeDiff, Nat.reduceEqDiff, Nat.reduceDiv, Nat.reduceMod, Nat.reducePow, Nat.reduceBEq, Nat.reduceBNe, Int.reduceLT, Int.reduceLE, Int.reduceGT, Int.reduceGE, Int.reduceBEq, Int.reduceBNe, Int.reduceToNat, Int.reduceAdd, Int.reduceSub, Int.reduceMul, Int.reduceEq, Int.reduceNeg, reduceCtorEq, decide_true, decide_false, Bool.false_eq_true, ty3, ty4, ty5, ty9, ty22, ty27, ty29, ty30, ty76, ty78, eq22]
      refine Lwp.ret (post_val (v := .osl 1 0 8 1) ?_ ?_)
      · simp only [go_sem, List.isEmpty_nil, isC, eq_self, reduceIte, Nat.reduceAdd, Nat.reduceMul, Nat.reduceSub, Nat.reduceLT, Nat.reduceLeDiff, Nat.reduceEqDiff, Nat.reduceDiv, Nat.reduceMod, Nat.reducePow, Nat.reduceBEq, Nat.reduceBNe, Int.reduceLT, Int.reduceLE, Int.reduceGT, Int.reduceGE, Int.reduceBEq, Int.reduceBNe, Int.reduceToNat, Int.reduceAdd, Int.reduceSub, Int.reduceMul, Int.reduceEq, Int.reduceNeg, reduceCtorEq, decide_true, decide_false, Bool.false_eq_true]
      · simp only [go_sem, List.isEmpty_nil, isC, eq_self, reduceIte, Nat.reduceAdd, Nat.reduceMul, Nat.reduceSub, Nat.reduceLT, Nat.reduceLeDiff, Nat.reduceEqDiff, Nat.reduceDiv, Nat.reduceMod, Nat.reducePow, Nat.reduceBEq, Nat.reduceBNe, Int.reduceLT, Int.reduceLE, Int.reduceGT, Int.reduceGE, Int.reduceBEq, Int.reduceBNe, Int.reduceToNat, Int.reduceAdd, Int.reduceSub, Int.reduceMul, Int.reduceEq, Int.reduceNeg, reduceCtorEq, decide_true, decide_false, Bool.false_eq_true, bl]

theorem optA0 : (none : Option Operand).toArray = #[] := rfl
theorem optA1 (x : Operand) : (some x).toArray = #[x] := rfl
def lastL (A B : Nat) : List Int := bytesBE 8 A ++ bytesBE 8 B
theorem lastL_len (A B : Nat) : (lastL A B).length = 16 := by rw [lastL, List.length_append, bytesBE_len, bytesBE_len]
theorem lastL_U8 (A B : Nat) : U8L (lastL A B) := by
  intro x hx
  rw [lastL, List.mem_append] at hx
  rcases hx with h | h
  · exact bytesBE_U8 _ _ _ h
  · exact bytesBE_U8 _ _ _ h
def wholeV (hh : V) (a b : List Int) : V := gh hh (gh hh (gh hh 0#128 a) b) (lastL (8 * a.length) (8 * b.length))
def endsL (A B i k : Nat) : List Int := ends 8 A i ++ ends 8 B k
theorem endsL_len (A B i k : Nat) : (endsL A B i k).length = 16 := by rw [endsL, List.length_append, ends_len, ends_len]
theorem endsL_lo (A B : Nat) {i : Nat} (k : Nat) (hi : i < 8) : (endsL A B i k).set (7 - i) ((A / 256 ^ i % 256 : Nat) : Int) = endsL A B (i + 1) k := by
  rw [endsL, List.set_append_left _ _ (by rw [ends_len]; omega)]
  have := ends_set 8 A i hi
  rw [show 8 - 1 - i = 7 - i by omega] at this
  rw [this]; rfl
theorem endsL_hi (A B : Nat) (i : Nat) {k : Nat} (hk : k < 8) : (endsL A B i k).set (15 - k) ((B / 256 ^ k % 256 : Nat) : Int) = endsL A B i (k + 1) := by
  rw [endsL, List.set_append_right _ _ (by rw [ends_len]; omega), ends_len]
  have := ends_set 8 B k hk
  rw [show 8 - 1 - k = 15 - k - 8 by omega] at this
  rw [this]; rfl

noncomputable def S45 : List AV → Option Ret := nz (sumOf (fun p : V × List Int × List Int => match p with | (hh, a, b) => (U8L a) ∧ (a.length ≤ 1000000) ∧ (U8L b) ∧ (b.length ≤ 1000000)) (fun p : V × List Int × List Int => match p with | (hh, a, b) => [.agg (ints .u8 (un hh)), .slc a.length (ints .u8 a), .slc b.length (ints .u8 b)]) (fun p : V × List Int × List Int => match p with | (hh, a, b) => ⟨.agg (ints .u8 (un (wholeV hh a b))), none⟩))
theorem S45_eq (hh : V) (a : List Int) (b : List Int) (h0 : U8L a) (h1 : a.length ≤ 1000000) (h2 : U8L b) (h3 : b.length ≤ 1000000) : S45 [.agg (ints .u8 (un hh)), .slc a.length (ints .u8 a), .slc b.length (ints .u8 b)] = some ⟨.agg (ints .u8 (un (wholeV hh a b))), none⟩ :=
  sumOf_eq (dom := (fun p : V × List Int × List Int => match p with | (hh, a, b) => (U8L a) ∧ (a.length ≤ 1000000) ∧ (U8L b) ∧ (b.length ≤ 1000000))) (enc := (fun p : V × List Int × List Int => match p with | (hh, a, b) => [.agg (ints .u8 (un hh)), .slc a.length (ints .u8 a), .slc b.length (ints .u8 b)])) (out := (fun p : V × List Int × List Int => match p with | (hh, a, b) => ⟨.agg (ints .u8 (un (wholeV hh a b))), none⟩)) (hh, a, b) ⟨h0, h1, h2, h3⟩ (fun y _ e => by
    obtain ⟨y0, y1, y2⟩ := y
    simp only [List.cons.injEq, AV.agg.injEq, AV.int.injEq, AV.slc.injEq, AV.iptr.injEq, AV.bool.injEq, AV.str.injEq, ints_injEq, dig_injEq, un_injEq,  Int.ofNat_inj, BitVec.toNat_inj, true_and, and_true] at e
    first | with_reducible rfl | simp only [e] | rfl)
theorem S45_inv {args : List AV} {r : Ret} (h : sumOf (fun p : V × List Int × List Int => match p with | (hh, a, b) => (U8L a) ∧ (a.length ≤ 1000000) ∧ (U8L b) ∧ (b.length ≤ 1000000)) (fun p : V × List Int × List Int => match p with | (hh, a, b) => [.agg (ints .u8 (un hh)), .slc a.length (ints .u8 a), .slc b.length (ints .u8 b)]) (fun p : V × List Int × List Int => match p with | (hh, a, b) => ⟨.agg (ints .u8 (un (wholeV hh a b))), none⟩) args = some r) : ∃ (hh : V) (a : List Int) (b : List Int), ((U8L a) ∧ (a.length ≤ 1000000) ∧ (U8L b) ∧ (b.length ≤ 1000000)) ∧ args = [.agg (ints .u8 (un hh)), .slc a.length (ints .u8 a), .slc b.length (ints .u8 b)] ∧ r = ⟨.agg (ints .u8 (un (wholeV hh a b))), none⟩ := by
  obtain ⟨x, h1, h2, h3⟩ := sumOf_inv h
  obtain ⟨hh, a, b⟩ := x
  exact ⟨hh, a, b, h1, h2.symm, h3⟩


set_option maxRecDepth 100000 in
theorem snd45 : SndE Try.prog NoG 45 S45 := by
  refine snd_nz (snd_by [(66, S66)] [] Try.func45 (by kernel_rfl) lite45 nt45 rs45 ⟨snd66, trivial⟩ trivial (fun hT args r h => ?_))
  obtain ⟨hh, a, b, ⟨hd0, hd1, hd2, hd3⟩, rfl, rfl⟩ := S45_inv h
  clear h
  have hM := hM0
  refine ⟨Nat.le_of_ble_eq_true rfl, fun F => ?_⟩
  unfold L45
  have lh := un_len hh
  have f1 := S66_eq 0#128 hh a hd0 (by omega)
  rw [← zero_un] at f1
  have f2 := S66_eq (gh hh 0#128 a) hh b hd2 (by omega)
  have f3 := S66_eq (gh hh (gh hh 0#128 a) b) hh (lastL (8 * a.length) (8 * b.length)) (lastL_U8 _ _) (by rw [lastL_len]; decide)
  rw [lastL_len] at f3
  have lr := un_len (wholeV hh a b)
  have fe : gh hh (gh hh (gh hh 0#128 a) b) (lastL (8 * a.length) (8 * b.length)) = wholeV hh a b := rfl
  rw [fe] at f3
  have ll := lastL_len (8 * a.length) (8 * b.length)
  have z1 : IntKind.u64.wrap ((a.length : Nat) : Int) = ((a.length : Nat) : Int) := wrap_u64 (by omega) (by omega)
  have z2 : IntKind.u64.wrap ((b.length : Nat) : Int) = ((b.length : Nat) : Int) := wrap_u64 (by omega) (by omega)
  have z3 : IntKind.u64.wrap (((a.length : Nat) : Int) * 8) = ((8 * a.length : Nat) : Int) := by rw [wrap_u64 (by omega) (by omega)]; omega
  have z4 : IntKind.u64.wrap (((b.length : Nat) : Int) * 8) = ((8 * b.length : Nat) : Int) := by rw [wrap_u64 (by omega) (by omega)]; omega
  have fu : endsL (8 * a.length) (8 * b.length) 8 8 = lastL (8 * a.length) (8 * b.length) := by rw [endsL, ends_full, ends_full]; rfl
  have e0 : List.replicate 16 (0 : Int) = endsL (8 * a.length) (8 * b.length) 0 0 := by rw [endsL, ends_zero, ends_zero]; rfl
  have st : sub (ints .u8 (lastL (8 * a.length) (8 * b.length))) 0 16 = ints .u8 (lastL (8 * a.length) (8 * b.length)) := sub_whole (by rw [ints_len, ll])
  clear fe
  generalize wholeV hh a b = wv at *
  generalize 8 * a.length = A at *
  generalize 8 * b.length = B at *
  refine Lwp.seq (Lwp.regI hT ?_)
  simp only [L45r0, go_sem, List.isEmpty_nil, isC, eq_self, reduceIte, Nat.reduceAdd, Nat.reduceMul, Nat.reduceSub, Nat.reduceLT, Nat.reduceLeDiff, Nat.reduceEqDiff, Nat.reduceDiv, Nat.reduceMod, Nat.reducePow, Nat.reduceBEq, Nat.reduceBNe, Int.reduceLT, Int.reduceLE, Int.reduceGT, Int.reduceGE, Int.reduceBEq, Int.reduceBNe, Int.reduceToNat, Int.reduceAdd, Int.reduceSub, Int.reduceMul, Int.reduceEq, Int.reduceNeg, reduceCtorEq, decide_true, decide_false, Bool.false_eq_true, ty3, ty4, ty5, ty9, ty22, ty27, ty29, ty30, ty76, ty78, eq22]
  refine Lwp.seq (Lwp.regI hT ?_)
  simp only [L45r1, go_sem, List.isEmpty_nil, isC, eq_self, reduceIte, Nat.reduceAdd, Nat.reduceMul, Nat.reduceSub, Nat.reduceLT, Nat.reduceLeDiff, Nat.reduceEqDiff, Nat.reduceDiv, Nat.reduceMod, Nat.reducePow, Nat.reduceBEq, Nat.reduceBNe, Int.reduceLT, Int.reduceLE, Int.reduceGT, Int.reduceGE, Int.reduceBEq, Int.reduceBNe, Int.reduceToNat, Int.reduceAdd, Int.reduceSub, Int.reduceMul, Int.reduceEq, Int.reduceNeg, reduceCtorEq, decide_true, decide_false, Bool.false_eq_true, ty3, ty4, ty5, ty9, ty22, ty27, ty29, ty30, ty76, ty78, eq22]
  refine Lwp.seq ?_
  refine Lwp.seq (Lwp.regI hT ?_)
  simp only [L45r2, go_sem, List.isEmpty_nil, isC, eq_self, reduceIte, Nat.reduceAdd, Nat.reduceMul, Nat.reduceSub, Nat.reduceLT, Nat.reduceLeDiff, Nat.reduceEqDiff, Nat.reduceDiv, Nat.reduceMod, Nat.reducePow, Nat.reduceBEq, Nat.reduceBNe, Int.reduceLT, Int.reduceLE, Int.reduceGT, Int.reduceGE, Int.reduceBEq, Int.reduceBNe, Int.reduceToNat, Int.reduceAdd, Int.reduceSub, Int.reduceMul, Int.reduceEq, Int.reduceNeg, reduceCtorEq, decide_true, decide_false, Bool.false_eq_true, ty3, ty4, ty5, ty9, ty22, ty27, ty29, ty30, ty76, ty78, eq22]
  refine Lwp.block (Lwp.range (fun i => { nt := 45, env := [(1, .slc a.length (ints .u8 a)), (2, .slc b.length (ints .u8 b)), (3, .own 0 0), (6, .own 1 0), (7, .own 2 0), (9, .int .i64 i)], mem := [(0, ints .u8 (un hh)), (1, ints .u8 (List.replicate 16 0)), (2, ints .u8 (endsL A B i i))], next := 20 }) 8 ?_ (fun i hi => ?_) ?_)
  · refine weak_of rfl ?_ ?_ ?_
    · (simp only [go_sem, List.isEmpty_nil, isC, eq_self, reduceIte, Nat.reduceAdd, Nat.reduceMul, Nat.reduceSub, Nat.reduceLT, Nat.reduceLeDiff, Nat.reduceEqDiff, Nat.reduceDiv, Nat.reduceMod, Nat.reducePow, Nat.reduceBEq, Nat.reduceBNe, Int.reduceLT, Int.reduceLE, Int.reduceGT, Int.reduceGE, Int.reduceBEq, Int.reduceBNe, Int.reduceToNat, Int.reduceAdd, Int.reduceSub, Int.reduceMul, Int.reduceEq, Int.reduceNeg, reduceCtorEq, decide_true, decide_false, Bool.false_eq_true, ← e0]; try rfl)
    · (simp only [go_sem, List.isEmpty_nil, isC, eq_self, reduceIte, Nat.reduceAdd, Nat.reduceMul, Nat.reduceSub, Nat.reduceLT, Nat.reduceLeDiff, Nat.reduceEqDiff, Nat.reduceDiv, Nat.reduceMod, Nat.reducePow, Nat.reduceBEq, Nat.reduceBNe, Int.reduceLT, Int.reduceLE, Int.reduceGT, Int.reduceGE, Int.reduceBEq, Int.reduceBNe, Int.reduceToNat, Int.reduceAdd, Int.reduceSub, Int.reduceMul, Int.reduceEq, Int.reduceNeg, reduceCtorEq, decide_true, decide_false, Bool.false_eq_true, ← e0]; try rfl)
    · (simp only [go_sem, List.isEmpty_nil, isC, eq_self, reduceIte, Nat.reduceAdd, Nat.reduceMul, Nat.reduceSub, Nat.reduceLT, Nat.reduceLeDiff, Nat.reduceEqDiff, Nat.reduceDiv, Nat.reduceMod, Nat.reducePow, Nat.reduceBEq, Nat.reduceBNe, Int.reduceLT, Int.reduceLE, Int.reduceGT, Int.reduceGE, Int.reduceBEq, Int.reduceBNe, Int.reduceToNat, Int.reduceAdd, Int.reduceSub, Int.reduceMul, Int.reduceEq, Int.reduceNeg, reduceCtorEq, decide_true, decide_false, Bool.false_eq_true, ← e0]; try rfl)
  · have h1 : (i : Int) < 8 := by omega
    have h4 := wrap_succ hi (by decide)
    have c1 : IntKind.i64.wrap (7 - (i : Int)) = ((7 - i : Nat) : Int) := by rw [wrap_i64 (by omega) (by omega)]; omega
    have c2 : IntKind.i64.wrap (15 - (i : Int)) = ((15 - i : Nat) : Int) := by rw [wrap_i64 (by omega) (by omega)]; omega
    have c3 : (0 : Int) ≤ ((7 - i : Nat) : Int) ∧ ((7 - i : Nat) : Int) < 16 ∧ 7 - i < 16 ∧ 7 - i ≤ 15 := by omega
    have c4 : (0 : Int) ≤ ((15 - i : Nat) : Int) ∧ ((15 - i : Nat) : Int) < 16 ∧ 15 - i < 16 ∧ 15 - i ≤ 15 := by omega
    have c5 : IntKind.i64.wrap (8 * (i : Int)) = ((8 * i : Nat) : Int) := by rw [wrap_i64 (by omega) (by omega)]; omega
    have c6 : ¬ ((8 * i : Nat) : Int) < 0 := by omega
    have g1 := shr_byte A i hi
    have g2 := shr_byte B i hi
    have g3 := endsL_lo A B i hi
    have g4 := endsL_hi A B (i + 1) hi
    have g5 := endsL_len A B i i
    have g6 := endsL_len A B (i + 1) i
    generalize A / 256 ^ i % 256 = da at *
    generalize B / 256 ^ i % 256 = db at *
    generalize endsL A B (i + 1) i = lm at *
    generalize 7 - i = q7 at *
    generalize 15 - i = q15 at *
    generalize 8 * i = u at *
    refine Lwp.seq (Lwp.regI hT ?_)
    simp only [L45r3, go_sem, List.isEmpty_nil, isC, eq_self, reduceIte, Nat.reduceAdd, Nat.reduceMul, Nat.reduceSub, Nat.reduceLT, Nat.reduceLeDiff, Nat.reduceEqDiff, Nat.reduceDiv, Nat.reduceMod, Nat.reducePow, Nat.reduceBEq, Nat.reduceBNe, Int.reduceLT, Int.reduceLE, Int.reduceGT, Int.reduceGE, Int.reduceBEq, Int.reduceBNe, Int.reduceToNat, Int.reduceAdd, Int.reduceSub, Int.reduceMul, Int.reduceEq, Int.reduceNeg, reduceCtorEq, decide_true, decide_false, Bool.false_eq_true, ty3, ty4, ty5, ty9, ty22, ty27, ty29, ty30, ty76, ty78, eq22, h1]
    refine Lwp.seq (Lwp.cond rfl (fun _ => Lwp.skip ?_) (fun h => by cases h))
    simp only [go_sem, List.isEmpty_nil, isC, eq_self, reduceIte, Nat.reduceAdd, Nat.reduceMul, Nat.reduceSub, Nat.reduceLT, Nat.reduceLeDiff, Nat.reduceEqDiff, Nat.reduceDiv, Nat.reduceMod, Nat.reducePow, Nat.reduceBEq, Nat.reduceBNe, Int.reduceLT, Int.reduceLE, Int.reduceGT, Int.reduceGE, Int.reduceBEq, Int.reduceBNe, Int.reduceToNat, Int.reduceAdd, Int.reduceSub, Int.reduceMul, Int.reduceEq, Int.reduceNeg, reduceCtorEq, decide_true, decide_false, Bool.false_eq_true]
    refine Lwp.seq (Lwp.block ?_)
    refine Lwp.seq (Lwp.regI hT ?_)
    simp only [L45r4, go_sem, List.isEmpty_nil, isC, eq_self, reduceIte, Nat.reduceAdd, Nat.reduceMul, Nat.reduceSub, Nat.reduceLT, Nat.reduceLeDiff, Nat.reduceEqDiff, Nat.reduceDiv, Nat.reduceMod, Nat.reducePow, Nat.reduceBEq, Nat.reduceBNe, Int.reduceLT, Int.reduceLE, Int.reduceGT, Int.reduceGE, Int.reduceBEq, Int.reduceBNe, Int.reduceToNat, Int.reduceAdd, Int.reduceSub, Int.reduceMul, Int.reduceEq, Int.reduceNeg, reduceCtorEq, decide_true, decide_false, Bool.false_eq_true, ty3, ty4, ty5, ty9, ty22, ty27, ty29, ty30, ty76, ty78, eq22]
    refine Lwp.seq (Lwp.regI hT ?_)
    simp only [L45r5, go_sem, List.isEmpty_nil, isC, eq_self, reduceIte, Nat.reduceAdd, Nat.reduceMul, Nat.reduceSub, Nat.reduceLT, Nat.reduceLeDiff, Nat.reduceEqDiff, Nat.reduceDiv, Nat.reduceMod, Nat.reducePow, Nat.reduceBEq, Nat.reduceBNe, Int.reduceLT, Int.reduceLE, Int.reduceGT, Int.reduceGE, Int.reduceBEq, Int.reduceBNe, Int.reduceToNat, Int.reduceAdd, Int.reduceSub, Int.reduceMul, Int.reduceEq, Int.reduceNeg, reduceCtorEq, decide_true, decide_false, Bool.false_eq_true, ty3, ty4, ty5, ty9, ty22, ty27, ty29, ty30, ty76, ty78, eq22, c1, c3, z1, z3, c5, c6, g1, g5, g3]
    refine Lwp.regI hT ?_
    simp only [L45r6, go_sem, List.isEmpty_nil, isC, eq_self, reduceIte, Nat.reduceAdd, Nat.reduceMul, Nat.reduceSub, Nat.reduceLT, Nat.reduceLeDiff, Nat.reduceEqDiff, Nat.reduceDiv, Nat.reduceMod, Nat.reducePow, Nat.reduceBEq, Nat.reduceBNe, Int.reduceLT, Int.reduceLE, Int.reduceGT, Int.reduceGE, Int.reduceBEq, Int.reduceBNe, Int.reduceToNat, Int.reduceAdd, Int.reduceSub, Int.reduceMul, Int.reduceEq, Int.reduceNeg, reduceCtorEq, decide_true, decide_false, Bool.false_eq_true, ty3, ty4, ty5, ty9, ty22, ty27, ty29, ty30, ty76, ty78, eq22, c2, c4, z2, z4, c5, c6, g2, g6, g4]
    refine Lwp.regI hT ?_
    simp only [L45r7, go_sem, List.isEmpty_nil, isC, eq_self, reduceIte, Nat.reduceAdd, Nat.reduceMul, Nat.reduceSub, Nat.reduceLT, Nat.reduceLeDiff, Nat.reduceEqDiff, Nat.reduceDiv, Nat.reduceMod, Nat.reducePow, Nat.reduceBEq, Nat.reduceBNe, Int.reduceLT, Int.reduceLE, Int.reduceGT, Int.reduceGE, Int.reduceBEq, Int.reduceBNe, Int.reduceToNat, Int.reduceAdd, Int.reduceSub, Int.reduceMul, Int.reduceEq, Int.reduceNeg, reduceCtorEq, decide_true, decide_false, Bool.false_eq_true, ty3, ty4, ty5, ty9, ty22, ty27, ty29, ty30, ty76, ty78, eq22, h4]
    refine weak_of rfl ?_ ?_ ?_
    · (simp only [go_sem, List.isEmpty_nil, isC, eq_self, reduceIte, Nat.reduceAdd, Nat.reduceMul, Nat.reduceSub, Nat.reduceLT, Nat.reduceLeDiff, Nat.reduceEqDiff, Nat.reduceDiv, Nat.reduceMod, Nat.reducePow, Nat.reduceBEq, Nat.reduceBNe, Int.reduceLT, Int.reduceLE, Int.reduceGT, Int.reduceGE, Int.reduceBEq, Int.reduceBNe, Int.reduceToNat, Int.reduceAdd, Int.reduceSub, Int.reduceMul, Int.reduceEq, Int.reduceNeg, reduceCtorEq, decide_true, decide_false, Bool.false_eq_true]; try rfl)
    · (simp only [go_sem, List.isEmpty_nil, isC, eq_self, reduceIte, Nat.reduceAdd, Nat.reduceMul, Nat.reduceSub, Nat.reduceLT, Nat.reduceLeDiff, Nat.reduceEqDiff, Nat.reduceDiv, Nat.reduceMod, Nat.reducePow, Nat.reduceBEq, Nat.reduceBNe, Int.reduceLT, Int.reduceLE, Int.reduceGT, Int.reduceGE, Int.reduceBEq, Int.reduceBNe, Int.reduceToNat, Int.reduceAdd, Int.reduceSub, Int.reduceMul, Int.reduceEq, Int.reduceNeg, reduceCtorEq, decide_true, decide_false, Bool.false_eq_true]; try rfl)
    · (simp only [go_sem, List.isEmpty_nil, isC, eq_self, reduceIte, Nat.reduceAdd, Nat.reduceMul, Nat.reduceSub, Nat.reduceLT, Nat.reduceLeDiff, Nat.reduceEqDiff, Nat.reduceDiv, Nat.reduceMod, Nat.reducePow, Nat.reduceBEq, Nat.reduceBNe, Int.reduceLT, Int.reduceLE, Int.reduceGT, Int.reduceGE, Int.reduceBEq, Int.reduceBNe, Int.reduceToNat, Int.reduceAdd, Int.reduceSub, Int.reduceMul, Int.reduceEq, Int.reduceNeg, reduceCtorEq, decide_true, decide_false, Bool.false_eq_true]; try rfl)
  · refine Lwp.seq (Lwp.regI hT ?_)
    simp only [L45r3, go_sem, List.isEmpty_nil, isC, eq_self, reduceIte, Nat.reduceAdd, Nat.reduceMul, Nat.reduceSub, Nat.reduceLT, Nat.reduceLeDiff, Nat.reduceEqDiff, Nat.reduceDiv, Nat.reduceMod, Nat.reducePow, Nat.reduceBEq, Nat.reduceBNe, Int.reduceLT, Int.reduceLE, Int.reduceGT, Int.reduceGE, Int.reduceBEq, Int.reduceBNe, Int.reduceToNat, Int.reduceAdd, Int.reduceSub, Int.reduceMul, Int.reduceEq, Int.reduceNeg, reduceCtorEq, decide_true, decide_false, Bool.false_eq_true, ty3, ty4, ty5, ty9, ty22, ty27, ty29, ty30, ty76, ty78, eq22]
    refine Lwp.seq (Lwp.cond rfl (fun h => by cases h) (fun _ => Lwp.exit ?_))
    simp only [go_sem, List.isEmpty_nil, isC, eq_self, reduceIte, Nat.reduceAdd, Nat.reduceMul, Nat.reduceSub, Nat.reduceLT, Nat.reduceLeDiff, Nat.reduceEqDiff, Nat.reduceDiv, Nat.reduceMod, Nat.reducePow, Nat.reduceBEq, Nat.reduceBNe, Int.reduceLT, Int.reduceLE, Int.reduceGT, Int.reduceGE, Int.reduceBEq, Int.reduceBNe, Int.reduceToNat, Int.reduceAdd, Int.reduceSub, Int.reduceMul, Int.reduceEq, Int.reduceNeg, reduceCtorEq, decide_true, decide_false, Bool.false_eq_true, fu]
    refine Lwp.seq (Lwp.regD hT hM ?_)
    simp only [L45r8, go_sem, List.isEmpty_nil, isC, eq_self, reduceIte, Nat.reduceAdd, Nat.reduceMul, Nat.reduceSub, Nat.reduceLT, Nat.reduceLeDiff, Nat.reduceEqDiff, Nat.reduceDiv, Nat.reduceMod, Nat.reducePow, Nat.reduceBEq, Nat.reduceBNe, Int.reduceLT, Int.reduceLE, Int.reduceGT, Int.reduceGE, Int.reduceBEq, Int.reduceBNe, Int.reduceToNat, Int.reduceAdd, Int.reduceSub, Int.reduceMul, Int.reduceEq, Int.reduceNeg, reduceCtorEq, decide_true, decide_false, Bool.false_eq_true, ty3, ty4, ty5, ty9, ty22, ty27, ty29, ty30, ty76, ty78, eq22, optA0, optA1, lh, f1, f2, f3, lr, ll, st, sliceA, boundA]
    refine Lwp.ret (post_val (v := .agg (ints .u8 (un wv))) ?_ ?_)
    · simp only [go_sem, List.isEmpty_nil, isC, eq_self, reduceIte, Nat.reduceAdd, Nat.reduceMul, Nat.reduceSub, Nat.reduceLT, Nat.reduceLeDiff, Nat.reduceEqDiff, Nat.reduceDiv, Nat.reduceMod, Nat.reducePow, Nat.reduceBEq, Nat.reduceBNe, Int.reduceLT, Int.reduceLE, Int.reduceGT, Int.reduceGE, Int.reduceBEq, Int.reduceBNe, Int.reduceToNat, Int.reduceAdd, Int.reduceSub, Int.reduceMul, Int.reduceEq, Int.reduceNeg, reduceCtorEq, decide_true, decide_false, Bool.false_eq_true, ty22, lr]
    · simp only [go_sem, List.isEmpty_nil, isC, eq_self, reduceIte, Nat.reduceAdd, Nat.reduceMul, Nat.reduceSub, Nat.reduceLT, Nat.reduceLeDiff, Nat.reduceEqDiff, Nat.reduceDiv, Nat.reduceMod, Nat.reducePow, Nat.reduceBEq, Nat.reduceBNe, Int.reduceLT, Int.reduceLE, Int.reduceGT, Int.reduceGE, Int.reduceBEq, Int.reduceBNe, Int.reduceToNat, Int.reduceAdd, Int.reduceSub, Int.reduceMul, Int.reduceEq, Int.reduceNeg, reduceCtorEq, decide_true, decide_false, Bool.false_eq_true]

noncomputable def S46 : List AV → Option Ret := nz (sumOf (fun p : V × List Int × List Int => match p with | (hh, a, b) => (U8L a) ∧ (a.length ≤ 10000) ∧ (U8L b) ∧ (b.length ≤ 10000)) (fun p : V × List Int × List Int => match p with | (hh, a, b) => [.agg (ints .u8 (un hh)), .slc a.length (ints .u8 a), .slc b.length (ints .u8 b)]) (fun p : V × List Int × List Int => match p with | (hh, a, b) => ⟨.agg (ints .u8 (un (wholeV hh a b))), none⟩))
theorem S46_eq (hh : V) (a : List Int) (b : List Int) (h0 : U8L a) (h1 : a.length ≤ 10000) (h2 : U8L b) (h3 : b.length ≤ 10000) : S46 [.agg (ints .u8 (un hh)), .slc a.length (ints .u8 a), .slc b.length (ints .u8 b)] = some ⟨.agg (ints .u8 (un (wholeV hh a b))), none⟩ :=
  sumOf_eq (dom := (fun p : V × List Int × List Int => match p with | (hh, a, b) => (U8L a) ∧ (a.length ≤ 10000) ∧ (U8L b) ∧ (b.length ≤ 10000))) (enc := (fun p : V × List Int × List Int => match p with | (hh, a, b) => [.agg (ints .u8 (un hh)), .slc a.length (ints .u8 a), .slc b.length (ints .u8 b)])) (out := (fun p : V × List Int × List Int => match p with | (hh, a, b) => ⟨.agg (ints .u8 (un (wholeV hh a b))), none⟩)) (hh, a, b) ⟨h0, h1, h2, h3⟩ (fun y _ e => by
    obtain ⟨y0, y1, y2⟩ := y
    simp only [List.cons.injEq, AV.agg.injEq, AV.int.injEq, AV.slc.injEq, AV.iptr.injEq, AV.bool.injEq, AV.str.injEq, ints_injEq, dig_injEq, un_injEq,  Int.ofNat_inj, BitVec.toNat_inj, true_and, and_true] at e
    first | with_reducible rfl | simp only [e] | rfl)
theorem S46_inv {args : List AV} {r : Ret} (h : sumOf (fun p : V × List Int × List Int => match p with | (hh, a, b) => (U8L a) ∧ (a.length ≤ 10000) ∧ (U8L b) ∧ (b.length ≤ 10000)) (fun p : V × List Int × List Int => match p with | (hh, a, b) => [.agg (ints .u8 (un hh)), .slc a.length (ints .u8 a), .slc b.length (ints .u8 b)]) (fun p : V × List Int × List Int => match p with | (hh, a, b) => ⟨.agg (ints .u8 (un (wholeV hh a b))), none⟩) args = some r) : ∃ (hh : V) (a : List Int) (b : List Int), ((U8L a) ∧ (a.length ≤ 10000) ∧ (U8L b) ∧ (b.length ≤ 10000)) ∧ args = [.agg (ints .u8 (un hh)), .slc a.length (ints .u8 a), .slc b.length (ints .u8 b)] ∧ r = ⟨.agg (ints .u8 (un (wholeV hh a b))), none⟩ := by
  obtain ⟨x, h1, h2, h3⟩ := sumOf_inv h
  obtain ⟨hh, a, b⟩ := x
  exact ⟨hh, a, b, h1, h2.symm, h3⟩


set_option maxRecDepth 100000 in
theorem snd46 : SndE Try.prog NoG 46 S46 := by
  refine snd_nz (snd_by [(44, S44), (67, S67), (68, S68)] [] Try.func46 (by kernel_rfl) lite46 nt46 rs46 ⟨snd44, snd67, snd68, trivial⟩ trivial (fun hT args r h => ?_))
  obtain ⟨hh, a, b, ⟨hd0, hd1, hd2, hd3⟩, rfl, rfl⟩ := S46_inv h
  clear h
  have hM := hM0
  refine ⟨Nat.le_of_ble_eq_true rfl, fun F => ?_⟩
  unfold L46
  have lh := un_len hh
  have f67a := S67_eq a (by omega)
  have f67b := S67_eq b (by omega)
  rw [← filledL_len] at f67a f67b
  have f68a := S68_eq a.length (by omega)
  have f68b := S68_eq b.length (by omega)
  have za := zF_lt a.length
  have zb := zF_lt b.length
  have fla := filledL_len a
  have flb := filledL_len b
  have b8a := bytesBE_len 8 (8 * a.length)
  have b8b := bytesBE_len 8 (8 * b.length)
  have hw : gh hh 0#128 (filledL a ++ filledL b ++ bytesBE 8 (8 * a.length) ++ bytesBE 8 (8 * b.length)) = wholeV hh a b := by
    rw [List.append_assoc, List.append_assoc, gh_app hh _ _ _ _ (Nat.le_refl _) (filledL_mod a), gh_filled, gh_app hh _ _ _ _ (Nat.le_refl _) (filledL_mod b), gh_filled]; rfl
  have hU : U8L (filledL a ++ filledL b ++ bytesBE 8 (8 * a.length) ++ bytesBE 8 (8 * b.length)) := by
    intro x hx
    simp only [List.mem_append] at hx
    rcases hx with ((hx | hx) | hx) | hx
    · exact filledL_U8 hd0 x hx
    · exact filledL_U8 hd2 x hx
    · exact bytesBE_U8 _ _ x hx
    · exact bytesBE_U8 _ _ x hx
  have hl : (filledL a ++ filledL b ++ bytesBE 8 (8 * a.length) ++ bytesBE 8 (8 * b.length)).length = (filledL a).length + (filledL b).length + 8 + 8 := by simp only [List.length_append, b8a, b8b]
  have f44 := S44_eq hh _ hU (by rw [hl]; omega)
  rw [hw, hl] at f44
  have lr := un_len (wholeV hh a b)
  have pa := ints_pure .u8 (filledL a)
  generalize wholeV hh a b = wv at *
  generalize bytesBE 8 (8 * a.length) = ba at *
  generalize bytesBE 8 (8 * b.length) = bb8 at *
  generalize filledL a = fa at *
  generalize filledL b = fb at *
  clear hw hU
  obtain ⟨na, hna⟩ : ∃ n, fa.length = n := ⟨_, rfl⟩
  obtain ⟨nb, hnb⟩ : ∃ n, fb.length = n := ⟨_, rfl⟩
  rw [hna] at f67a f44 fla hl
  rw [hnb] at f67b f44 flb hl
  have l1 : (fa ++ fb).length = na + nb := by rw [List.length_append, hna, hnb]
  have l2 : (fa ++ fb ++ ba).length = na + nb + 8 := by rw [List.length_append, l1, b8a]
  have m1 : (na + nb) * 1 ≤ 140737488355328 ∧ na + nb ≤ 140737488355328 := by omega
  have m2 : (na + nb + 8) * 1 ≤ 140737488355328 ∧ na + nb + 8 ≤ 140737488355328 ∧ na + nb ≤ 140737488355320 := by omega
  have m3 : (na + nb + 8 + 8) * 1 ≤ 140737488355328 ∧ na + nb + 8 + 8 ≤ 140737488355328 ∧ na + nb ≤ 140737488355312 ∧ na + nb + 8 ≤ 140737488355320 := by omega
  have st : sub (ints .u8 (fa ++ fb ++ ba ++ bb8)) 0 (na + nb + 8 + 8) = ints .u8 (fa ++ fb ++ ba ++ bb8) := sub_whole (by rw [ints_len, hl])
  have stb : sub (ints .u8 fb) 0 nb = ints .u8 fb := sub_whole (by rw [ints_len, hnb])
  refine Lwp.seq (Lwp.regI hT ?_)
  simp only [L46r0, go_sem, List.isEmpty_nil, isC, eq_self, reduceIte, Nat.reduceAdd, Nat.reduceMul, Nat.reduceSub, Nat.reduceLT, Nat.reduceLeDiff, Nat.reduceEqDiff, Nat.reduceDiv, Nat.reduceMod, Nat.reducePow, Nat.reduceBEq, Nat.reduceBNe, Int.reduceLT, Int.reduceLE, Int.reduceGT, Int.reduceGE, Int.reduceBEq, Int.reduceBNe, Int.reduceToNat, Int.reduceAdd, Int.reduceSub, Int.reduceMul, Int.reduceEq, Int.reduceNeg, reduceCtorEq, decide_true, decide_false, Bool.false_eq_true, ty3, ty4, ty5, ty9, ty22, ty27, ty29, ty30, ty76, ty78, eq22]
  refine Lwp.seq (Lwp.regI hT ?_)
  simp only [L46r1, go_sem, List.isEmpty_nil, isC, eq_self, reduceIte, Nat.reduceAdd, Nat.reduceMul, Nat.reduceSub, Nat.reduceLT, Nat.reduceLeDiff, Nat.reduceEqDiff, Nat.reduceDiv, Nat.reduceMod, Nat.reducePow, Nat.reduceBEq, Nat.reduceBNe, Int.reduceLT, Int.reduceLE, Int.reduceGT, Int.reduceGE, Int.reduceBEq, Int.reduceBNe, Int.reduceToNat, Int.reduceAdd, Int.reduceSub, Int.reduceMul, Int.reduceEq, Int.reduceNeg, reduceCtorEq, decide_true, decide_false, Bool.false_eq_true, ty3, ty4, ty5, ty9, ty22, ty27, ty29, ty30, ty76, ty78, eq22, f67a]
  refine Lwp.seq (Lwp.regI hT ?_)
  simp only [L46r2, go_sem, List.isEmpty_nil, isC, eq_self, reduceIte, Nat.reduceAdd, Nat.reduceMul, Nat.reduceSub, Nat.reduceLT, Nat.reduceLeDiff, Nat.reduceEqDiff, Nat.reduceDiv, Nat.reduceMod, Nat.reducePow, Nat.reduceBEq, Nat.reduceBNe, Int.reduceLT, Int.reduceLE, Int.reduceGT, Int.reduceGE, Int.reduceBEq, Int.reduceBNe, Int.reduceToNat, Int.reduceAdd, Int.reduceSub, Int.reduceMul, Int.reduceEq, Int.reduceNeg, reduceCtorEq, decide_true, decide_false, Bool.false_eq_true, ty3, ty4, ty5, ty9, ty22, ty27, ty29, ty30, ty76, ty78, eq22, f67b, m1, hna, hnb, ints_append, stb, Nat.le_refl]
  refine Lwp.seq (Lwp.regI hT ?_)
  simp only [L46r3, go_sem, List.isEmpty_nil, isC, eq_self, reduceIte, Nat.reduceAdd, Nat.reduceMul, Nat.reduceSub, Nat.reduceLT, Nat.reduceLeDiff, Nat.reduceEqDiff, Nat.reduceDiv, Nat.reduceMod, Nat.reducePow, Nat.reduceBEq, Nat.reduceBNe, Int.reduceLT, Int.reduceLE, Int.reduceGT, Int.reduceGE, Int.reduceBEq, Int.reduceBNe, Int.reduceToNat, Int.reduceAdd, Int.reduceSub, Int.reduceMul, Int.reduceEq, Int.reduceNeg, reduceCtorEq, decide_true, decide_false, Bool.false_eq_true, ty3, ty4, ty5, ty9, ty22, ty27, ty29, ty30, ty76, ty78, eq22, f68a, l1, b8a, m2, ints_append]
  refine Lwp.seq (Lwp.regI hT ?_)
  simp only [L46r4, go_sem, List.isEmpty_nil, isC, eq_self, reduceIte, Nat.reduceAdd, Nat.reduceMul, Nat.reduceSub, Nat.reduceLT, Nat.reduceLeDiff, Nat.reduceEqDiff, Nat.reduceDiv, Nat.reduceMod, Nat.reducePow, Nat.reduceBEq, Nat.reduceBNe, Int.reduceLT, Int.reduceLE, Int.reduceGT, Int.reduceGE, Int.reduceBEq, Int.reduceBNe, Int.reduceToNat, Int.reduceAdd, Int.reduceSub, Int.reduceMul, Int.reduceEq, Int.reduceNeg, reduceCtorEq, decide_true, decide_false, Bool.false_eq_true, ty3, ty4, ty5, ty9, ty22, ty27, ty29, ty30, ty76, ty78, eq22, f68b, l2, b8b, m3, ints_append]
  refine Lwp.seq (Lwp.regI hT ?_)
  simp only [L46r5, go_sem, List.isEmpty_nil, isC, eq_self, reduceIte, Nat.reduceAdd, Nat.reduceMul, Nat.reduceSub, Nat.reduceLT, Nat.reduceLeDiff, Nat.reduceEqDiff, Nat.reduceDiv, Nat.reduceMod, Nat.reducePow, Nat.reduceBEq, Nat.reduceBNe, Int.reduceLT, Int.reduceLE, Int.reduceGT, Int.reduceGE, Int.reduceBEq, Int.reduceBNe, Int.reduceToNat, Int.reduceAdd, Int.reduceSub, Int.reduceMul, Int.reduceEq, Int.reduceNeg, reduceCtorEq, decide_true, decide_false, Bool.false_eq_true, ty3, ty4, ty5, ty9, ty22, ty27, ty29, ty30, ty76, ty78, eq22, lh, f44, hl, st, lr, Nat.le_refl]
  refine Lwp.ret (post_val (v := .agg (ints .u8 (un wv))) ?_ ?_)
  · simp only [go_sem, List.isEmpty_nil, isC, eq_self, reduceIte, Nat.reduceAdd, Nat.reduceMul, Nat.reduceSub, Nat.reduceLT, Nat.reduceLeDiff, Nat.reduceEqDiff, Nat.reduceDiv, Nat.reduceMod, Nat.reducePow, Nat.reduceBEq, Nat.reduceBNe, Int.reduceLT, Int.reduceLE, Int.reduceGT, Int.reduceGE, Int.reduceBEq, Int.reduceBNe, Int.reduceToNat, Int.reduceAdd, Int.reduceSub, Int.reduceMul, Int.reduceEq, Int.reduceNeg, reduceCtorEq, decide_true, decide_false, Bool.false_eq_true, ty22, lr]
  · simp only [go_sem, List.isEmpty_nil, isC, eq_self, reduceIte, Nat.reduceAdd, Nat.reduceMul, Nat.reduceSub, Nat.reduceLT, Nat.reduceLeDiff, Nat.reduceEqDiff, Nat.reduceDiv, Nat.reduceMod, Nat.reducePow, Nat.reduceBEq, Nat.reduceBNe, Int.reduceLT, Int.reduceLE, Int.reduceGT, Int.reduceGE, Int.reduceBEq, Int.reduceBNe, Int.reduceToNat, Int.reduceAdd, Int.reduceSub, Int.reduceMul, Int.reduceEq, Int.reduceNeg, reduceCtorEq, decide_true, decide_false, Bool.false_eq_true]

noncomputable def S15 : List AV → Option Ret := nz (sumOf (fun p : V × List Int × List Int => match p with | (hh, a, b) => (U8L a) ∧ (a.length ≤ 9223372036854775807) ∧ (U8L b) ∧ (b.length ≤ 9223372036854775807)) (fun p : V × List Int × List Int => match p with | (hh, a, b) => [.agg (ints .u8 (un hh)), .slc a.length (ints .u8 a), .slc b.length (ints .u8 b)]) (fun p : V × List Int × List Int => match p with | (hh, a, b) => ⟨.bool true, none⟩))
theorem S15_eq (hh : V) (a : List Int) (b : List Int) (h0 : U8L a) (h1 : a.length ≤ 9223372036854775807) (h2 : U8L b) (h3 : b.length ≤ 9223372036854775807) : S15 [.agg (ints .u8 (un hh)), .slc a.length (ints .u8 a), .slc b.length (ints .u8 b)] = some ⟨.bool true, none⟩ :=
  sumOf_eq (dom := (fun p : V × List Int × List Int => match p with | (hh, a, b) => (U8L a) ∧ (a.length ≤ 9223372036854775807) ∧ (U8L b) ∧ (b.length ≤ 9223372036854775807))) (enc := (fun p : V × List Int × List Int => match p with | (hh, a, b) => [.agg (ints .u8 (un hh)), .slc a.length (ints .u8 a), .slc b.length (ints .u8 b)])) (out := (fun p : V × List Int × List Int => match p with | (hh, a, b) => ⟨.bool true, none⟩)) (hh, a, b) ⟨h0, h1, h2, h3⟩ (fun y _ e => by
    obtain ⟨y0, y1, y2⟩ := y
    simp only [List.cons.injEq, AV.agg.injEq, AV.int.injEq, AV.slc.injEq, AV.iptr.injEq, AV.bool.injEq, AV.str.injEq, ints_injEq, dig_injEq, un_injEq,  Int.ofNat_inj, BitVec.toNat_inj, true_and, and_true] at e
    first | with_reducible rfl | simp only [e] | rfl)
theorem S15_inv {args : List AV} {r : Ret} (h : sumOf (fun p : V × List Int × List Int => match p with | (hh, a, b) => (U8L a) ∧ (a.length ≤ 9223372036854775807) ∧ (U8L b) ∧ (b.length ≤ 9223372036854775807)) (fun p : V × List Int × List Int => match p with | (hh, a, b) => [.agg (ints .u8 (un hh)), .slc a.length (ints .u8 a), .slc b.length (ints .u8 b)]) (fun p : V × List Int × List Int => match p with | (hh, a, b) => ⟨.bool true, none⟩) args = some r) : ∃ (hh : V) (a : List Int) (b : List Int), ((U8L a) ∧ (a.length ≤ 9223372036854775807) ∧ (U8L b) ∧ (b.length ≤ 9223372036854775807)) ∧ args = [.agg (ints .u8 (un hh)), .slc a.length (ints .u8 a), .slc b.length (ints .u8 b)] ∧ r = ⟨.bool true, none⟩ := by
  obtain ⟨x, h1, h2, h3⟩ := sumOf_inv h
  obtain ⟨hh, a, b⟩ := x
  exact ⟨hh, a, b, h1, h2.symm, h3⟩


set_option maxRecDepth 100000 in
theorem snd15 : SndE Try.prog NoG 15 S15 := by
  refine snd_nz (snd_by [(31, S31), (42, S42), (43, S43), (45, S45), (46, S46)] [] Try.func15 (by kernel_rfl) lite15 nt15 rs15 ⟨snd31, snd42, snd43, snd45, snd46, trivial⟩ trivial (fun hT args r h => ?_))
  obtain ⟨hh, a, b, ⟨hd0, hd1, hd2, hd3⟩, rfl, rfl⟩ := S15_inv h
  clear h
  have hM := hM0
  refine ⟨Nat.le_of_ble_eq_true rfl, fun F => ?_⟩
  unfold L15
  have lh := un_len hh
  have f42a := S42_eq a hd1
  have f42b := S42_eq b hd3
  have al : (a.take 600).length ≤ 600 := by rw [List.length_take]; omega
  have bl : (b.take 600).length ≤ 600 := by rw [List.length_take]; omega
  have hUa := take_U8 hd0 600
  have hUb := take_U8 hd2 600
  generalize a.take 600 = p at *
  generalize b.take 600 = q at *
  have f45 := S45_eq hh p q hUa (by omega) hUb (by omega)
  have f46 := S46_eq hh p q hUa (by omega) hUb (by omega)
  have f31 := S31_eq
  have f1 := hash_one
  have lr := un_len (wholeV hh p q)
  have l7 := un_len 1#128
  generalize un (wholeV hh p q) = r at *
  generalize un 1#128 = o at *
  generalize un hh = x at *
  refine Lwp.seq (Lwp.regI hT ?_)
  simp only [L15r0, go_sem, List.isEmpty_nil, isC, eq_self, reduceIte, Nat.reduceAdd, Nat.reduceMul, Nat.reduceSub, Nat.reduceLT, Nat.reduceLeDiff, Nat.reduceEqDiff, Nat.reduceDiv, Nat.reduceMod, Nat.reducePow, Nat.reduceBEq, Nat.reduceBNe, Int.reduceLT, Int.reduceLE, Int.reduceGT, Int.reduceGE, Int.reduceBEq, Int.reduceBNe, Int.reduceToNat, Int.reduceAdd, Int.reduceSub, Int.reduceMul, Int.reduceEq, Int.reduceNeg, reduceCtorEq, decide_true, decide_false, Bool.false_eq_true, ty3, ty4, ty5, ty9, ty22, ty27, ty29, ty30, ty76, ty78, eq22]
  refine Lwp.seq (Lwp.regI hT ?_)
  simp only [L15r1, go_sem, List.isEmpty_nil, isC, eq_self, reduceIte, Nat.reduceAdd, Nat.reduceMul, Nat.reduceSub, Nat.reduceLT, Nat.reduceLeDiff, Nat.reduceEqDiff, Nat.reduceDiv, Nat.reduceMod, Nat.reducePow, Nat.reduceBEq, Nat.reduceBNe, Int.reduceLT, Int.reduceLE, Int.reduceGT, Int.reduceGE, Int.reduceBEq, Int.reduceBNe, Int.reduceToNat, Int.reduceAdd, Int.reduceSub, Int.reduceMul, Int.reduceEq, Int.reduceNeg, reduceCtorEq, decide_true, decide_false, Bool.false_eq_true, ty3, ty4, ty5, ty9, ty22, ty27, ty29, ty30, ty76, ty78, eq22, f42a]
  refine Lwp.seq (Lwp.regI hT ?_)
  simp only [L15r2, go_sem, List.isEmpty_nil, isC, eq_self, reduceIte, Nat.reduceAdd, Nat.reduceMul, Nat.reduceSub, Nat.reduceLT, Nat.reduceLeDiff, Nat.reduceEqDiff, Nat.reduceDiv, Nat.reduceMod, Nat.reducePow, Nat.reduceBEq, Nat.reduceBNe, Int.reduceLT, Int.reduceLE, Int.reduceGT, Int.reduceGE, Int.reduceBEq, Int.reduceBNe, Int.reduceToNat, Int.reduceAdd, Int.reduceSub, Int.reduceMul, Int.reduceEq, Int.reduceNeg, reduceCtorEq, decide_true, decide_false, Bool.false_eq_true, ty3, ty4, ty5, ty9, ty22, ty27, ty29, ty30, ty76, ty78, eq22, f42b]
  refine Lwp.seq (Lwp.regI hT ?_)
  simp only [L15r3, go_sem, List.isEmpty_nil, isC, eq_self, reduceIte, Nat.reduceAdd, Nat.reduceMul, Nat.reduceSub, Nat.reduceLT, Nat.reduceLeDiff, Nat.reduceEqDiff, Nat.reduceDiv, Nat.reduceMod, Nat.reducePow, Nat.reduceBEq, Nat.reduceBNe, Int.reduceLT, Int.reduceLE, Int.reduceGT, Int.reduceGE, Int.reduceBEq, Int.reduceBNe, Int.reduceToNat, Int.reduceAdd, Int.reduceSub, Int.reduceMul, Int.reduceEq, Int.reduceNeg, reduceCtorEq, decide_true, decide_false, Bool.false_eq_true, ty3, ty4, ty5, ty9, ty22, ty27, ty29, ty30, ty76, ty78, eq22, lh, f45, lr]
  refine Lwp.seq (Lwp.regD hT hM ?_)
  simp only [L15r4, go_sem, List.isEmpty_nil, isC, eq_self, reduceIte, Nat.reduceAdd, Nat.reduceMul, Nat.reduceSub, Nat.reduceLT, Nat.reduceLeDiff, Nat.reduceEqDiff, Nat.reduceDiv, Nat.reduceMod, Nat.reducePow, Nat.reduceBEq, Nat.reduceBNe, Int.reduceLT, Int.reduceLE, Int.reduceGT, Int.reduceGE, Int.reduceBEq, Int.reduceBNe, Int.reduceToNat, Int.reduceAdd, Int.reduceSub, Int.reduceMul, Int.reduceEq, Int.reduceNeg, reduceCtorEq, decide_true, decide_false, Bool.false_eq_true, ty3, ty4, ty5, ty9, ty22, ty27, ty29, ty30, ty76, ty78, eq22, lh, lr, f46, f31, f1, l7]
  refine Lwp.ret (post_val (v := .bool true) ?_ ?_)
  · simp only [go_sem, List.isEmpty_nil, isC, eq_self, reduceIte, Nat.reduceAdd, Nat.reduceMul, Nat.reduceSub, Nat.reduceLT, Nat.reduceLeDiff, Nat.reduceEqDiff, Nat.reduceDiv, Nat.reduceMod, Nat.reducePow, Nat.reduceBEq, Nat.reduceBNe, Int.reduceLT, Int.reduceLE, Int.reduceGT, Int.reduceGE, Int.reduceBEq, Int.reduceBNe, Int.reduceToNat, Int.reduceAdd, Int.reduceSub, Int.reduceMul, Int.reduceEq, Int.reduceNeg, reduceCtorEq, decide_true, decide_false, Bool.false_eq_true]
  · simp only [go_sem, List.isEmpty_nil, isC, eq_self, reduceIte, Nat.reduceAdd, Nat.reduceMul, Nat.reduceSub, Nat.reduceLT, Nat.reduceLeDiff, Nat.reduceEqDiff, Nat.reduceDiv, Nat.reduceMod, Nat.reducePow, Nat.reduceBEq, Nat.reduceBNe, Int.reduceLT, Int.reduceLE, Int.reduceGT, Int.reduceGE, Int.reduceBEq, Int.reduceBNe, Int.reduceToNat, Int.reduceAdd, Int.reduceSub, Int.reduceMul, Int.reduceEq, Int.reduceNeg, reduceCtorEq, decide_true, decide_false, Bool.false_eq_true]
theorem S15_eqI (x a b : List Int) (hx : B16 x) (ha : U8L a) (hal : a.length ≤ 9223372036854775807) (hb : U8L b) (hbl : b.length ≤ 9223372036854775807) : S15 [.agg (ints .u8 x), .slc a.length (ints .u8 a), .slc b.length (ints .u8 b)] = some ⟨.bool true, none⟩ := by
  have h := S15_eq (bb x) a b ha hal hb hbl
  rwa [un_bb hx.1 hx.2] at h
end Eng
