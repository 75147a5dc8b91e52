/- Contracts of the program's functions, and laws over them. There is no further condition. -/
import Derived.Test.YtabahlhaocmglaaS5
namespace Eng
open Go Go.Proofs
set_option linter.unusedSimpArgs false
-- TY: ty3, ty22, ty24, eq24


theorem ofInt_and (x : Int) (h0 : 0 ≤ x) (h1 : x < 18446744073709551616) (y : BitVec 64) : (BitVec.ofInt 64 x &&& y).toNat ≤ x.toNat := by
  rw [BitVec.toNat_and, ofInt_toNat h0 (by omega)]
  exact Nat.and_le_left
theorem w64_nat (v : BitVec 64) : IntKind.u64.wrap (v.toNat : Int) = (v.toNat : Int) := wrap_u64 (by omega) (by have := v.isLt; omega)
theorem ofInt_bv (v : BitVec 64) : BitVec.ofInt 64 (v.toNat : Int) = v := by
  apply BitVec.eq_of_toNat_eq
  rw [ofInt_toNat (by omega) (by have := v.isLt; omega)]; simp
theorem bv_ofInt {x : Int} (h0 : 0 ≤ x) (h1 : x < 18446744073709551616) : ((BitVec.ofInt 64 x).toNat : Int) = x := by
  rw [ofInt_toNat h0 (by omega)]; omega
theorem maskZ_even {n : Int} (h0 : 0 ≤ n) (h1 : n < 18446744073709551616) (h : n % 2 = 0) : maskZ n = 0 := by
  rw [maskZ, and_one h0 h1, h]; rfl
theorem maskZ_odd {n : Int} (h0 : 0 ≤ n) (h1 : n < 18446744073709551616) (h : n % 2 = 1) : maskZ n = 18446744073709551615 := by
  rw [maskZ, and_one h0 h1, h]; rfl
theorem pickZ_even {n : Int} {a b : List Int} {j : Nat} (h : maskZ n = 0) (ha : U6 a) : pickZ n a b j = a.getD j 0 := by
  have hx := ha.at j
  rw [pickZ, h]
  simp only [w64_nat, ofInt_bv]
  rw [show BitVec.ofInt 64 0 = 0#64 from rfl]
  simp only [BitVec.and_zero, BitVec.or_zero, BitVec.not_zero, BitVec.and_allOnes]
  exact bv_ofInt hx.1 hx.2
theorem pickZ_odd {n : Int} {a b : List Int} {j : Nat} (h : maskZ n = 18446744073709551615) (hb : U6 b) : pickZ n a b j = b.getD j 0 := by
  have hx := hb.at j
  rw [pickZ, h]
  simp only [w64_nat, ofInt_bv]
  rw [show BitVec.ofInt 64 18446744073709551615 = BitVec.allOnes 64 from rfl]
  simp only [BitVec.not_allOnes, BitVec.and_zero, BitVec.zero_or, BitVec.and_allOnes]
  exact bv_ofInt hx.1 hx.2
theorem tab_self {n : Nat} {a : List Int} (h : a.length = n) {f : Nat → Int} (hf : ∀ j, f j = a.getD j 0) : tab n f = a := (eq_tab h fun i _ => (hf i).symm).symm
theorem pick_eq {n : Int} {a b : List Int} (h0 : 0 ≤ n) (h1 : n < 18446744073709551616) (ha : U6 a) (hb : U6 b) : tab 6 (pickZ n a b) = if n % 2 = 1 then b else a := by
  split
  · rename_i h; exact tab_self hb.1 fun j => pickZ_odd (maskZ_odd h0 h1 h) hb
  · rename_i h; exact tab_self ha.1 fun j => pickZ_even (maskZ_even h0 h1 (by omega)) ha
theorem U6_zero : U6 (List.replicate 6 0) := ⟨rfl, by decide⟩

noncomputable def S4 : List AV → Option Ret := sumOf (fun p : Int × List Int × List Int => U64 p.1 ∧ U6 p.2.1 ∧ U6 p.2.2) (fun p => [.int .u64 p.1, .agg (ints .u64 p.2.1), .agg (ints .u64 p.2.2)]) (fun _ => ⟨.bool true, none⟩)
theorem S4_eq (n : Int) (a b : List Int) (h0 : U64 n) (h : U6 a) (hb : U6 b) : S4 [.int .u64 n, .agg (ints .u64 a), .agg (ints .u64 b)] = some ⟨.bool true, none⟩ :=
  sumOf_eq (enc := fun p : Int × List Int × List Int => [.int .u64 p.1, .agg (ints .u64 p.2.1), .agg (ints .u64 p.2.2)]) (out := fun _ => ⟨.bool true, none⟩) (n, a, b) ⟨h0, h, hb⟩ (fun _ _ _ => rfl)

set_option maxRecDepth 100000 in
theorem snd4 : SndE Try.prog NoG 4 S4 := by
  refine snd_by [(22, S22), (23, S23)] [] Try.func4 (by kernel_rfl) lite4 nt4 rs4 ⟨snd22, snd23, trivial⟩ trivial (fun hT args r h => ?_)
  obtain ⟨⟨n, a, b⟩, ⟨⟨hn, hn'⟩, ha, hb⟩, rfl, rfl⟩ := sumOf_inv h
  clear h
  simp only at hn hn' ha hb
  have hM := hM0
  have hl := ha.1
  have hl' := hb.1
  have f1 : S23 [.int .u64 0, .agg (ints .u64 one6), .agg (ints .u64 (List.replicate 6 0))] = some ⟨.agg (ints .u64 one6), none⟩ := by rw [S23_eq _ _ _ U6_one U6_zero, pick_eq (by decide) (by decide) U6_one U6_zero]; rfl
  have f2 : S23 [.int .u64 n, .agg (ints .u64 a), .agg (ints .u64 b)] = some ⟨.agg (ints .u64 (if n % 2 = 1 then b else a)), none⟩ := by rw [S23_eq _ _ _ ha hb, pick_eq hn hn' ha hb]
  have e1 : n.tmod 2 = n % 2 := Int.tmod_eq_emod_of_nonneg hn
  refine ⟨Nat.le_of_ble_eq_true rfl, fun F => ?_⟩
  unfold L4
  refine Lwp.seq (Lwp.region hT ?_)
  simp only [L4r0, go_sem, eq_self, reduceIte, Nat.reduceAdd, Nat.reduceMul, Nat.reduceSub, Nat.reduceLT, Nat.reduceLeDiff, Nat.reduceEqDiff, Nat.reduceDiv, Nat.reduceMod, Nat.reducePow, Nat.reduceBEq, Nat.reduceBNe, Int.reduceLT, Int.reduceLE, Int.reduceToNat, Int.reduceAdd, Int.reduceSub, Int.reduceMul, Int.reduceEq, Int.reduceNeg, reduceCtorEq, decide_true, decide_false, Bool.false_eq_true, ty3, ty22, ty24, eq24]
  refine Lwp.seq (Lwp.region hT ?_)
  simp only [L4r1, go_sem, eq_self, reduceIte, Nat.reduceAdd, Nat.reduceMul, Nat.reduceSub, Nat.reduceLT, Nat.reduceLeDiff, Nat.reduceEqDiff, Nat.reduceDiv, Nat.reduceMod, Nat.reducePow, Nat.reduceBEq, Nat.reduceBNe, Int.reduceLT, Int.reduceLE, Int.reduceToNat, Int.reduceAdd, Int.reduceSub, Int.reduceMul, Int.reduceEq, Int.reduceNeg, reduceCtorEq, decide_true, decide_false, Bool.false_eq_true, ty3, ty22, ty24, eq24, hl]
  refine Lwp.seq (Lwp.seq (Lwp.region hT ?_))
  by_cases hp : n % 2 = 1
  · simp only [L4r2, go_sem, eq_self, reduceIte, Nat.reduceAdd, Nat.reduceMul, Nat.reduceSub, Nat.reduceLT, Nat.reduceLeDiff, Nat.reduceEqDiff, Nat.reduceDiv, Nat.reduceMod, Nat.reducePow, Nat.reduceBEq, Nat.reduceBNe, Int.reduceLT, Int.reduceLE, Int.reduceToNat, Int.reduceAdd, Int.reduceSub, Int.reduceMul, Int.reduceEq, Int.reduceNeg, reduceCtorEq, decide_true, decide_false, Bool.false_eq_true, ty3, ty22, ty24, e1, hp]
    refine Lwp.cond rfl (fun _ => Lwp.region hT ?_) (fun h => by cases h)
    simp only [L4r3, go_sem, eq_self, reduceIte, Nat.reduceAdd, Nat.reduceMul, Nat.reduceSub, Nat.reduceLT, Nat.reduceLeDiff, Nat.reduceEqDiff, Nat.reduceDiv, Nat.reduceMod, Nat.reducePow, Nat.reduceBEq, Nat.reduceBNe, Int.reduceLT, Int.reduceLE, Int.reduceToNat, Int.reduceAdd, Int.reduceSub, Int.reduceMul, Int.reduceEq, Int.reduceNeg, reduceCtorEq, decide_true, decide_false, Bool.false_eq_true, ty3, ty22, ty24, hl, hl']
    refine Lwp.seq (Lwp.regD hT hM ?_)
    simp only [L4r4, go_sem, eq_self, reduceIte, Nat.reduceAdd, Nat.reduceMul, Nat.reduceSub, Nat.reduceLT, Nat.reduceLeDiff, Nat.reduceEqDiff, Nat.reduceDiv, Nat.reduceMod, Nat.reducePow, Nat.reduceBEq, Nat.reduceBNe, Int.reduceLT, Int.reduceLE, Int.reduceToNat, Int.reduceAdd, Int.reduceSub, Int.reduceMul, Int.reduceEq, Int.reduceNeg, reduceCtorEq, decide_true, decide_false, Bool.false_eq_true, ty3, ty22, ty24, eq24, S22_eq, f1, f2, hl, hl', hp]
    refine Lwp.ret (post_val (v := .bool true) ?_ ?_)
    · simp only [go_sem, eq_self, reduceIte, Nat.reduceAdd, Nat.reduceMul, Nat.reduceSub, Nat.reduceLT, Nat.reduceLeDiff, Nat.reduceEqDiff, Nat.reduceDiv, Nat.reduceMod, Nat.reducePow, Nat.reduceBEq, Nat.reduceBNe, Int.reduceLT, Int.reduceLE, Int.reduceToNat, Int.reduceAdd, Int.reduceSub, Int.reduceMul, Int.reduceEq, Int.reduceNeg, reduceCtorEq, decide_true, decide_false, Bool.false_eq_true]
    · simp only [go_sem, eq_self, reduceIte, Nat.reduceAdd, Nat.reduceMul, Nat.reduceSub, Nat.reduceLT, Nat.reduceLeDiff, Nat.reduceEqDiff, Nat.reduceDiv, Nat.reduceMod, Nat.reducePow, Nat.reduceBEq, Nat.reduceBNe, Int.reduceLT, Int.reduceLE, Int.reduceToNat, Int.reduceAdd, Int.reduceSub, Int.reduceMul, Int.reduceEq, Int.reduceNeg, reduceCtorEq, decide_true, decide_false, Bool.false_eq_true]
  · simp only [L4r2, go_sem, eq_self, reduceIte, Nat.reduceAdd, Nat.reduceMul, Nat.reduceSub, Nat.reduceLT, Nat.reduceLeDiff, Nat.reduceEqDiff, Nat.reduceDiv, Nat.reduceMod, Nat.reducePow, Nat.reduceBEq, Nat.reduceBNe, Int.reduceLT, Int.reduceLE, Int.reduceToNat, Int.reduceAdd, Int.reduceSub, Int.reduceMul, Int.reduceEq, Int.reduceNeg, reduceCtorEq, decide_true, decide_false, Bool.false_eq_true, ty3, ty22, ty24, e1, hp, show (n % 2 == 1) = false from by simp [hp]]
    refine Lwp.cond rfl (fun h => by cases h) (fun _ => Lwp.skip ?_)
    simp only [go_sem, eq_self, reduceIte, Nat.reduceAdd, Nat.reduceMul, Nat.reduceSub, Nat.reduceLT, Nat.reduceLeDiff, Nat.reduceEqDiff, Nat.reduceDiv, Nat.reduceMod, Nat.reducePow, Nat.reduceBEq, Nat.reduceBNe, Int.reduceLT, Int.reduceLE, Int.reduceToNat, Int.reduceAdd, Int.reduceSub, Int.reduceMul, Int.reduceEq, Int.reduceNeg, reduceCtorEq, decide_true, decide_false, Bool.false_eq_true]
    refine Lwp.seq (Lwp.regD hT hM ?_)
    simp only [L4r4, go_sem, eq_self, reduceIte, Nat.reduceAdd, Nat.reduceMul, Nat.reduceSub, Nat.reduceLT, Nat.reduceLeDiff, Nat.reduceEqDiff, Nat.reduceDiv, Nat.reduceMod, Nat.reducePow, Nat.reduceBEq, Nat.reduceBNe, Int.reduceLT, Int.reduceLE, Int.reduceToNat, Int.reduceAdd, Int.reduceSub, Int.reduceMul, Int.reduceEq, Int.reduceNeg, reduceCtorEq, decide_true, decide_false, Bool.false_eq_true, ty3, ty22, ty24, eq24, S22_eq, f1, f2, hl, hl', hp]
    refine Lwp.ret (post_val (v := .bool true) ?_ ?_)
    · simp only [go_sem, eq_self, reduceIte, Nat.reduceAdd, Nat.reduceMul, Nat.reduceSub, Nat.reduceLT, Nat.reduceLeDiff, Nat.reduceEqDiff, Nat.reduceDiv, Nat.reduceMod, Nat.reducePow, Nat.reduceBEq, Nat.reduceBNe, Int.reduceLT, Int.reduceLE, Int.reduceToNat, Int.reduceAdd, Int.reduceSub, Int.reduceMul, Int.reduceEq, Int.reduceNeg, reduceCtorEq, decide_true, decide_false, Bool.false_eq_true]
    · simp only [go_sem, eq_self, reduceIte, Nat.reduceAdd, Nat.reduceMul, Nat.reduceSub, Nat.reduceLT, Nat.reduceLeDiff, Nat.reduceEqDiff, Nat.reduceDiv, Nat.reduceMod, Nat.reducePow, Nat.reduceBEq, Nat.reduceBNe, Int.reduceLT, Int.reduceLE, Int.reduceToNat, Int.reduceAdd, Int.reduceSub, Int.reduceMul, Int.reduceEq, Int.reduceNeg, reduceCtorEq, decide_true, decide_false, Bool.false_eq_true]
end Eng
