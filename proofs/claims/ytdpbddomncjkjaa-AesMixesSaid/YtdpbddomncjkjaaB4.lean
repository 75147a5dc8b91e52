/- Contracts of the program's functions, and laws over them. There is no further condition. -/
import Derived.Test.YtdpbddomncjkjaaB3
set_option linter.unusedVariables false
set_option linter.unusedSimpArgs false
set_option exponentiation.threshold 2000
namespace Eng
open Go Go.Proofs
set_option linter.unusedSimpArgs false
set_option linter.unusedVariables false
-- TY: ty3, ty4, ty5, ty22, ty76, eq22

theorem rdN_xor (p q : BitVec 16) : ∀ k, rdN (p ^^^ q) k = rdN p k ^^^ rdN q k
  | 0 => rfl
  | k + 1 => by
    simp only [rdN, rdN_xor p q k, BitVec.getLsbD_xor]
    generalize rdN p k = x
    generalize rdN q k = y
    generalize 283#16 <<< (6 - k) = m
    cases x.getLsbD (14 - k) <;> cases y.getLsbD (14 - k) <;> simp only [Bool.false_xor, Bool.xor_false, Bool.true_xor, Bool.not_false, Bool.not_true, if_true, if_false, Bool.false_eq_true]
    · ac_rfl
    · ac_rfl
    · rw [show x ^^^ m ^^^ (y ^^^ m) = (x ^^^ y) ^^^ (m ^^^ m) by ac_rfl, BitVec.xor_self, BitVec.xor_zero]
theorem tblR : ∀ n, n < 256 → ∀ i, i < 8 → ((rdN ((BitVec.ofNat 8 n).setWidth 16 <<< i) 7).setWidth 8 == xtn (BitVec.ofNat 8 n) i) = true := by decide +kernel
theorem rd_bit (a : BitVec 8) (i : Nat) (hi : i < 8) : (rdN (a.setWidth 16 <<< i) 7).setWidth 8 = xtn a i := by
  have := tblR a.toNat a.isLt i hi
  rw [BitVec.ofNat_toNat, BitVec.setWidth_eq] at this
  exact eq_of_beq this
theorem rdN_zero : rdN 0#16 7 = 0#16 := by decide
theorem ref_steps (a b : BitVec 8) : ∀ i, i ≤ 8 → (rdN (clN a b i) 7).setWidth 8 = prodN a b i
  | 0, _ => by rw [clN, rdN_zero, prodN]; rfl
  | i + 1, h => by
    rw [prodN_succ, clN]
    split
    · rw [rdN_xor, BitVec.setWidth_xor, ref_steps a b i (by omega), rd_bit a i (by omega)]
    · exact ref_steps a b i (by omega)
theorem ref_prod (a b : BitVec 8) : refP a b = prod a b := ref_steps a b 8 (Nat.le_refl _)

noncomputable def S4 : List AV → Option Ret := nz (sumOf (fun p : BitVec 8 × BitVec 8 => match p with | (a, b) => True) (fun p : BitVec 8 × BitVec 8 => match p with | (a, b) => [.int .u8 (a.toNat : Nat), .int .u8 (b.toNat : Nat)]) (fun p : BitVec 8 × BitVec 8 => match p with | (a, b) => ⟨.bool true, none⟩))
theorem S4_eq (a : BitVec 8) (b : BitVec 8)  : S4 [.int .u8 (a.toNat : Nat), .int .u8 (b.toNat : Nat)] = some ⟨.bool true, none⟩ :=
  sumOf_eq (dom := (fun p : BitVec 8 × BitVec 8 => match p with | (a, b) => True)) (enc := (fun p : BitVec 8 × BitVec 8 => match p with | (a, b) => [.int .u8 (a.toNat : Nat), .int .u8 (b.toNat : Nat)])) (out := (fun p : BitVec 8 × BitVec 8 => match p with | (a, b) => ⟨.bool true, none⟩)) (a, b) trivial (fun y _ e => by
    obtain ⟨y0, y1⟩ := y
    simp only [List.cons.injEq, AV.agg.injEq, AV.int.injEq, AV.slc.injEq, AV.bool.injEq, AV.str.injEq, ints_injEq, dig_injEq,  Int.ofNat_inj, BitVec.toNat_inj, true_and, and_true] at e
    first | with_reducible rfl | simp only [e] | rfl)
theorem S4_inv {args : List AV} {r : Ret} (h : sumOf (fun p : BitVec 8 × BitVec 8 => match p with | (a, b) => True) (fun p : BitVec 8 × BitVec 8 => match p with | (a, b) => [.int .u8 (a.toNat : Nat), .int .u8 (b.toNat : Nat)]) (fun p : BitVec 8 × BitVec 8 => match p with | (a, b) => ⟨.bool true, none⟩) args = some r) : ∃ (a : BitVec 8) (b : BitVec 8), (True) ∧ args = [.int .u8 (a.toNat : Nat), .int .u8 (b.toNat : Nat)] ∧ r = ⟨.bool true, none⟩ := by
  obtain ⟨x, h1, h2, h3⟩ := sumOf_inv h
  obtain ⟨a, b⟩ := x
  exact ⟨a, b, h1, h2.symm, h3⟩


set_option maxRecDepth 100000 in
theorem snd4 : SndE Try.prog NoG 4 S4 := by
  refine snd_nz (snd_by [(25, S25), (26, S26)] [] Try.func4 (by kernel_rfl) lite4 nt4 rs4 ⟨snd25, snd26, trivial⟩ trivial (fun hT args r h => ?_))
  obtain ⟨a, b, _, rfl, rfl⟩ := S4_inv h
  clear h
  have hM := hM0
  refine ⟨Nat.le_of_ble_eq_true rfl, fun F => ?_⟩
  unfold L4
  have f1 := S25_eq a b
  have f2 := S26_eq a b
  have f3 := S25_eq b a
  have f4 : S25 [.int .u8 87, .int .u8 131] = some ⟨.int .u8 193, none⟩ := by
    have := S25_eq 87#8 131#8
    rw [prod_57] at this
    exact this
  rw [ref_prod] at f2
  rw [prod_comm b a] at f3
  generalize ((prod a b).toNat : Int) = p at *
  generalize (a.toNat : Int) = x at *
  generalize (b.toNat : Int) = y at *
  refine Lwp.seq (Lwp.regI hT ?_)
  simp only [L4r0, go_sem, eq_self, reduceIte, Nat.reduceAdd, Nat.reduceMul, Nat.reduceSub, Nat.reduceLT, Nat.reduceLeDiff, Nat.reduceEqDiff, Nat.reduceDiv, Nat.reduceMod, Nat.reducePow, Nat.reduceBEq, Nat.reduceBNe, Int.reduceLT, Int.reduceLE, Int.reduceGT, Int.reduceGE, Int.reduceBEq, Int.reduceBNe, Int.reduceToNat, Int.reduceAdd, Int.reduceSub, Int.reduceMul, Int.reduceEq, Int.reduceNeg, reduceCtorEq, decide_true, decide_false, Bool.false_eq_true, ty3, ty4, ty5, ty22, ty76, eq22]
  refine Lwp.seq (Lwp.regI hT ?_)
  simp only [L4r1, go_sem, eq_self, reduceIte, Nat.reduceAdd, Nat.reduceMul, Nat.reduceSub, Nat.reduceLT, Nat.reduceLeDiff, Nat.reduceEqDiff, Nat.reduceDiv, Nat.reduceMod, Nat.reducePow, Nat.reduceBEq, Nat.reduceBNe, Int.reduceLT, Int.reduceLE, Int.reduceGT, Int.reduceGE, Int.reduceBEq, Int.reduceBNe, Int.reduceToNat, Int.reduceAdd, Int.reduceSub, Int.reduceMul, Int.reduceEq, Int.reduceNeg, reduceCtorEq, decide_true, decide_false, Bool.false_eq_true, ty3, ty4, ty5, ty22, ty76, eq22, f1]
  refine Lwp.seq (Lwp.regI hT ?_)
  simp only [L4r2, go_sem, eq_self, reduceIte, Nat.reduceAdd, Nat.reduceMul, Nat.reduceSub, Nat.reduceLT, Nat.reduceLeDiff, Nat.reduceEqDiff, Nat.reduceDiv, Nat.reduceMod, Nat.reducePow, Nat.reduceBEq, Nat.reduceBNe, Int.reduceLT, Int.reduceLE, Int.reduceGT, Int.reduceGE, Int.reduceBEq, Int.reduceBNe, Int.reduceToNat, Int.reduceAdd, Int.reduceSub, Int.reduceMul, Int.reduceEq, Int.reduceNeg, reduceCtorEq, decide_true, decide_false, Bool.false_eq_true, ty3, ty4, ty5, ty22, ty76, eq22, f2, f3, f4]
  refine Lwp.ret (post_val (v := .bool true) ?_ ?_)
  · simp only [go_sem, eq_self, reduceIte, Nat.reduceAdd, Nat.reduceMul, Nat.reduceSub, Nat.reduceLT, Nat.reduceLeDiff, Nat.reduceEqDiff, Nat.reduceDiv, Nat.reduceMod, Nat.reducePow, Nat.reduceBEq, Nat.reduceBNe, Int.reduceLT, Int.reduceLE, Int.reduceGT, Int.reduceGE, Int.reduceBEq, Int.reduceBNe, Int.reduceToNat, Int.reduceAdd, Int.reduceSub, Int.reduceMul, Int.reduceEq, Int.reduceNeg, reduceCtorEq, decide_true, decide_false, Bool.false_eq_true]
  · simp only [go_sem, eq_self, reduceIte, Nat.reduceAdd, Nat.reduceMul, Nat.reduceSub, Nat.reduceLT, Nat.reduceLeDiff, Nat.reduceEqDiff, Nat.reduceDiv, Nat.reduceMod, Nat.reducePow, Nat.reduceBEq, Nat.reduceBNe, Int.reduceLT, Int.reduceLE, Int.reduceGT, Int.reduceGE, Int.reduceBEq, Int.reduceBNe, Int.reduceToNat, Int.reduceAdd, Int.reduceSub, Int.reduceMul, Int.reduceEq, Int.reduceNeg, reduceCtorEq, decide_true, decide_false, Bool.false_eq_true]
theorem S4_eqI (x y : Int) (hx : U8 x) (hy : U8 y) : S4 [.int .u8 x, .int .u8 y] = some ⟨.bool true, none⟩ := by
  have h := S4_eq (BitVec.ofInt 8 x) (BitVec.ofInt 8 y)
  rw [bv8_ofInt hx.1 hx.2, bv8_ofInt hy.1 hy.2] at h
  exact h
end Eng
