/- Contracts of the program's functions, and laws over them. There is no further condition. -/
import Derived.Test.YtmlehjafpofkoaaGreatDoorU2tq
import Derived.Test.YtmlehjafpofkoaaGreatDoorU1tq
import Derived.Test.YtmlehjafpofkoaaGreatDoorEngGl
import Init.Data.Nat.Coprime
import Derived.Test.YtmlehjafpofkoaaGreatDoorED
import Derived.Test.YtmlehjafpofkoaaGreatDoorEngGp
import Derived.WalkKit
import Derived.LaidEql
import Derived.Stop.Asserts
import Derived.RowKitTokens
set_option linter.unusedVariables false
set_option linter.unusedSimpArgs false
set_option linter.unusedSectionVars false
set_option exponentiation.threshold 2000
namespace Eng
open Go Go.Proofs
set_option linter.unusedSimpArgs false
set_option linter.unusedVariables false
theorem limb_bit (x i : Nat) : x / 18446744073709551616 ^ (i / 64) % 18446744073709551616 / 2 ^ (i % 64) % 2 = x / 2 ^ i % 2 := by
  have h1 : i = 64 * (i / 64) + i % 64 := (Nat.div_add_mod i 64).symm
  have h2 : 2 ^ i = 18446744073709551616 ^ (i / 64) * 2 ^ (i % 64) := by
    conv => lhs; rw [h1, Nat.pow_add, Nat.pow_mul]
  have h3 : i % 64 < 64 := Nat.mod_lt _ (by decide)
  rw [h2, ← Nat.div_div_eq_div_mul]
  generalize x / 18446744073709551616 ^ (i / 64) = q
  generalize i % 64 = s at *
  have h4 : (18446744073709551616 : Nat) = 2 ^ s * 2 ^ (64 - s) := by rw [← Nat.pow_add]; rw [show s + (64 - s) = 64 by omega]
  rw [h4, Nat.mod_mul_right_div_self]
  have h5 : (2 : Nat) ^ (64 - s) = 2 * 2 ^ (63 - s) := by rw [← Nat.pow_succ']; congr 1; omega
  rw [h5, Nat.mod_mul_right_mod]
theorem bitZ_nat {a : List Int} (h : U6 a) {i : Nat} (hi : i < 384) : bitZ a (i : Int) = ((v64 a / 2 ^ i % 2 : Nat) : Int) := by
  unfold bitZ
  rw [if_pos ⟨by omega, by omega⟩, Int.toNat_natCast, v64_getD h.2, ← limb_bit]
  norm_cast
theorem S33_nat {a : List Int} (h : U6 a) {i : Nat} (hi : i < 384) : S33 [.agg (ints .u64 a), .int .i64 (i : Int)] = some ⟨.int .u64 ((v64 a / 2 ^ i % 2 : Nat) : Int), none⟩ := by
  rw [S33_eq a i h ⟨by omega, by omega⟩, bitZ_nat h hi]
theorem one6_set : (List.replicate 6 (0 : Int)).set 0 1 = one6 := rfl
theorem pow_half (b e i : Nat) : b ^ (e / 2 ^ i) = if e / 2 ^ i % 2 = 1 then b ^ (e / 2 ^ (i + 1)) * b ^ (e / 2 ^ (i + 1)) * b else b ^ (e / 2 ^ (i + 1)) * b ^ (e / 2 ^ (i + 1)) := by
  have h1 : e / 2 ^ (i + 1) = e / 2 ^ i / 2 := by rw [Nat.pow_succ, Nat.div_div_eq_div_mul]
  rw [h1]
  generalize e / 2 ^ i = q
  have h2 : q = q / 2 + q / 2 + q % 2 := by omega
  have h3 : b ^ q = b ^ (q / 2) * b ^ (q / 2) * b ^ (q % 2) := by rw [← Nat.pow_add, ← Nat.pow_add, ← h2]
  rcases Nat.mod_two_eq_zero_or_one q with h | h
  · rw [if_neg (by omega), h3, h, Nat.pow_zero, Nat.mul_one]
  · rw [if_pos h, h3, h, Nat.pow_one]
def St53 (d e x1 : List Int) (X : Nat → List Int) (k : Nat) : AState := { nt := 41, env := [(4, .own 1 0), (5, .own 2 0), (6, .own 3 0), (7, .own 9 0), (8, .own 16 0), (9, .int .i64 ((k : Int) - 1))], mem := [(1, ints .u64 e), (2, ints .u64 d), (3, ints .u64 (List.replicate 6 0)), (9, ints .u64 x1), (16, ints .u64 (X k))], next := 100 }

set_option maxRecDepth 100000 in
theorem walk53 (hT : (tb Tryz.prog [(33, S33), (60, S60), (96, S96)] []).Ok) (hM : Tryz.prog.follows .mixedOrders = true) (F : Fr) {a e d two x1 out : List Int} {X Y Z : Nat → List Int} {c : Nat → Int} (hl : a.length = 6) (hl1 : e.length = 6) (dl : d.length = 13)
    (d7 : sub (ints .u64 d) 7 6 = ints .u64 two) (l1 : x1.length = 6) (lX : ∀ k, (X k).length = 6) (lY : ∀ k, (Y k).length = 6) (lZ : ∀ k, (Z k).length = 6) (lo : out.length = 6)
    (fb : S96 [.agg (ints .u64 a), .agg (ints .u64 two), .agg (ints .u64 d)] = some ⟨.agg (ints .u64 x1), none⟩) (fi : S96 [.agg (ints .u64 one6), .agg (ints .u64 two), .agg (ints .u64 d)] = some ⟨.agg (ints .u64 (X 384)), none⟩)
    (fs : ∀ k, k < 384 → S96 [.agg (ints .u64 (X (k + 1))), .agg (ints .u64 (X (k + 1))), .agg (ints .u64 d)] = some ⟨.agg (ints .u64 (Y k)), none⟩)
    (fm : ∀ k, k < 384 → S96 [.agg (ints .u64 (Y k)), .agg (ints .u64 x1), .agg (ints .u64 d)] = some ⟨.agg (ints .u64 (Z k)), none⟩)
    (ft : ∀ k, k < 384 → S33 [.agg (ints .u64 e), .int .i64 (k : Nat)] = some ⟨.int .u64 (c k), none⟩)
    (fp : ∀ k, k < 384 → S60 [.int .u64 (c k), .agg (ints .u64 (Y k)), .agg (ints .u64 (Z k))] = some ⟨.agg (ints .u64 (X k)), none⟩)
    (fo : S96 [.agg (ints .u64 (X 0)), .agg (ints .u64 one6), .agg (ints .u64 d)] = some ⟨.agg (ints .u64 out), none⟩) :
    Lwp okDraw (tb Tryz.prog [(33, S33), (60, S60), (96, S96)] []) F L61 (Post (tb Tryz.prog [(33, S33), (60, S60), (96, S96)] []) [.cell 6 24] ⟨.agg (ints .u64 out), none⟩) (entry 41 [.agg (ints .u64 a), .agg (ints .u64 e), .agg (ints .u64 d)]) := by
  have n1 : (13 : Nat) ≤ 13 := by decide
  have o1 := one6_set
  have ol : one6.length = 6 := rfl
  have lX384 := lX 384
  generalize hX : X 384 = x384 at *
  unfold L61
  refine Lwp.seq (Lwp.regI hT ?_)
  simp only [L61r0, go_sem, eq_self, Nat.reduceAdd, Nat.reduceLT, Nat.reduceEqDiff, reduceCtorEq, decide_true, ty24]
  refine Lwp.seq (Lwp.regI hT ?_)
  simp only [L61r1, go_sem, eq_self, Nat.reduceAdd, Nat.reduceLT, Nat.reduceLeDiff, Nat.reduceEqDiff, reduceCtorEq, decide_true, ty24, ty81, hl, dl, d7, n1, fb, l1]
  refine Lwp.seq (Lwp.regI hT ?_)
  simp only [L61r2, go_sem, eq_self, Nat.reduceAdd, Nat.reduceLT, Nat.reduceLeDiff, Nat.reduceEqDiff, reduceCtorEq, decide_true, ty22, ty24, ty81, o1, dl, d7, n1, fi, lX384]
  refine Lwp.seq ?_
  refine Lwp.seq (Lwp.regI hT ?_)
  simp only [L61r3, go_sem, eq_self, Nat.reduceAdd, Nat.reduceLT, decide_true]
  refine Lwp.block (Lwp.whl (St53 d e x1 X) (fun k => k ≤ 384) (fun k => k) 384 (Nat.le_refl _) ?_ ?_)
  · refine weak_of rfl ?_ ?_ ?_
    · (simp only [go_sem, eq_self, Nat.reduceEqDiff, Int.reduceSub, reduceCtorEq, St53, hX]; try rfl)
    · (simp only [go_sem, eq_self, Nat.reduceEqDiff, Int.reduceSub, reduceCtorEq, St53, hX]; try rfl)
    · (simp only [go_sem, eq_self, Nat.reduceEqDiff, Int.reduceSub, St53, hX]; try rfl)
  · intro k hk
    unfold St53
    refine Lwp.seq (Lwp.seq (Lwp.regI hT ?_))
    by_cases h0 : k = 0
    · subst h0
      have b1 : ¬ (((0 : Nat) : Int) - 1) ≥ 0 := by omega
      have lX0 := lX 0
      generalize X 0 = x0 at *
      simp only [L61r4, go_sem, eq_self, Nat.reduceAdd, Nat.reduceLT, Nat.reduceEqDiff, Int.reduceGE, Int.reduceSub, Int.reduceNeg, decide_true, decide_false]
      refine Lwp.cond rfl (fun h => by cases h) (fun _ => Lwp.exit ?_)
      simp only [go_sem, eq_self, Int.reduceNeg]
      refine Lwp.seq (Lwp.regI hT ?_)
      simp only [L61r8, go_sem, eq_self, Nat.reduceAdd, Nat.reduceLT, Nat.reduceLeDiff, Nat.reduceEqDiff, Int.reduceNeg, decide_true, ty22, ty24, ty81, o1, dl, lX0, fo, lo]
      refine Lwp.ret (post_val (v := .agg (ints .u64 out)) ?_ ?_)
      · simp only [go_sem, eq_self, Nat.reduceLT, Nat.reduceLeDiff, Nat.reduceEqDiff, Int.reduceNeg, ty24, lo]
      · simp only [go_sem, eq_self]
    · obtain ⟨i, rfl⟩ : ∃ i, k = i + 1 := ⟨k - 1, by omega⟩
      have b0 : ((i + 1 : Nat) : Int) - 1 = (i : Int) := by omega
      have b1 : (i : Int) ≥ 0 := by omega
      have b2 : IntKind.i64.wrap ((i : Int) - 1) = (i : Int) - 1 := wrap_i64 (by omega) (by omega)
      have g1 := fs i (by omega)
      have g2 := fm i (by omega)
      have g3 := ft i (by omega)
      have g4 := fp i (by omega)
      have q1 := lX (i + 1)
      have q2 := lX i
      have q3 := lY i
      have q4 := lZ i
      simp only [b0]
      generalize X (i + 1) = xi1 at *
      generalize hxi : X i = xi at *
      generalize Y i = yi at *
      generalize Z i = zi at *
      generalize c i = ci at *
      simp only [L61r4, go_sem, eq_self, Nat.reduceAdd, Nat.reduceLT, Nat.reduceEqDiff, decide_true, b1]
      refine Lwp.cond rfl (fun _ => Lwp.skip ?_) (fun h => by cases h)
      simp only [go_sem]
      refine Lwp.seq (Lwp.block ?_)
      refine Lwp.seq (Lwp.regI hT ?_)
      simp only [L61r6, go_sem, eq_self, Nat.reduceAdd, Nat.reduceLT, Nat.reduceLeDiff, Nat.reduceEqDiff, decide_true, ty24, ty81, dl, q1, q3, g1]
      refine Lwp.regD hT hM ?_
      simp only [L61r7, go_sem, List.isEmpty_nil, eq_self, Nat.reduceAdd, Nat.reduceSub, Nat.reduceLT, Nat.reduceLeDiff, Nat.reduceEqDiff, Nat.reduceDiv, Nat.reduceMod, Nat.reducePow, reduceCtorEq, decide_true, decide_false, Bool.false_eq_true, ty24, ty81, hl1, dl, q3, q2, l1, g2, g3, g4]
      refine Lwp.regI hT ?_
      simp only [L61r5, go_sem, eq_self, Nat.reduceAdd, Nat.reduceLT, Nat.reduceEqDiff, decide_true, b2]
      refine ⟨i, by omega, by omega, ?_⟩
      refine weak_of rfl ?_ ?_ ?_
      · (simp only [go_sem, eq_self, Nat.reduceEqDiff]; try rfl)
      · (simp only [go_sem, eq_self, Nat.reduceEqDiff, hxi]; try rfl)
      · (simp only [go_sem, eq_self, Nat.reduceEqDiff, hxi]; try rfl)

noncomputable def S61 : List AV → Option Ret := nz (sumOf (fun p : List Int × List Int × List Int => match p with | (a, e, d) => (U6 a) ∧ (U6 e) ∧ (ModL d)) (fun p : List Int × List Int × List Int => match p with | (a, e, d) => [.agg (ints .u64 a), .agg (ints .u64 e), .agg (ints .u64 d)]) (fun p : List Int × List Int × List Int => match p with | (a, e, d) => ⟨.agg (ints .u64 (lim6 (v64 a ^ v64 e % v64 (d.take 6)))), none⟩))
theorem S61_eq (a : List Int) (e : List Int) (d : List Int) (h0 : U6 a) (h1 : U6 e) (h2 : ModL d) : S61 [.agg (ints .u64 a), .agg (ints .u64 e), .agg (ints .u64 d)] = some ⟨.agg (ints .u64 (lim6 (v64 a ^ v64 e % v64 (d.take 6)))), none⟩ :=
  sumOf_eq (dom := (fun p : List Int × List Int × List Int => match p with | (a, e, d) => (U6 a) ∧ (U6 e) ∧ (ModL d))) (enc := (fun p : List Int × List Int × List Int => match p with | (a, e, d) => [.agg (ints .u64 a), .agg (ints .u64 e), .agg (ints .u64 d)])) (out := (fun p : List Int × List Int × List Int => match p with | (a, e, d) => ⟨.agg (ints .u64 (lim6 (v64 a ^ v64 e % v64 (d.take 6)))), none⟩)) (a, e, d) ⟨h0, h1, h2⟩ (fun y _ e => by
    obtain ⟨y0, y1, y2⟩ := y
    simp only [List.cons.injEq, AV.agg.injEq, ints_injEq, and_true] at e
    first | with_reducible rfl | simp only [e] | rfl)
theorem S61_inv {args : List AV} {r : Ret} (h : sumOf (fun p : List Int × List Int × List Int => match p with | (a, e, d) => (U6 a) ∧ (U6 e) ∧ (ModL d)) (fun p : List Int × List Int × List Int => match p with | (a, e, d) => [.agg (ints .u64 a), .agg (ints .u64 e), .agg (ints .u64 d)]) (fun p : List Int × List Int × List Int => match p with | (a, e, d) => ⟨.agg (ints .u64 (lim6 (v64 a ^ v64 e % v64 (d.take 6)))), none⟩) args = some r) : ∃ (a : List Int) (e : List Int) (d : List Int), ((U6 a) ∧ (U6 e) ∧ (ModL d)) ∧ args = [.agg (ints .u64 a), .agg (ints .u64 e), .agg (ints .u64 d)] ∧ r = ⟨.agg (ints .u64 (lim6 (v64 a ^ v64 e % v64 (d.take 6)))), none⟩ := by
  obtain ⟨x, h1, h2, h3⟩ := sumOf_inv h
  obtain ⟨a, e, d⟩ := x
  exact ⟨a, e, d, h1, h2.symm, h3⟩


set_option maxRecDepth 100000 in
theorem snd61 : SndE Tryz.prog NoG 61 S61 := by
  refine snd_nz (snd_by [(33, S33), (60, S60), (96, S96)] [] Tryz.func61 (by kernel_rfl) lite61 nt61 rs61 ⟨snd33, snd60, snd96, trivial⟩ trivial (fun hT args r h => ?_))
  obtain ⟨a, e, d, ⟨hd0, hd1, hd2⟩, rfl, rfl⟩ := S61_inv h
  clear h
  have hM := hM0
  refine ⟨Nat.le_of_ble_eq_true rfl, fun F => ?_⟩
  unfold L61
  obtain ⟨m, hG, rfl⟩ := hd2
  have hM2 := ModL.modL hG
  have dl := modL_len hG.1
  have dt := modL_take hG.1
  have d7 : sub (ints .u64 (modL m)) 7 6 = ints .u64 (lim6 (18446744073709551616 ^ 6 * 18446744073709551616 ^ 6 % v64 m)) := by rw [ints_sub, modL_two hG.1]
  have hodd := hG.2.1
  have P : ∀ x y : Nat, x < 18446744073709551616 ^ 6 → y < 18446744073709551616 ^ 6 → S96 [.agg (ints .u64 (lim6 x)), .agg (ints .u64 (lim6 y)), .agg (ints .u64 (modL m))] = some ⟨.agg (ints .u64 (lim6 (redN (x * y) (v64 m)))), none⟩ := fun x y hx hy => by
    have := S96_eq (lim6 x) (lim6 y) (modL m) (U6_lim _) (U6_lim _) hM2
    rwa [v64_lim6 hx, v64_lim6 hy, dt] at this
  have lt := mod_lt_R hG
  have o1 : lim6 1 = one6 := by decide
  have fb := P (v64 a) _ hd0.v64_lt (two_lt hG)
  rw [redN_in hodd, hd0.eq_lim] at fb
  have fi := P 1 _ (by decide) (two_lt hG)
  rw [redN_in hodd, o1] at fi
  have fo := P (v64 a ^ (v64 e / 2 ^ 0) * 18446744073709551616 ^ 6 % v64 m) 1 (lt _) (by decide)
  rw [redN_out (u := v64 a ^ (v64 e / 2 ^ 0)) hodd (Nat.mod_mod _ _), o1, Nat.mul_one] at fo
  have e384 : v64 e / 2 ^ 384 = 0 := Nat.div_eq_of_lt (by have := hd1.v64_lt; rwa [show (18446744073709551616 : Nat) ^ 6 = 2 ^ 384 by decide] at this)
  rw [dt, ← Nat.div_one (v64 e), ← Nat.pow_zero 2]
  refine walk53 hT hM F (two := lim6 (18446744073709551616 ^ 6 * 18446744073709551616 ^ 6 % v64 m)) (X := fun k => lim6 (v64 a ^ (v64 e / 2 ^ k) * 18446744073709551616 ^ 6 % v64 m))
    (Y := fun k => lim6 (v64 a ^ (v64 e / 2 ^ (k + 1)) * v64 a ^ (v64 e / 2 ^ (k + 1)) * 18446744073709551616 ^ 6 % v64 m)) (Z := fun k => lim6 (v64 a ^ (v64 e / 2 ^ (k + 1)) * v64 a ^ (v64 e / 2 ^ (k + 1)) * v64 a * 18446744073709551616 ^ 6 % v64 m))
    (c := fun k => ((v64 e / 2 ^ k % 2 : Nat) : Int)) hd0.1 hd1.1 dl d7 (lim6_len _) (fun k => lim6_len _) (fun k => lim6_len _) (fun k => lim6_len _) (lim6_len _) fb ?_ (fun k hk => ?_) (fun k hk => ?_) (fun k hk => S33_nat hd1 hk) (fun k hk => ?_) fo
  · show S96 _ = some ⟨.agg (ints .u64 (lim6 (v64 a ^ (v64 e / 2 ^ 384) * 18446744073709551616 ^ 6 % v64 m))), none⟩
    rw [e384, Nat.pow_zero]; exact fi
  · have h := P _ _ (lt (v64 a ^ (v64 e / 2 ^ (k + 1)) * 18446744073709551616 ^ 6)) (lt (v64 a ^ (v64 e / 2 ^ (k + 1)) * 18446744073709551616 ^ 6))
    rw [redN_mul (u := v64 a ^ (v64 e / 2 ^ (k + 1))) (v := v64 a ^ (v64 e / 2 ^ (k + 1))) hodd (Nat.mod_mod _ _) (Nat.mod_mod _ _)] at h
    exact h
  · have h := P _ _ (lt (v64 a ^ (v64 e / 2 ^ (k + 1)) * v64 a ^ (v64 e / 2 ^ (k + 1)) * 18446744073709551616 ^ 6)) (lt (v64 a * 18446744073709551616 ^ 6))
    rw [redN_mul (u := v64 a ^ (v64 e / 2 ^ (k + 1)) * v64 a ^ (v64 e / 2 ^ (k + 1))) (v := v64 a) hodd (Nat.mod_mod _ _) (Nat.mod_mod _ _)] at h
    exact h
  · have hb : ((v64 e / 2 ^ k % 2 : Nat) : Int) = 0 ∨ ((v64 e / 2 ^ k % 2 : Nat) : Int) = 1 := by omega
    show S60 [.int .u64 ((v64 e / 2 ^ k % 2 : Nat) : Int), _, _] = some ⟨.agg (ints .u64 (lim6 (v64 a ^ (v64 e / 2 ^ k) * 18446744073709551616 ^ 6 % v64 m))), none⟩
    rw [S60_bit hb (U6_lim _) (U6_lim _), pow_half (v64 a) (v64 e) k]
    rcases Nat.mod_two_eq_zero_or_one (v64 e / 2 ^ k) with h | h
    · rw [if_neg (by rw [h]; decide), if_neg (by rw [h]; decide)]
    · rw [if_pos (by rw [h]; rfl), if_pos h]
end Eng


namespace Eng
open Go Go.Proofs
set_option linter.unusedSimpArgs false
set_option linter.unusedVariables false
abbrev DS (l : List Int) : AV := .slc l.length (ints .u64 l)
abbrev AG (l : List Int) : AV := .agg (ints .u64 l)
theorem R32 : (18446744073709551616 : Nat) ^ 6 = 4294967296 ^ 12 := by decide
theorem GoodM.lt {m : List Int} (h : GoodM m) : v64 m < 4294967296 ^ 12 := by rw [← R32]; exact h.1.v64_lt
/-- The prime and the order, and what is reckoned of them. -/
def p6 : List Int := [4294967295, 18446744069414584320, 18446744073709551614, 18446744073709551615, 18446744073709551615, 18446744073709551615]
def p13 : List Int := [4294967295, 18446744069414584320, 18446744073709551614, 18446744073709551615, 18446744073709551615, 18446744073709551615, 4294967297, 18446744065119617025, 8589934592, 18446744065119617024, 8589934592, 1, 0]
theorem p_mod : modL p6 = p13 := by decide +kernel
theorem p_good : GoodM p6 := ⟨⟨rfl, by decide⟩, by decide, by decide⟩
theorem pD_ex : ∃ d, d = modL p6 := ⟨_, rfl⟩
theorem pN_ex : ∃ d, d = v64 p6 := ⟨_, rfl⟩
theorem pL_ex : ∃ d, d = p6 := ⟨_, rfl⟩
/-- Names that do not unfold. -/
noncomputable def pD : List Int := Classical.choose pD_ex
noncomputable def pN : Nat := Classical.choose pN_ex
noncomputable def pL : List Int := Classical.choose pL_ex
theorem pL_eq : pL = p6 := Classical.choose_spec pL_ex
theorem pD_eq : pD = modL pL := (Classical.choose_spec pD_ex).trans (by rw [pL_eq])
theorem pN_eq : pN = v64 pL := (Classical.choose_spec pN_ex).trans (by rw [pL_eq])
theorem pL_good : GoodM pL := by rw [pL_eq]; exact p_good
theorem pD_len : pD.length = 13 := by rw [pD_eq]; exact modL_len pL_good.1
theorem pD_mod : ModL pD := by rw [pD_eq]; exact ModL.modL pL_good
theorem pD_take : pD.take 6 = pL := by rw [pD_eq]; exact modL_take pL_good.1
theorem pD_sub : sub (ints .u64 pD) 0 6 = ints .u64 pL := by rw [ints_sub, List.drop_zero, pD_take]
theorem pN_pos : 0 < pN := by rw [pN_eq]; exact pL_good.pos
theorem pN_lt : pN < 4294967296 ^ 12 := by rw [pN_eq]; exact pL_good.lt
theorem pN_ltR : pN < 18446744073709551616 ^ 6 := by rw [R32]; exact pN_lt
theorem pN_mod_lt (x : Nat) : x % pN < 18446744073709551616 ^ 6 := Nat.lt_trans (Nat.mod_lt _ pN_pos) pN_ltR
theorem pL_lim : lim6 pN = pL := by rw [pN_eq]; exact pL_good.1.eq_lim
noncomputable def pG : List (Nat × List AV) := [(4, ints .u64 pD)]
theorem fld0 : (#[⟨ "M", 24, 0, false, "", "", 0⟩, ⟨ "Inv", 22, 6, false, "", "", 48⟩, ⟨ "Two", 24, 7, false, "", "", 56⟩] : Array Field)[0]? = some ⟨ "M", 24, 0, false, "", "", 0⟩ := rfl
theorem fld2 : (#[⟨ "M", 24, 0, false, "", "", 0⟩, ⟨ "Inv", 22, 6, false, "", "", 48⟩, ⟨ "Two", 24, 7, false, "", "", 56⟩] : Array Field)[2]? = some ⟨ "Two", 24, 7, false, "", "", 56⟩ := rfl
noncomputable def S26 : List AV → Option Ret := nz (sumOf (fun p : Unit => match p with | () => True) (fun p : Unit => match p with | () => []) (fun p : Unit => match p with | () => ⟨AG pL, none⟩))
theorem S26_eq  : S26 [] = some ⟨AG pL, none⟩ :=
  sumOf_eq (dom := (fun p : Unit => match p with | () => True)) (enc := (fun p : Unit => match p with | () => [])) (out := (fun p : Unit => match p with | () => ⟨AG pL, none⟩)) () trivial (fun y _ e => by
    rfl)
theorem S26_inv {args : List AV} {r : Ret} (h : sumOf (fun p : Unit => match p with | () => True) (fun p : Unit => match p with | () => []) (fun p : Unit => match p with | () => ⟨AG pL, none⟩) args = some r) : (True) ∧ args = [] ∧ r = ⟨AG pL, none⟩ := by
  obtain ⟨x, h1, h2, h3⟩ := sumOf_inv h
  exact ⟨h1, h2.symm, h3⟩

set_option maxRecDepth 100000 in
theorem snd26 : SndG Tryz.prog pG 26 S26 := by
  refine snd_nz (sndG_by (gl := pG) [] [] Tryz.func26 (by kernel_rfl) lite26 nt26 rs26 trivial trivial (fun hT args r h => ?_))
  obtain ⟨_, rfl, rfl⟩ := S26_inv h
  clear h
  have hM := hM0
  refine ⟨Nat.le_of_ble_eq_true rfl, fun F => ?_⟩
  unfold L26
  have h1 := pL_good.1.1
  have h2 := pD_len
  have h3 := pD_sub
  have n1 : (6 : Nat) ≤ 13 := by decide
  refine Lwp.seq (Lwp.regI hT ?_)
  simp only [L26r0, go_sem, eq_self, Nat.reduceLT, decide_true, ty24, pG]
  refine Lwp.seq (Lwp.regI hT ?_)
  simp only [L26r1, go_sem, eq_self, Nat.reduceAdd, Nat.reduceLT, Nat.reduceLeDiff, Nat.reduceEqDiff, reduceCtorEq, decide_true, ty24, ty81, pG, fld0, h1, h2, h3, n1]
  refine Lwp.ret (post_val (v := AG pL) ?_ ?_)
  · simp only [go_sem, eq_self, Nat.reduceLT, Nat.reduceLeDiff, reduceCtorEq, ty24, h1]
  · simp only [go_sem, eq_self]

noncomputable def S28 : List AV → Option Ret := nz (sumOf (fun p : List Int × List Int => match p with | (a, b) => (U6 a) ∧ (U6 b)) (fun p : List Int × List Int => match p with | (a, b) => [AG a, AG b]) (fun p : List Int × List Int => match p with | (a, b) => ⟨AG (lim6 ((v64 a + v64 b) % pN)), none⟩))
theorem S28_eq (a : List Int) (b : List Int) (h0 : U6 a) (h1 : U6 b) : S28 [AG a, AG b] = some ⟨AG (lim6 ((v64 a + v64 b) % pN)), none⟩ :=
  sumOf_eq (dom := (fun p : List Int × List Int => match p with | (a, b) => (U6 a) ∧ (U6 b))) (enc := (fun p : List Int × List Int => match p with | (a, b) => [AG a, AG b])) (out := (fun p : List Int × List Int => match p with | (a, b) => ⟨AG (lim6 ((v64 a + v64 b) % pN)), none⟩)) (a, b) ⟨h0, h1⟩ (fun y _ e => by
    obtain ⟨y0, y1⟩ := y
    simp only [List.cons.injEq, AV.agg.injEq, ints_injEq, and_true] at e
    first | with_reducible rfl | simp only [e] | rfl)
theorem S28_inv {args : List AV} {r : Ret} (h : sumOf (fun p : List Int × List Int => match p with | (a, b) => (U6 a) ∧ (U6 b)) (fun p : List Int × List Int => match p with | (a, b) => [AG a, AG b]) (fun p : List Int × List Int => match p with | (a, b) => ⟨AG (lim6 ((v64 a + v64 b) % pN)), none⟩) args = some r) : ∃ (a : List Int) (b : List Int), ((U6 a) ∧ (U6 b)) ∧ args = [AG a, AG b] ∧ r = ⟨AG (lim6 ((v64 a + v64 b) % pN)), none⟩ := by
  obtain ⟨x, h1, h2, h3⟩ := sumOf_inv h
  obtain ⟨a, b⟩ := x
  exact ⟨a, b, h1, h2.symm, h3⟩

set_option maxRecDepth 100000 in
theorem snd28 : SndG Tryz.prog pG 28 S28 := by
  refine snd_nz (sndG_by (gl := pG) [(53, S53)] [] Tryz.func28 (by kernel_rfl) lite28 nt28 rs28 ⟨(by first | exact snd53 | exact snd53.toG | exact SndE.mono up_C snd53 | exact SndE.mono up_D snd53 | exact SndE.mono up_N snd53), trivial⟩ trivial (fun hT args r h => ?_))
  obtain ⟨a, b, ⟨hd0, hd1⟩, rfl, rfl⟩ := S28_inv h
  clear h
  have hM := hM0
  refine ⟨Nat.le_of_ble_eq_true rfl, fun F => ?_⟩
  unfold L28
  have hl := hd0.1
  have hl1 := hd1.1
  have h2 := pD_len
  have f := S53_eq a b pD hd0 hd1 pD_mod
  rw [pD_take, ← pN_eq] at f
  have lo := lim6_len ((v64 a + v64 b) % pN)
  generalize lim6 ((v64 a + v64 b) % pN) = out at *
  refine Lwp.seq (Lwp.regI hT ?_)
  simp only [L28r0, go_sem, eq_self, Nat.reduceAdd, Nat.reduceLT, Nat.reduceEqDiff, reduceCtorEq, decide_true, ty24, pG]
  refine Lwp.seq (Lwp.regI hT ?_)
  simp only [L28r1, go_sem, eq_self, Nat.reduceAdd, Nat.reduceLT, Nat.reduceEqDiff, reduceCtorEq, decide_true, ty24, ty81, pG, hl, hl1, h2, f, lo, Nat.le_refl]
  refine Lwp.ret (post_val (v := AG out) ?_ ?_)
  · simp only [go_sem, eq_self, Nat.reduceLT, Nat.reduceLeDiff, Nat.reduceEqDiff, reduceCtorEq, ty24, lo]
  · simp only [go_sem, eq_self]

noncomputable def S27 : List AV → Option Ret := nz (sumOf (fun p : List Int × List Int => match p with | (a, b) => (U6 a) ∧ (U6 b)) (fun p : List Int × List Int => match p with | (a, b) => [AG a, AG b]) (fun p : List Int × List Int => match p with | (a, b) => ⟨AG (lim6 (v64 a * v64 b % pN)), none⟩))
theorem S27_eq (a : List Int) (b : List Int) (h0 : U6 a) (h1 : U6 b) : S27 [AG a, AG b] = some ⟨AG (lim6 (v64 a * v64 b % pN)), none⟩ :=
  sumOf_eq (dom := (fun p : List Int × List Int => match p with | (a, b) => (U6 a) ∧ (U6 b))) (enc := (fun p : List Int × List Int => match p with | (a, b) => [AG a, AG b])) (out := (fun p : List Int × List Int => match p with | (a, b) => ⟨AG (lim6 (v64 a * v64 b % pN)), none⟩)) (a, b) ⟨h0, h1⟩ (fun y _ e => by
    obtain ⟨y0, y1⟩ := y
    simp only [List.cons.injEq, AV.agg.injEq, ints_injEq, and_true] at e
    first | with_reducible rfl | simp only [e] | rfl)
theorem S27_inv {args : List AV} {r : Ret} (h : sumOf (fun p : List Int × List Int => match p with | (a, b) => (U6 a) ∧ (U6 b)) (fun p : List Int × List Int => match p with | (a, b) => [AG a, AG b]) (fun p : List Int × List Int => match p with | (a, b) => ⟨AG (lim6 (v64 a * v64 b % pN)), none⟩) args = some r) : ∃ (a : List Int) (b : List Int), ((U6 a) ∧ (U6 b)) ∧ args = [AG a, AG b] ∧ r = ⟨AG (lim6 (v64 a * v64 b % pN)), none⟩ := by
  obtain ⟨x, h1, h2, h3⟩ := sumOf_inv h
  obtain ⟨a, b⟩ := x
  exact ⟨a, b, h1, h2.symm, h3⟩

set_option maxRecDepth 100000 in
theorem snd27 : SndG Tryz.prog pG 27 S27 := by
  refine snd_nz (sndG_by (gl := pG) [(52, S52)] [] Tryz.func27 (by kernel_rfl) lite27 nt27 rs27 ⟨(by first | exact snd52 | exact snd52.toG | exact SndE.mono up_C snd52 | exact SndE.mono up_D snd52 | exact SndE.mono up_N snd52), trivial⟩ trivial (fun hT args r h => ?_))
  obtain ⟨a, b, ⟨hd0, hd1⟩, rfl, rfl⟩ := S27_inv h
  clear h
  have hM := hM0
  refine ⟨Nat.le_of_ble_eq_true rfl, fun F => ?_⟩
  unfold L27
  have hl := hd0.1
  have hl1 := hd1.1
  have h2 := pD_len
  have f := S52_eq a b pD hd0 hd1 pD_mod
  rw [pD_take, ← pN_eq] at f
  have lo := lim6_len (v64 a * v64 b % pN)
  generalize lim6 (v64 a * v64 b % pN) = out at *
  refine Lwp.seq (Lwp.regI hT ?_)
  simp only [L27r0, go_sem, eq_self, Nat.reduceAdd, Nat.reduceLT, Nat.reduceEqDiff, reduceCtorEq, decide_true, ty24, pG]
  refine Lwp.seq (Lwp.regI hT ?_)
  simp only [L27r1, go_sem, eq_self, Nat.reduceAdd, Nat.reduceLT, Nat.reduceEqDiff, reduceCtorEq, decide_true, ty24, ty81, pG, hl, hl1, h2, f, lo, Nat.le_refl]
  refine Lwp.ret (post_val (v := AG out) ?_ ?_)
  · simp only [go_sem, eq_self, Nat.reduceLT, Nat.reduceLeDiff, Nat.reduceEqDiff, reduceCtorEq, ty24, lo]
  · simp only [go_sem, eq_self]

theorem two_set : (List.replicate 6 (0 : Int)).set 0 2 = [2, 0, 0, 0, 0, 0] := rfl
end Eng


namespace Eng
open Go Go.Proofs
set_option linter.unusedSimpArgs false
set_option linter.unusedVariables false
theorem lim6_nil : lim6 0 = List.replicate 6 0 := by decide

/-- The rest of a difference. -/
def subM (p x y : Nat) : Nat := (x % p + (p - y % p)) % p
noncomputable def S29 : List AV → Option Ret := nz (sumOf (fun p : List Int × List Int => match p with | (a, b) => (U6 a) ∧ (U6 b)) (fun p : List Int × List Int => match p with | (a, b) => [AG a, AG b]) (fun p : List Int × List Int => match p with | (a, b) => ⟨AG (lim6 (subM pN (v64 a) (v64 b))), none⟩))
theorem S29_eq (a : List Int) (b : List Int) (h0 : U6 a) (h1 : U6 b) : S29 [AG a, AG b] = some ⟨AG (lim6 (subM pN (v64 a) (v64 b))), none⟩ :=
  sumOf_eq (dom := (fun p : List Int × List Int => match p with | (a, b) => (U6 a) ∧ (U6 b))) (enc := (fun p : List Int × List Int => match p with | (a, b) => [AG a, AG b])) (out := (fun p : List Int × List Int => match p with | (a, b) => ⟨AG (lim6 (subM pN (v64 a) (v64 b))), none⟩)) (a, b) ⟨h0, h1⟩ (fun y _ e => by
    obtain ⟨y0, y1⟩ := y
    simp only [List.cons.injEq, AV.agg.injEq, ints_injEq, and_true] at e
    first | with_reducible rfl | simp only [e] | rfl)
theorem S29_inv {args : List AV} {r : Ret} (h : sumOf (fun p : List Int × List Int => match p with | (a, b) => (U6 a) ∧ (U6 b)) (fun p : List Int × List Int => match p with | (a, b) => [AG a, AG b]) (fun p : List Int × List Int => match p with | (a, b) => ⟨AG (lim6 (subM pN (v64 a) (v64 b))), none⟩) args = some r) : ∃ (a : List Int) (b : List Int), ((U6 a) ∧ (U6 b)) ∧ args = [AG a, AG b] ∧ r = ⟨AG (lim6 (subM pN (v64 a) (v64 b))), none⟩ := by
  obtain ⟨x, h1, h2, h3⟩ := sumOf_inv h
  obtain ⟨a, b⟩ := x
  exact ⟨a, b, h1, h2.symm, h3⟩

set_option maxRecDepth 100000 in
theorem snd29 : SndG Tryz.prog pG 29 S29 := by
  refine snd_nz (sndG_by (gl := pG) [(54, S54)] [] Tryz.func29 (by kernel_rfl) lite29 nt29 rs29 ⟨(by first | exact snd54 | exact snd54.toG | exact SndE.mono up_C snd54 | exact SndE.mono up_D snd54 | exact SndE.mono up_N snd54), trivial⟩ trivial (fun hT args r h => ?_))
  obtain ⟨a, b, ⟨hd0, hd1⟩, rfl, rfl⟩ := S29_inv h
  clear h
  have hM := hM0
  refine ⟨Nat.le_of_ble_eq_true rfl, fun F => ?_⟩
  unfold L29
  have hl := hd0.1
  have hl1 := hd1.1
  have h2 := pD_len
  have f := S54_eq a b pD hd0 hd1 pD_mod
  rw [pD_take, ← pN_eq, ← subM] at f
  have lo := lim6_len (subM pN (v64 a) (v64 b))
  generalize lim6 (subM pN (v64 a) (v64 b)) = out at *
  refine Lwp.seq (Lwp.regI hT ?_)
  simp only [L29r0, go_sem, eq_self, Nat.reduceAdd, Nat.reduceLT, Nat.reduceEqDiff, reduceCtorEq, decide_true, ty24, pG]
  refine Lwp.seq (Lwp.regI hT ?_)
  simp only [L29r1, go_sem, eq_self, Nat.reduceAdd, Nat.reduceLT, Nat.reduceEqDiff, reduceCtorEq, decide_true, ty24, ty81, pG, hl, hl1, h2, f, lo, Nat.le_refl]
  refine Lwp.ret (post_val (v := AG out) ?_ ?_)
  · simp only [go_sem, eq_self, Nat.reduceLT, Nat.reduceLeDiff, Nat.reduceEqDiff, reduceCtorEq, ty24, lo]
  · simp only [go_sem, eq_self]

theorem subM_back (p x y : Nat) (hp : 0 < p) : (subM p x y + y) % p = x % p := by
  unfold subM
  have h := Nat.mod_lt y hp
  have e : x % p + (p - y % p) + y % p = x % p + p := by omega
  rw [Nat.mod_add_mod, ← Nat.add_mod_mod, e, Nat.add_mod_right, Nat.mod_mod]
end Eng


namespace Eng
/-! Prime numbers: Fermat's little theorem, Pocklington's criterion. -/
def Pr (n : Nat) : Prop := 2 ≤ n ∧ ∀ d, d ∣ n → d = 1 ∨ d = n
theorem Pr.cop {r a : Nat} (h : Pr r) (ha : ¬ r ∣ a) : Nat.Coprime r a := by
  rcases h.2 _ (Nat.gcd_dvd_left r a) with h1 | h1
  · exact h1
  · exact absurd (h1 ▸ Nat.gcd_dvd_right r a) ha
theorem Pr.mul {r a b : Nat} (h : Pr r) (hd : r ∣ a * b) : r ∣ a ∨ r ∣ b := by
  by_cases ha : r ∣ a
  · exact .inl ha
  · exact .inr ((h.cop ha).dvd_of_dvd_mul_left hd)
theorem exists_pr : ∀ n, 2 ≤ n → ∃ r, Pr r ∧ r ∣ n := by
  intro n
  induction n using Nat.strongRecOn with
  | ind n ih =>
    intro hn
    by_cases h : Pr n
    · exact ⟨n, h, Nat.dvd_refl n⟩
    · have : ∃ d, d ∣ n ∧ d ≠ 1 ∧ d ≠ n := by
        apply Classical.byContradiction
        intro hc
        refine h ⟨hn, fun d hd => ?_⟩
        apply Classical.byContradiction
        intro h2
        exact hc ⟨d, hd, fun e => h2 (.inl e), fun e => h2 (.inr e)⟩
      obtain ⟨d, hd, h1, h2⟩ := this
      have hle := Nat.le_of_dvd (by omega) hd
      have h0 : d ≠ 0 := by rintro rfl; exact absurd (Nat.eq_zero_of_zero_dvd hd) (by omega)
      obtain ⟨r, hr, hrd⟩ := ih d (by omega) (by omega)
      exact ⟨r, hr, Nat.dvd_trans hrd hd⟩
/-- What is no prime has a prime divisor of at most its root. -/
theorem small_pr {n : Nat} (hn : 2 ≤ n) (h : ¬ Pr n) : ∃ r, Pr r ∧ r ∣ n ∧ r * r ≤ n := by
  have : ∃ d, d ∣ n ∧ d ≠ 1 ∧ d ≠ n := by
    apply Classical.byContradiction
    intro hc
    refine h ⟨hn, fun d hd => ?_⟩
    apply Classical.byContradiction
    intro h2
    exact hc ⟨d, hd, fun e => h2 (.inl e), fun e => h2 (.inr e)⟩
  obtain ⟨d, ⟨e, he⟩, h1, h2⟩ := this
  have hd0 : d ≠ 0 := by rintro rfl; simp at he; omega
  have he0 : e ≠ 0 := by rintro rfl; simp at he; omega
  have he1 : e ≠ 1 := by rintro rfl; simp at he; exact h2 he.symm
  rcases Nat.le_total d e with hde | hde
  · obtain ⟨r, hr, hrd⟩ := exists_pr d (by omega)
    have h3 := Nat.le_of_dvd (by omega) hrd
    exact ⟨r, hr, Nat.dvd_trans hrd ⟨e, he⟩, by rw [he]; exact Nat.mul_le_mul h3 (Nat.le_trans h3 hde)⟩
  · obtain ⟨r, hr, hrd⟩ := exists_pr e (by omega)
    have h3 := Nat.le_of_dvd (by omega) hrd
    exact ⟨r, hr, Nat.dvd_trans hrd ⟨d, by rw [he, Nat.mul_comm]⟩, by rw [he]; exact Nat.mul_le_mul (Nat.le_trans h3 hde) h3⟩

def Ch : Nat → Nat → Nat
  | _, 0 => 1
  | 0, _ + 1 => 0
  | n + 1, k + 1 => Ch n k + Ch n (k + 1)
theorem Ch_zero : ∀ n, Ch n 0 = 1
  | 0 => rfl
  | _ + 1 => rfl
theorem Ch_above : ∀ n k, n < k → Ch n k = 0
  | _, 0, h => by omega
  | 0, k + 1, _ => rfl
  | n + 1, k + 1, h => by rw [Ch, Ch_above n k (by omega), Ch_above n (k + 1) (by omega)]
theorem Ch_self : ∀ n, Ch n n = 1
  | 0 => rfl
  | n + 1 => by rw [Ch, Ch_self n, Ch_above n (n + 1) (by omega)]
theorem Ch_absorb : ∀ n k, (k + 1) * Ch (n + 1) (k + 1) = (n + 1) * Ch n k
  | 0, 0 => rfl
  | 0, k + 1 => by simp [Ch]
  | n + 1, 0 => by
    have := Ch_absorb n 0
    have e0 : Ch (n + 1 + 1) (0 + 1) = Ch (n + 1) 0 + Ch (n + 1) (0 + 1) := rfl
    rw [e0, Nat.mul_add, this, Ch_zero, Ch_zero]; omega
  | n + 1, k + 1 => by
    have h1 := Ch_absorb n (k + 1)
    have h2 := Ch_absorb n k
    have e0 : Ch (n + 1 + 1) (k + 1 + 1) = Ch (n + 1) (k + 1) + Ch (n + 1) (k + 1 + 1) := rfl
    have e : Ch (n + 1) (k + 1) = Ch n k + Ch n (k + 1) := rfl
    rw [e0, Nat.mul_add, h1]
    have : (k + 1 + 1) * Ch (n + 1) (k + 1) = (n + 1) * Ch n k + Ch (n + 1) (k + 1) := by
      rw [Nat.add_mul (k + 1) 1, h2]; omega
    rw [this]
    rw [Nat.add_mul (n + 1) 1, e, Nat.mul_add]; omega
def sumN (f : Nat → Nat) : Nat → Nat
  | 0 => 0
  | n + 1 => sumN f n + f n
theorem sumN_head (f : Nat → Nat) : ∀ n, sumN f (n + 1) = f 0 + sumN (fun k => f (k + 1)) n
  | 0 => by simp [sumN]
  | n + 1 => by rw [sumN, sumN_head f n, sumN]; omega
theorem sumN_add (f g : Nat → Nat) : ∀ n, sumN (fun k => f k + g k) n = sumN f n + sumN g n
  | 0 => rfl
  | n + 1 => by rw [sumN, sumN_add f g n, sumN, sumN]; omega
theorem sumN_mul (x : Nat) (f : Nat → Nat) : ∀ n, sumN (fun k => x * f k) n = x * sumN f n
  | 0 => rfl
  | n + 1 => by rw [sumN, sumN_mul x f n, sumN, Nat.mul_add]
theorem sumN_congr {f g : Nat → Nat} : ∀ n, (∀ k, k < n → f k = g k) → sumN f n = sumN g n
  | 0, _ => rfl
  | n + 1, h => by rw [sumN, sumN, sumN_congr n (fun k hk => h k (by omega)), h n (by omega)]
theorem binom (x : Nat) : ∀ n, (x + 1) ^ n = sumN (fun k => Ch n k * x ^ k) (n + 1)
  | 0 => by simp [sumN, Ch]
  | n + 1 => by
    have ih := binom x n
    rw [sumN_head]
    have e1 : sumN (fun k => Ch (n + 1) (k + 1) * x ^ (k + 1)) (n + 1) = x * sumN (fun k => Ch n k * x ^ k) (n + 1) + sumN (fun k => Ch n (k + 1) * x ^ (k + 1)) (n + 1) := by
      rw [← sumN_mul, ← sumN_add]
      refine sumN_congr _ fun k _ => ?_
      rw [Ch, Nat.add_mul, Nat.pow_succ]
      congr 1
      rw [Nat.mul_comm x, Nat.mul_assoc]
    have e2 : sumN (fun k => Ch n k * x ^ k) (n + 2) = Ch n 0 * x ^ 0 + sumN (fun k => Ch n (k + 1) * x ^ (k + 1)) (n + 1) := sumN_head _ _
    rw [show n + 2 = (n + 1) + 1 from rfl, sumN, Ch_above n (n + 1) (by omega)] at e2
    rw [e1, ← ih, Nat.pow_succ, Nat.mul_add, Nat.mul_one]
    rw [Ch_zero]; rw [Ch_zero, ← ih] at e2
    rw [Nat.mul_comm x]
    omega
theorem dvd_sumN {r : Nat} {f : Nat → Nat} : ∀ n, (∀ k, k < n → r ∣ f k) → r ∣ sumN f n
  | 0, _ => Nat.dvd_zero r
  | n + 1, h => by
    rw [sumN]
    exact Nat.dvd_add (dvd_sumN n (fun k hk => h k (by omega))) (h n (by omega))
theorem pr_Ch {r k : Nat} (h : Pr r) (h0 : 0 < k) (h1 : k < r) : r ∣ Ch r k := by
  obtain ⟨j, rfl⟩ : ∃ j, k = j + 1 := ⟨k - 1, by omega⟩
  obtain ⟨m, rfl⟩ : ∃ m, r = m + 1 := ⟨r - 1, by omega⟩
  have := Ch_absorb m j
  rcases h.mul (show m + 1 ∣ (j + 1) * Ch (m + 1) (j + 1) from ⟨_, this⟩) with h2 | h2
  · exact absurd (Nat.le_of_dvd (by omega) h2) (by omega)
  · exact h2
theorem fermat {r : Nat} (h : Pr r) : ∀ a, a ^ r % r = a % r
  | 0 => by rw [Nat.zero_pow (by have := h.1; omega)]
  | a + 1 => by
    have h2 := h.1
    obtain ⟨m, rfl⟩ : ∃ m, r = m + 1 := ⟨r - 1, by omega⟩
    rw [binom, sumN, Ch_self, sumN_head]
    have hd : m + 1 ∣ sumN (fun k => Ch (m + 1) (k + 1) * a ^ (k + 1)) m := dvd_sumN _ fun k hk => Nat.dvd_mul_right_of_dvd (pr_Ch h (by omega) (by omega)) _
    obtain ⟨c, hc⟩ := hd
    rw [hc]
    have e : Ch (m + 1) 0 * a ^ 0 = 1 := by simp [Ch]
    rw [e, Nat.one_mul, show 1 + (m + 1) * c + a ^ (m + 1) = (a ^ (m + 1) + 1) + (m + 1) * c by omega, Nat.add_mul_mod_self_left, Nat.add_mod, fermat h a, ← Nat.add_mod]
theorem fermat1 {r a : Nat} (h : Pr r) (ha : ¬ r ∣ a) : a ^ (r - 1) % r = 1 := by
  have h2 := h.1
  have hf := fermat h a
  have h1 : r ∣ a * (a ^ (r - 1) - 1) := by
    rw [Nat.mul_sub, Nat.mul_one, ← Nat.pow_succ', Nat.succ_eq_add_one, show r - 1 + 1 = r by omega]
    exact Nat.dvd_of_mod_eq_zero (Nat.sub_mod_eq_zero_of_mod_eq hf)
  rcases h.mul h1 with h3 | h3
  · exact absurd h3 ha
  · obtain ⟨c, hc⟩ := h3
    have hp : 0 < a ^ (r - 1) := Nat.pow_pos (by rcases Nat.eq_zero_or_pos a with e | e; · subst e; exact absurd (Nat.dvd_zero r) ha
                                                 · exact e)
    have : a ^ (r - 1) = 1 + r * c := by omega
    rw [this, Nat.add_mul_mod_self_left, Nat.mod_eq_of_lt (by omega)]
theorem pow_gcd {b r : Nat} (hr : 1 < r) : ∀ m n, b ^ m % r = 1 → b ^ n % r = 1 → b ^ Nat.gcd m n % r = 1 := by
  intro m n
  induction m, n using Nat.gcd.induction with
  | H0 n => intro _ h; rw [Nat.gcd_zero_left]; exact h
  | H1 m n hm ih =>
    intro h1 h2
    rw [Nat.gcd_rec]
    refine ih ?_ h1
    have e : b ^ n = (b ^ m) ^ (n / m) * b ^ (n % m) := by rw [← Nat.pow_mul, ← Nat.pow_add, Nat.div_add_mod]
    rw [e, Nat.mul_mod, Nat.pow_mod, h1, Nat.one_pow, Nat.mod_eq_of_lt hr, Nat.one_mul, Nat.mod_mod] at h2
    exact h2
/-- A prime q of N - 1 divides r - 1 for each prime r of N. -/
theorem pock {N q k a r : Nat} (hN : N - 1 = q * k) (hq : Pr q) (h1 : a ^ (N - 1) % N = 1) (h2 : Nat.gcd (a ^ k % N + (N - 1)) N = 1) (hr : Pr r) (hrN : r ∣ N) (hN1 : 1 < N) : q ∣ r - 1 := by
  apply Classical.byContradiction
  intro hc
  have hr2 := hr.1
  have mod_r : ∀ x, x % N % r = x % r := fun x => Nat.mod_mod_of_dvd x hrN
  have hb1 : (a ^ k) ^ q % r = 1 := by
    rw [← Nat.pow_mul, Nat.mul_comm, ← hN, ← mod_r, h1, Nat.mod_eq_of_lt (by omega)]
  have hra : ¬ r ∣ a ^ k := by
    intro hd
    rw [Nat.pow_mod, Nat.mod_eq_zero_of_dvd hd, Nat.zero_pow (by have := hq.1; omega)] at hb1
    simp at hb1
  have hb2 := fermat1 hr hra
  have hg : Nat.gcd q (r - 1) = 1 := hq.cop hc
  have hb3 := pow_gcd (by omega) _ _ hb1 hb2
  rw [hg, Nat.pow_one] at hb3
  have hd : r ∣ a ^ k % N + (N - 1) := by
    obtain ⟨c, hc'⟩ := hrN
    have h3 : a ^ k % N % r = 1 := by rw [mod_r]; exact hb3
    have h4 := Nat.mod_add_div (a ^ k % N) r
    rw [h3] at h4
    have : a ^ k % N + (N - 1) = r * (a ^ k % N / r + c) := by rw [Nat.mul_add, ← hc']; omega
    exact ⟨_, this⟩
  have := Nat.dvd_gcd hd hrN
  rw [h2] at this
  exact absurd (Nat.le_of_dvd (by decide) this) (by omega)
theorem pr_of_big {N F : Nat} (hN : 2 ≤ N) (hF : N < (F + 1) * (F + 1)) (h : ∀ r, Pr r → r ∣ N → F ∣ r - 1) : Pr N := by
  apply Classical.byContradiction
  intro hc
  obtain ⟨r, hr, hrN, hle⟩ := small_pr hN hc
  have h1 := h r hr hrN
  have h2 := hr.1
  have h3 := Nat.le_of_dvd (by omega) h1
  have : (F + 1) * (F + 1) ≤ r * r := Nat.mul_le_mul (by omega) (by omega)
  omega
/-- a^e modulo N, by the bits of e (the lowest first). -/
def pmod (N : Nat) : Nat → Nat → Nat → Nat → Nat
  | 0, _, _, acc => acc
  | f + 1, a, e, acc => if e = 0 then acc else pmod N f (a * a % N) (e / 2) (if e % 2 = 1 then acc * a % N else acc)
theorem pmod_eq (N : Nat) : ∀ f a e acc, e < 2 ^ f → pmod N f a e acc % N = acc * a ^ e % N
  | 0, a, e, acc, h => by
    have : e = 0 := by simp at h; exact h
    subst this; simp [pmod]
  | f + 1, a, e, acc, h => by
    rw [pmod]
    split
    · rename_i e0; subst e0; simp
    · rw [pmod_eq N f _ _ _ (by rw [Nat.pow_succ] at h; omega)]
      have e1 : a ^ e = (a * a) ^ (e / 2) * a ^ (e % 2) := by
        rw [← Nat.pow_two, ← Nat.pow_mul, ← Nat.pow_add, Nat.div_add_mod]
      split
      · rename_i h1
        rw [e1, h1, Nat.pow_one, Nat.mul_mod, Nat.mod_mod, ← Nat.pow_mod, ← Nat.mul_mod, Nat.mul_assoc, Nat.mul_comm a]
      · have h1 : e % 2 = 0 := by omega
        rw [e1, h1, Nat.pow_zero, Nat.mul_one, Nat.mul_mod, ← Nat.pow_mod, ← Nat.mul_mod]
/-- The check of one prime q of N - 1. -/
def pockB (N q k a : Nat) : Bool := decide (N - 1 = q * k) && decide (1 < N) && decide (pmod N 400 a (N - 1) 1 % N = 1) && decide (Nat.gcd (pmod N 400 a k 1 % N + (N - 1)) N = 1) && decide (N - 1 < 2 ^ 400) && decide (k < 2 ^ 400)
theorem pockB_dvd {N q k a : Nat} (h : pockB N q k a = true) (hq : Pr q) {r : Nat} (hr : Pr r) (hrN : r ∣ N) : q ∣ r - 1 := by
  simp only [pockB, Bool.and_eq_true, decide_eq_true_eq] at h
  obtain ⟨⟨⟨⟨⟨h1, h2⟩, h3⟩, h4⟩, h5⟩, h6⟩ := h
  rw [pmod_eq N 400 a _ 1 h5, Nat.one_mul] at h3
  rw [pmod_eq N 400 a _ 1 h6, Nat.one_mul] at h4
  exact pock h1 hq h3 h4 hr hrN h2
theorem pr_one {N q k a : Nat} (h : pockB N q k a = true) (hq : Pr q) (hF : N < (q + 1) * (q + 1)) : Pr N := by
  have h' := h
  simp only [pockB, Bool.and_eq_true, decide_eq_true_eq] at h'
  exact pr_of_big (by omega) hF fun r hr hrN => pockB_dvd h hq hr hrN
theorem pr_two {N q k a q' k' a' : Nat} (h : pockB N q k a = true) (h' : pockB N q' k' a' = true) (hq : Pr q) (hq' : Pr q') (hc : Nat.gcd q q' = 1) (hF : N < (q * q' + 1) * (q * q' + 1)) : Pr N := by
  have g := h
  simp only [pockB, Bool.and_eq_true, decide_eq_true_eq] at g
  exact pr_of_big (by omega) hF fun r hr hrN => Nat.Coprime.mul_dvd_of_dvd_of_dvd hc (pockB_dvd h hq hr hrN) (pockB_dvd h' hq' hr hrN)
/-- Small primes, by trying. -/
def tryD (n : Nat) : Nat → Nat → Bool
  | 0, _ => true
  | f + 1, d => decide (n % d ≠ 0) && tryD n f (d + 1)
theorem tryD_spec {n : Nat} : ∀ f d, tryD n f d = true → ∀ x, d ≤ x → x < d + f → n % x ≠ 0
  | 0, d, _, x, h1, h2 => by omega
  | f + 1, d, h, x, h1, h2 => by
    simp only [tryD, Bool.and_eq_true, decide_eq_true_eq] at h
    by_cases e : x = d
    · subst e; exact h.1
    · exact tryD_spec f (d + 1) h.2 x (by omega) (by omega)
theorem pr_small {n : Nat} (f : Nat) (h2 : 2 ≤ n) (hf : n < (f + 2) * (f + 2)) (h : tryD n f 2 = true) : Pr n := by
  apply Classical.byContradiction
  intro hc
  obtain ⟨r, hr, hrN, hle⟩ := small_pr h2 hc
  have h3 := hr.1
  have h4 : r < f + 2 := by
    apply Classical.byContradiction
    intro h5
    have : (f + 2) * (f + 2) ≤ r * r := Nat.mul_le_mul (by omega) (by omega)
    omega
  exact tryD_spec f 2 h r h3 (by omega) (Nat.mod_eq_zero_of_dvd hrN)
end Eng


namespace Eng
/-! The prime of the field and the order are prime (a chain of Pocklington's criterion). -/
theorem pr_c0 : Pr 211 := pr_small 14 (by decide) (by decide) (by decide +kernel)
theorem pr_c4 : Pr 881 := pr_small 29 (by decide) (by decide) (by decide +kernel)
theorem pr_c5 : Pr 21407 := pr_small 146 (by decide) (by decide) (by decide +kernel)
theorem pr_c6 : Pr 363557 := pr_small 602 (by decide) (by decide) (by decide +kernel)
theorem pr_c8 : Pr 105957871 := pr_two (k := 120270) (a := 2) (k' := 502170) (a' := 2) (by decide +kernel) (by decide +kernel) pr_c4 pr_c0 (by decide +kernel) (by decide +kernel)
theorem pr_c9 : Pr 246608641 := pr_one (k := 11520) (a := 2) (by decide +kernel) pr_c5 (by decide +kernel)
theorem pr_c11 : Pr 532247449 := pr_one (k := 1464) (a := 2) (by decide +kernel) pr_c6 (by decide +kernel)
theorem pr_c15 : Pr 44925942675193 := pr_one (k := 84408) (a := 2) (by decide +kernel) pr_c11 (by decide +kernel)
theorem pr_c18 : Pr 529709925838459440593 := pr_two (k := 2147977960912) (a := 2) (k' := 4999250370352) (a' := 2) (by decide +kernel) (by decide +kernel) pr_c9 pr_c8 (by decide +kernel) (by decide +kernel)
theorem pr_c19 : Pr 35581458644053887931343 := pr_one (k := 792002494) (a := 2) (by decide +kernel) pr_c15 (by decide +kernel)
theorem pr_c22 : Pr 23964610537191310276190549303 := pr_one (k := 673514) (a := 2) (by decide +kernel) pr_c19 (by decide +kernel)
theorem pr_c23 : Pr 862725979338887169942859774909 := pr_one (k := 36) (a := 2) (by decide +kernel) pr_c22 (by decide +kernel)
theorem pr_c24 : Pr 20705423504133292078628634597817 := pr_one (k := 24) (a := 2) (by decide +kernel) pr_c23 (by decide +kernel)
theorem pr_c25 : Pr 413244619895455989650825325680172591660047 := pr_one (k := 19958279038) (a := 2) (by decide +kernel) pr_c24 (by decide +kernel)
theorem pr_c26 : Pr 12397338596863679689524759770405177749801411 := pr_one (k := 30) (a := 2) (by decide +kernel) pr_c25 (by decide +kernel)
theorem pr_c29 : Pr 19173790298027098165721053155794528970226934547887232785722672956982046098136719667167519737147526097 := pr_two (k := 1546605357933657467587294243086068506965106718544748132336) (a := 2) (k' := 36196773673209108854078416512380613964711027274668755761194285045868717602353872) (a' := 2) (by decide +kernel) (by decide +kernel) pr_c26 pr_c18 (by decide +kernel) (by decide +kernel)
theorem pr_P384 : Pr 39402006196394479212279040100143613805079739270465446667948293404245721771496870329047266088258938001861606973112319 := pr_one (k := 2054993070433694) (a := 2) (by decide +kernel) pr_c29 (by decide +kernel)
end Eng


namespace Eng
/-! Inverses and roots modulo a prime. -/
theorem inv_law {p a : Nat} (hp : Pr p) (h3 : 2 < p) (ha : a % p ≠ 0) : a * (a ^ (p - 2) % p) % p = 1 := by
  have h1 := fermat1 hp (a := a) (fun h => ha (Nat.mod_eq_zero_of_dvd h))
  rw [Nat.mul_mod, Nat.mod_mod, ← Nat.mul_mod, ← Nat.pow_succ', Nat.succ_eq_add_one, show p - 2 + 1 = p - 1 by omega]
  exact h1
end Eng


namespace Eng
open Go Go.Proofs
set_option linter.unusedSimpArgs false
set_option linter.unusedVariables false
theorem pN_lit : pN = 39402006196394479212279040100143613805079739270465446667948293404245721771496870329047266088258938001861606973112319 := by
  rw [pN_eq, pL_eq]; decide
theorem pN_pr : Pr pN := by rw [pN_lit]; exact pr_P384
theorem pN_gt : 2 < pN := by rw [pN_lit]; decide
theorem lim6_two : lim6 2 = [2, 0, 0, 0, 0, 0] := by decide
theorem lim6_inj {x y : Nat} (hx : x < 18446744073709551616 ^ 6) (hy : y < 18446744073709551616 ^ 6) (h : lim6 x = lim6 y) : x = y := by
  rw [← v64_lim6 hx, ← v64_lim6 hy, h]
theorem pm2_lt : pN - 2 < 18446744073709551616 ^ 6 := Nat.lt_of_le_of_lt (Nat.sub_le _ _) pN_ltR
theorem S51_p2 : ∃ c, S51 [AG pL, AG [2, 0, 0, 0, 0, 0]] = some ⟨.tup [AG (lim6 (pN - 2)), .int .u64 c], none⟩ := by
  have h := S51_lim pN 2
  rw [show ((pN : Nat) : Int) - ((2 : Nat) : Int) = ((pN - 2 + 2 : Nat) : Int) - (2 : Nat) by have := pN_gt; omega, limZ_back (by decide), pL_lim, lim6_two] at h
  exact ⟨_, h⟩
noncomputable def S35 : List AV → Option Ret := nz (sumOf (fun p : List Int => match p with | a => (U6 a)) (fun p : List Int => match p with | a => [AG a]) (fun p : List Int => match p with | a => ⟨AG (lim6 (v64 a ^ (pN - 2) % pN)), none⟩))
theorem S35_eq (a : List Int) (h0 : U6 a) : S35 [AG a] = some ⟨AG (lim6 (v64 a ^ (pN - 2) % pN)), none⟩ :=
  sumOf_eq (dom := (fun p : List Int => match p with | a => (U6 a))) (enc := (fun p : List Int => match p with | a => [AG a])) (out := (fun p : List Int => match p with | a => ⟨AG (lim6 (v64 a ^ (pN - 2) % pN)), none⟩)) a h0 (fun y _ e => by
    simp only [List.cons.injEq, AV.agg.injEq, ints_injEq, and_true] at e
    first | with_reducible rfl | simp only [e] | rfl)
theorem S35_inv {args : List AV} {r : Ret} (h : sumOf (fun p : List Int => match p with | a => (U6 a)) (fun p : List Int => match p with | a => [AG a]) (fun p : List Int => match p with | a => ⟨AG (lim6 (v64 a ^ (pN - 2) % pN)), none⟩) args = some r) : ∃ (a : List Int), ((U6 a)) ∧ args = [AG a] ∧ r = ⟨AG (lim6 (v64 a ^ (pN - 2) % pN)), none⟩ := by
  obtain ⟨x, h1, h2, h3⟩ := sumOf_inv h
  exact ⟨x, h1, h2.symm, h3⟩

set_option maxRecDepth 100000 in
theorem snd35 : SndG Tryz.prog pG 35 S35 := by
  refine snd_nz (sndG_by (gl := pG) [(51, S51), (61, S61)] [] Tryz.func35 (by kernel_rfl) lite35 nt35 rs35 ⟨(by first | exact snd51 | exact snd51.toG | exact SndE.mono up_C snd51 | exact SndE.mono up_D snd51 | exact SndE.mono up_N snd51), (by first | exact snd61 | exact snd61.toG | exact SndE.mono up_C snd61 | exact SndE.mono up_D snd61 | exact SndE.mono up_N snd61), trivial⟩ trivial (fun hT args r h => ?_))
  obtain ⟨a, hd0, rfl, rfl⟩ := S35_inv h
  clear h
  have hM := hM0
  refine ⟨Nat.le_of_ble_eq_true rfl, fun F => ?_⟩
  unfold L35
  have hl := hd0.1
  have h1 := pL_good.1.1
  have h2 := pD_len
  have h3 := pD_sub
  have n1 : (6 : Nat) ≤ 13 := by decide
  have hs := two_set
  obtain ⟨c, f1⟩ := S51_p2
  have f2 := S61_eq a (lim6 (pN - 2)) pD hd0 (U6_lim _) pD_mod
  rw [pD_take, ← pN_eq, v64_lim6 pm2_lt] at f2
  have l0 : ([2, 0, 0, 0, 0, 0] : List Int).length = 6 := rfl
  have l1 := lim6_len (pN - 2)
  have lo := lim6_len (v64 a ^ (pN - 2) % pN)
  generalize ([2, 0, 0, 0, 0, 0] : List Int) = two at *
  generalize lim6 (v64 a ^ (pN - 2) % pN) = out at *
  generalize lim6 (pN - 2) = e at *
  refine Lwp.seq (Lwp.regI hT ?_)
  simp only [L35r0, go_sem, eq_self, Nat.reduceAdd, Nat.reduceLT, reduceCtorEq, decide_true, ty24, pG]
  refine Lwp.seq (Lwp.regI hT ?_)
  simp only [L35r1, go_sem, eq_self, Nat.reduceAdd, Nat.reduceLT, Nat.reduceLeDiff, Nat.reduceEqDiff, reduceCtorEq, decide_true, ty22, ty24, ty81, pG, fld0, h2, h3, n1, hs, f1, l1]
  refine Lwp.seq (Lwp.regI hT ?_)
  simp only [L35r2, go_sem, eq_self, Nat.reduceAdd, Nat.reduceLT, Nat.reduceEqDiff, reduceCtorEq, decide_true, ty24, ty81, pG, hl, h2, l1, f2, lo, Nat.le_refl]
  refine Lwp.ret (post_val (v := AG out) ?_ ?_)
  · simp only [go_sem, eq_self, Nat.reduceLT, Nat.reduceLeDiff, Nat.reduceEqDiff, reduceCtorEq, ty24, lo]
  · simp only [go_sem, eq_self]

theorem lim6_one : lim6 1 = one6 := by decide
end Eng


namespace Eng
open Go Go.Proofs
set_option linter.unusedSimpArgs false
set_option linter.unusedVariables false
theorem pN_four : pN % 4 = 3 := by rw [pN_lit]
end Eng


namespace Eng
/-! Points of the curve y^2 = x^3 - 3x + b over a field of integers modulo a prime: sums by slopes, sums by one formula. -/
structure FieldN (n : Nat) [NeZero n] (inv : Fin n → Fin n) (b : Fin n) : Prop where
  inv_mul : ∀ a : Fin n, a ≠ 0 → a * inv a = 1
  two : (2 : Fin n) ≠ 0
  one : (1 : Fin n) ≠ 0
  root : ∀ x : Fin n, x * x * x - 3 * x + b ≠ 0
section
variable {n : Nat} [NeZero n] {inv : Fin n → Fin n} {b : Fin n}

theorem FieldN.dom (h : FieldN n inv b) {x y : Fin n} (e : x * y = 0) : x = 0 ∨ y = 0 := by
  by_cases hx : x = 0
  · exact .inl hx
  · have := h.inv_mul x hx
    right; grind
theorem FieldN.mul_ne (h : FieldN n inv b) {x y : Fin n} (hx : x ≠ 0) (hy : y ≠ 0) : x * y ≠ 0 := fun e => (h.dom e).elim hx hy

abbrev Af (n : Nat) := Option (Fin n × Fin n)
def OnA (b : Fin n) : Af n → Prop
  | none => True
  | some (x, y) => y * y = x * x * x - 3 * x + b
/-- The document's sum, by slopes. -/
def addA (inv : Fin n → Fin n) : Af n → Af n → Af n
  | none, q => q
  | some p, none => some p
  | some (x1, y1), some (x2, y2) =>
    if x1 = x2 then
      (if y1 + y2 = 0 then none else
        let s := (3 * (x1 * x1) - 3) * inv (y1 + y1)
        let x := s * s - x1 - x2
        some (x, s * (x1 - x) - y1))
    else
      let s := (y2 - y1) * inv (x2 - x1)
      let x := s * s - x1 - x2
      some (x, s * (x1 - x) - y1)
def negA : Af n → Af n
  | none => none
  | some (x, y) => some (x, -y)

structure P3 (n : Nat) where
  X : Fin n
  Y : Fin n
  Z : Fin n
/-- One formula for all points. -/
def addP (b : Fin n) (p q : P3 n) : P3 n :=
  let t0 := p.X * q.X
  let t1 := p.Y * q.Y
  let t2 := p.Z * q.Z
  let t3 := (p.X + p.Y) * (q.X + q.Y) - (t0 + t1)
  let t4 := (p.Y + p.Z) * (q.Y + q.Z) - (t1 + t2)
  let y3 := (p.X + p.Z) * (q.X + q.Z) - (t0 + t2)
  let x3 := (y3 - b * t2) + ((y3 - b * t2) + (y3 - b * t2))
  let z3 := t1 - x3
  let x4 := t1 + x3
  let t5 := t2 + (t2 + t2)
  let y4 := (b * y3 - t5 - t0) + ((b * y3 - t5 - t0) + (b * y3 - t5 - t0))
  let t6 := (t0 + (t0 + t0)) - t5
  ⟨t3 * x4 - t4 * y4, x4 * z3 + t6 * y4, t4 * z3 + t3 * t6⟩

/-- What three numbers stand for. -/
def Rep (p : P3 n) : Af n → Prop
  | none => p.X = 0 ∧ p.Z = 0 ∧ p.Y ≠ 0
  | some (x, y) => p.Z ≠ 0 ∧ p.X = x * p.Z ∧ p.Y = y * p.Z

theorem FieldN.y_ne (h : FieldN n inv b) {x y : Fin n} (ho : OnA b (some (x, y))) : y ≠ 0 := by
  intro e
  have := h.root x
  simp only [OnA] at ho
  apply this; rw [← ho, e]; grind

theorem addA_on (h : FieldN n inv b) {A B : Af n} (hA : OnA b A) (hB : OnA b B) : OnA b (addA inv A B) := by
  match A, B, hA, hB with
  | none, q, _, hB => simpa only [addA] using hB
  | some p, none, hA, _ => simpa only [addA] using hA
  | some (x1, y1), some (x2, y2), hA, hB =>
    simp only [addA]
    simp only [OnA] at hA hB
    split
    · rename_i e
      split
      · simp only [OnA]
      · rename_i hy
        have hyy : y1 = y2 := by
          have : (y1 - y2) * (y1 + y2) = 0 := by grind
          rcases h.dom this with h1 | h1
          · grind
          · exact absurd h1 hy
        subst hyy e
        have hi := h.inv_mul _ hy
        simp only [OnA]
        generalize inv (y1 + y1) = i at *
        grind
    · rename_i e
      have hx : x2 - x1 ≠ 0 := by grind
      have hi := h.inv_mul _ hx
      simp only [OnA]
      generalize inv (x2 - x1) = i at *
      grind

theorem neg_on (h : FieldN n inv b) {A : Af n} (hA : OnA b A) : OnA b (negA A) := by
  match A, hA with
  | none, _ => simp only [negA, OnA]
  | some (x, y), hA =>
    simp only [OnA, negA] at hA ⊢
    grind

theorem ext3 {a c : P3 n} (h1 : a.X = c.X) (h2 : a.Y = c.Y) (h3 : a.Z = c.Z) : a = c := by
  cases a; cases c; simp_all

def scale (c : Fin n) (p : P3 n) : P3 n := ⟨c * p.X, c * p.Y, c * p.Z⟩
def bas : Af n → P3 n
  | none => ⟨0, 1, 0⟩
  | some (x, y) => ⟨x, y, 1⟩
theorem addP_scale (c d : Fin n) (p q : P3 n) : addP b (scale c p) (scale d q) = scale (c * d * (c * d)) (addP b p q) := by
  apply ext3 <;> simp only [addP, scale] <;> grobner
theorem rep_iff (h : FieldN n inv b) (p : P3 n) (A : Af n) : Rep p A ↔ ∃ c, c ≠ 0 ∧ p = scale c (bas A) := by
  obtain ⟨X, Y, Z⟩ := p
  match A with
  | none =>
    simp only [Rep, bas, scale, P3.mk.injEq]
    constructor
    · rintro ⟨rfl, rfl, h3⟩
      exact ⟨Y, h3, by grobner, by grobner, by grobner⟩
    · rintro ⟨c, hc, rfl, rfl, rfl⟩
      refine ⟨by grobner, by grobner, ?_⟩
      rwa [show c * 1 = c by grobner]
  | some (x, y) =>
    simp only [Rep, bas, scale, P3.mk.injEq]
    constructor
    · rintro ⟨h3, rfl, rfl⟩
      exact ⟨Z, h3, by grobner, by grobner, by grobner⟩
    · rintro ⟨c, hc, rfl, rfl, rfl⟩
      refine ⟨?_, by grobner, by grobner⟩
      rwa [show c * 1 = c by grobner]
theorem addA_none (A : Af n) : addA inv A none = A := by
  match A with
  | none => simp only [addA]
  | some p => simp only [addA]
theorem opp_of (h : FieldN n inv b) {x y1 y2 : Fin n} (h1 : OnA b (some (x, y1))) (h2 : OnA b (some (x, y2))) (hn : y1 + y2 ≠ 0) : y2 = y1 := by
  simp only [OnA] at h1 h2
  have : (y1 - y2) * (y1 + y2) = 0 := by grobner
  rcases h.dom this with h3 | h3
  · grobner
  · exact absurd h3 hn
theorem dbl_ne (h : FieldN n inv b) {y : Fin n} (hy : y ≠ 0) : y + y ≠ 0 := by
  rw [show y + y = 2 * y by grobner]; exact h.mul_ne h.two hy
theorem rep_bas (h : FieldN n inv b) {A B : Af n} (hA : OnA b A) (hB : OnA b B) : Rep (addP b (bas A) (bas B)) (addA inv A B) := by
  have on := addA_on h hA hB
  match A, B, hA, hB with
  | none, none, _, _ =>
    simp only [addA, Rep, bas, addP]
    refine ⟨by grobner, by grobner, fun e => h.one ?_⟩
    grobner
  | none, some (x, y), _, hB =>
    have hy := h.y_ne hB
    have e : (addP b (bas none) (bas (some (x, y)))).Z = y := by simp only [bas, addP]; grobner
    refine ⟨by rw [e]; exact hy, ?_, ?_⟩
    · rw [e]; simp only [bas, addP]; grobner
    · rw [e]; simp only [bas, addP]; grobner
  | some (x, y), none, hA, _ =>
    have hy := h.y_ne hA
    have e : (addP b (bas (some (x, y))) (bas none)).Z = y := by simp only [bas, addP]; grobner
    refine ⟨by rw [e]; exact hy, ?_, ?_⟩
    · rw [e]; simp only [bas, addP]; grobner
    · rw [e]; simp only [bas, addP]; grobner
  | some (x1, y1), some (x2, y2), hA, hB =>
    by_cases e : x1 = x2
    · subst e
      by_cases hy : y1 + y2 = 0
      · have h2 : y2 = -y1 := by grobner
        subst h2
        simp only [addA, if_true, if_pos hy]
        have hy1 := h.y_ne hA
        have hyy := dbl_ne h hy1
        have hi := h.inv_mul _ hyy
        have hd := addA_on h (A := some (x1, y1)) (B := some (x1, y1)) hA hA
        simp only [addA, if_true, if_neg hyy] at hd
        have hny := h.y_ne hd
        simp only [OnA] at hA
        clear hd on hB
        generalize inv (y1 + y1) = i at *
        refine ⟨?_, ?_, ?_⟩
        · simp only [bas, addP]; grobner
        · simp only [bas, addP]; grobner
        · have : (addP b (bas (some (x1, y1))) (bas (some (x1, -y1)))).Y = ((3 * (x1 * x1) - 3) * i * (x1 - ((3 * (x1 * x1) - 3) * i * ((3 * (x1 * x1) - 3) * i) - x1 - x1)) - y1) * ((y1 + y1) * (y1 + y1) * (y1 + y1)) := by
            simp only [bas, addP]; grobner
          rw [this]
          exact h.mul_ne hny (h.mul_ne (h.mul_ne hyy hyy) hyy)
      · have h2 := opp_of h hA hB hy
        subst h2
        have hi := h.inv_mul _ hy
        simp only [addA, if_true, if_neg hy] at on ⊢
        simp only [OnA] at hA
        clear hB on
        have e : (addP b (bas (some (x1, y2))) (bas (some (x1, y2)))).Z = (y2 + y2) * (y2 + y2) * (y2 + y2) := by
          simp only [bas, addP]; grobner
        generalize inv (y2 + y2) = i at *
        refine ⟨?_, ?_, ?_⟩
        · rw [e]; exact h.mul_ne (h.mul_ne hy hy) hy
        · rw [e]; simp only [bas, addP]; grobner
        · rw [e]; simp only [bas, addP]; grobner
    · have hx : x2 - x1 ≠ 0 := fun e' => e (by grobner)
      have hi := h.inv_mul _ hx
      have hm := addA_on h (A := some (x1, y1)) (B := some (x2, -y2)) hA (neg_on h hB)
      simp only [addA, if_neg e] at hm on ⊢
      have hny := h.y_ne hm
      simp only [OnA] at hA hB
      clear hm on
      generalize inv (x2 - x1) = i at *
      have e : (addP b (bas (some (x1, y1))) (bas (some (x2, y2)))).Z = ((-y2 - y1) * i * (x1 - ((-y2 - y1) * i * ((-y2 - y1) * i) - x1 - x2)) - y1) * ((x2 - x1) * (x2 - x1) * (x2 - x1)) := by
        simp only [bas, addP]; grobner
      refine ⟨?_, ?_, ?_⟩
      · rw [e]; exact h.mul_ne hny (h.mul_ne (h.mul_ne hx hx) hx)
      · rw [e]; simp only [bas, addP]; grobner
      · rw [e]; simp only [bas, addP]; grobner
end
end Eng


namespace Eng
/-! Identities of polynomials, seen at one great place (Kronecker), for what is reckoned modulo three squares. -/
abbrev Mono := Nat × Nat × Nat × Nat
abbrev Poly := List (Mono × Int)
def Mono.mul (a b : Mono) : Mono := (a.1 + b.1, a.2.1 + b.2.1, a.2.2.1 + b.2.2.1, a.2.2.2 + b.2.2.2)
def pev (m : Mono → Int) : Poly → Int
  | [] => 0
  | t :: l => t.2 * m t.1 + pev m l
theorem pev_app (m : Mono → Int) : ∀ p q, pev m (p ++ q) = pev m p + pev m q
  | [], q => by simp [pev]
  | t :: l, q => by simp only [List.cons_append, pev, pev_app m l q]; omega
def pneg (p : Poly) : Poly := p.map fun t => (t.1, -t.2)
theorem pev_neg (m : Mono → Int) : ∀ p, pev m (pneg p) = - pev m p
  | [] => by simp [pev, pneg]
  | t :: l => by
    have := pev_neg m l
    simp only [pneg, List.map_cons, pev] at this ⊢
    rw [this, Int.neg_mul]; omega
def pscale (t : Mono × Int) (q : Poly) : Poly := q.map fun s => (Mono.mul t.1 s.1, t.2 * s.2)
def pmul : Poly → Poly → Poly
  | [], _ => []
  | t :: l, q => pscale t q ++ pmul l q
theorem pev_scale {m : Mono → Int} (hm : ∀ a b, m (Mono.mul a b) = m a * m b) (t : Mono × Int) : ∀ q, pev m (pscale t q) = t.2 * m t.1 * pev m q
  | [] => by simp [pev, pscale]
  | s :: l => by
    have := pev_scale hm t l
    simp only [pscale, List.map_cons, pev] at this ⊢
    rw [this, hm]; grind
theorem pev_mul {m : Mono → Int} (hm : ∀ a b, m (Mono.mul a b) = m a * m b) : ∀ p q, pev m (pmul p q) = pev m p * pev m q
  | [], q => by simp [pev, pmul]
  | t :: l, q => by
    simp only [pmul, pev_app, pev_scale hm, pev_mul hm l q, pev]
    grind
def nrm1 : Poly → Nat
  | [] => 0
  | t :: l => t.2.natAbs + nrm1 l
theorem nrm_app : ∀ p q, nrm1 (p ++ q) = nrm1 p + nrm1 q
  | [], q => by simp [nrm1]
  | t :: l, q => by simp only [List.cons_append, nrm1, nrm_app l q]; omega
theorem nrm_neg : ∀ p, nrm1 (pneg p) = nrm1 p
  | [] => rfl
  | t :: l => by
    have := nrm_neg l
    simp only [pneg, List.map_cons, nrm1] at this ⊢
    rw [this, Int.natAbs_neg]
theorem nrm_scale (t : Mono × Int) : ∀ q, nrm1 (pscale t q) = t.2.natAbs * nrm1 q
  | [] => by simp [nrm1, pscale]
  | s :: l => by
    have := nrm_scale t l
    simp only [pscale, List.map_cons, nrm1] at this ⊢
    rw [this, Int.natAbs_mul, Nat.mul_add]
theorem nrm_mul : ∀ p q, nrm1 (pmul p q) = nrm1 p * nrm1 q
  | [], q => by simp [nrm1, pmul]
  | t :: l, q => by simp only [pmul, nrm_app, nrm_scale, nrm_mul l q, nrm1, Nat.add_mul]

/-- Sums over 0 .. N-1. -/
def sumR : (Nat → Int) → Nat → Int
  | _, 0 => 0
  | f, n + 1 => f 0 + sumR (fun k => f (k + 1)) n
theorem sumR_add : ∀ (n : Nat) (f g : Nat → Int), sumR (fun k => f k + g k) n = sumR f n + sumR g n
  | 0, _, _ => rfl
  | n + 1, f, g => by simp only [sumR, sumR_add n]; omega
theorem sumR_zero : ∀ (n : Nat) (f : Nat → Int), (∀ k, k < n → f k = 0) → sumR f n = 0
  | 0, _, _ => rfl
  | n + 1, f, h => by simp only [sumR]; rw [h 0 (by omega), sumR_zero n _ (fun k hk => h (k + 1) (by omega))]; rfl
theorem sumR_one : ∀ (n i : Nat) (c : Int) (w : Nat → Int), i < n → sumR (fun k => (if i = k then c else 0) * w k) n = c * w i
  | 0, i, _, _, h => by omega
  | n + 1, 0, c, w, _ => by
    simp only [sumR]
    rw [sumR_zero n _ (fun k _ => by simp)]; simp
  | n + 1, i + 1, c, w, h => by
    simp only [sumR]
    have := sumR_one n i c (fun k => w (k + 1)) (by omega)
    simp only [Nat.succ.injEq] at this ⊢
    rw [this]; simp
def coll (key : Mono → Nat) : Poly → Nat → Int
  | [], _ => 0
  | t :: l, k => (if key t.1 = k then t.2 else 0) + coll key l k
theorem coll_le (key : Mono → Nat) (k : Nat) : ∀ p, (coll key p k).natAbs ≤ nrm1 p
  | [] => by simp [coll]
  | t :: l => by
    have := coll_le key k l
    simp only [coll, nrm1]
    split <;> omega
theorem pev_sum (key : Mono → Nat) (w : Nat → Int) (N : Nat) : ∀ p : Poly, (∀ t ∈ p, key t.1 < N) → pev (fun e => w (key e)) p = sumR (fun k => coll key p k * w k) N
  | [], _ => by simp only [pev, coll]; rw [sumR_zero]; intro k _; simp
  | t :: l, h => by
    simp only [pev, coll]
    rw [pev_sum key w N l (fun s hs => h s (by simp [hs])), ← sumR_one N (key t.1) t.2 w (h t (by simp)), ← sumR_add]
    congr 1; funext k; rw [Int.add_mul]
theorem kron (B : Nat) : ∀ (N : Nat) (c : Nat → Int), (∀ k, (c k).natAbs < B) → sumR (fun k => c k * (B : Int) ^ k) N = 0 → ∀ k, k < N → c k = 0
  | 0, _, _, _, k, hk => by omega
  | N + 1, c, hc, h, k, hk => by
    have hB : 0 < B := by have := hc 0; omega
    have e1 : sumR (fun k => c (k + 1) * (B : Int) ^ (k + 1)) N = (B : Int) * sumR (fun k => c (k + 1) * (B : Int) ^ k) N := by
      have : ∀ (n : Nat) (g : Nat → Int), sumR (fun k => g k * (B : Int)) n = (B : Int) * sumR g n := by
        intro n
        induction n with
        | zero => intro g; simp [sumR]
        | succ n ih => intro g; simp only [sumR]; rw [ih (fun k => g (k + 1))]; grind
      rw [← this]
      congr 1; funext k; rw [Int.pow_succ]; grind
    simp only [sumR, Int.pow_zero, Int.mul_one] at h
    rw [e1] at h
    have h0 : c 0 = 0 := by
      have hd : (B : Int) ∣ c 0 := ⟨- sumR (fun k => c (k + 1) * (B : Int) ^ k) N, by grind⟩
      have h1 := hc 0
      obtain ⟨q, hq⟩ := hd
      by_cases hq0 : q = 0
      · rw [hq, hq0]; simp
      · exfalso
        have : (c 0).natAbs = B * q.natAbs := by rw [hq, Int.natAbs_mul]; simp
        have h2 : 1 ≤ q.natAbs := by omega
        have := Nat.mul_le_mul_left B h2
        omega
    match k with
    | 0 => exact h0
    | k + 1 =>
      refine kron B N (fun k => c (k + 1)) (fun k => hc (k + 1)) ?_ k (by omega)
      rw [h0, Int.zero_add] at h
      rcases Int.mul_eq_zero.1 h with h2 | h2
      · omega
      · exact h2

/-! The places: 10, 13 and 10 powers of x1, x2, x3. -/
def key (e : Mono) : Nat := e.1 + 10 * (e.2.1 + 13 * (e.2.2.1 + 10 * e.2.2.2))
theorem key_mul (a b : Mono) : key (Mono.mul a b) = key a + key b := by simp only [key, Mono.mul]; omega
def mK (B : Nat) (e : Mono) : Int := (B : Int) ^ key e
theorem mK_mul (B : Nat) (a b : Mono) : mK B (Mono.mul a b) = mK B a * mK B b := by simp only [mK, key_mul, Int.pow_add]
def mX (x1 x2 x3 b : Int) (e : Mono) : Int := x1 ^ e.1 * x2 ^ e.2.1 * x3 ^ e.2.2.1 * b ^ e.2.2.2
theorem mX_mul (x1 x2 x3 b : Int) (a c : Mono) : mX x1 x2 x3 b (Mono.mul a c) = mX x1 x2 x3 b a * mX x1 x2 x3 b c := by
  simp only [mX, Mono.mul, Int.pow_add]; grind
def Fits (e : Mono) : Prop := e.1 < 10 ∧ e.2.1 < 13 ∧ e.2.2.1 < 10
theorem mX_key (x1 x2 x3 b : Int) (e : Mono) (h : Fits e) : mX x1 x2 x3 b e = (fun k : Nat => x1 ^ (k % 10) * x2 ^ (k / 10 % 13) * x3 ^ (k / 10 / 13 % 10) * b ^ (k / 10 / 13 / 10)) (key e) := by
  obtain ⟨h1, h2, h3⟩ := h
  simp only [mX, key]
  have a1 : (e.1 + 10 * (e.2.1 + 13 * (e.2.2.1 + 10 * e.2.2.2))) % 10 = e.1 := by omega
  have a2 : (e.1 + 10 * (e.2.1 + 13 * (e.2.2.1 + 10 * e.2.2.2))) / 10 = e.2.1 + 13 * (e.2.2.1 + 10 * e.2.2.2) := by omega
  have a3 : (e.2.1 + 13 * (e.2.2.1 + 10 * e.2.2.2)) % 13 = e.2.1 := by omega
  have a4 : (e.2.1 + 13 * (e.2.2.1 + 10 * e.2.2.2)) / 13 = e.2.2.1 + 10 * e.2.2.2 := by omega
  have a5 : (e.2.2.1 + 10 * e.2.2.2) % 10 = e.2.2.1 := by omega
  have a6 : (e.2.2.1 + 10 * e.2.2.2) / 10 = e.2.2.2 := by omega
  rw [a1, a2, a3, a4, a5, a6]
theorem keys_bounded (key : Mono → Nat) : ∀ p : Poly, ∃ N, ∀ t ∈ p, key t.1 < N
  | [] => ⟨0, by simp⟩
  | t :: l => by
    obtain ⟨N, h⟩ := keys_bounded key l
    refine ⟨N + key t.1 + 1, ?_⟩
    intro s hs
    rcases List.mem_cons.1 hs with e | e
    · subst e; omega
    · have := h s e; omega
theorem pev_congr {m m' : Mono → Int} : ∀ p : Poly, (∀ t ∈ p, m t.1 = m' t.1) → pev m p = pev m' p
  | [], _ => rfl
  | t :: l, h => by simp only [pev]; rw [h t (by simp), pev_congr l (fun s hs => h s (by simp [hs]))]
/-- What is 0 at the great place is 0 at all places. -/
theorem kron_zero {B : Nat} {p : Poly} (hn : nrm1 p < B) (hf : ∀ t ∈ p, Fits t.1) (h0 : pev (mK B) p = 0) (x1 x2 x3 b : Int) : pev (mX x1 x2 x3 b) p = 0 := by
  obtain ⟨N, hN⟩ := keys_bounded key p
  have h1 : pev (mK B) p = sumR (fun k => coll key p k * (B : Int) ^ k) N := pev_sum key (fun k => (B : Int) ^ k) N p hN
  rw [h0] at h1
  have h2 := kron B N (coll key p) (fun k => Nat.lt_of_le_of_lt (coll_le key k p) hn) h1.symm
  rw [pev_congr (m' := fun e => (fun k : Nat => x1 ^ (k % 10) * x2 ^ (k / 10 % 13) * x3 ^ (k / 10 / 13 % 10) * b ^ (k / 10 / 13 / 10)) (key e)) p (fun t ht => mX_key x1 x2 x3 b t.1 (hf t ht))]
  rw [pev_sum key (fun k : Nat => x1 ^ (k % 10) * x2 ^ (k / 10 % 13) * x3 ^ (k / 10 / 13 % 10) * b ^ (k / 10 / 13 / 10)) N p hN]
  exact sumR_zero N _ fun k hk => by rw [h2 k hk]; simp

structure Ops (α : Type) where
  add : α → α → α
  sub : α → α → α
  mul : α → α → α
structure Pres {α β : Type} (o : Ops α) (o' : Ops β) (R : α → β → Prop) : Prop where
  add : ∀ a b c d, R a b → R c d → R (o.add a c) (o'.add b d)
  sub : ∀ a b c d, R a b → R c d → R (o.sub a c) (o'.sub b d)
  mul : ∀ a b c d, R a b → R c d → R (o.mul a c) (o'.mul b d)
/-- Pairs a + c y, with y y as 'sc' says. -/
def QOps {α : Type} (o : Ops α) (sc : α → α) : Ops (α × α) where
  add a c := (o.add a.1 c.1, o.add a.2 c.2)
  sub a c := (o.sub a.1 c.1, o.sub a.2 c.2)
  mul a c := (o.add (o.mul a.1 c.1) (sc (o.mul a.2 c.2)), o.add (o.mul a.1 c.2) (o.mul a.2 c.1))
def RQ {α β : Type} (R : α → β → Prop) (a : α × α) (b : β × β) : Prop := R a.1 b.1 ∧ R a.2 b.2
theorem Pres.q {α β : Type} {o : Ops α} {o' : Ops β} {R : α → β → Prop} (h : Pres o o' R) {sc : α → α} {sc' : β → β} (hs : ∀ a b, R a b → R (sc a) (sc' b)) : Pres (QOps o sc) (QOps o' sc') (RQ R) where
  add _ _ _ _ h1 h2 := ⟨h.add _ _ _ _ h1.1 h2.1, h.add _ _ _ _ h1.2 h2.2⟩
  sub _ _ _ _ h1 h2 := ⟨h.sub _ _ _ _ h1.1 h2.1, h.sub _ _ _ _ h1.2 h2.2⟩
  mul _ _ _ _ h1 h2 := ⟨h.add _ _ _ _ (h.mul _ _ _ _ h1.1 h2.1) (hs _ _ (h.mul _ _ _ _ h1.2 h2.2)), h.add _ _ _ _ (h.mul _ _ _ _ h1.1 h2.2) (h.mul _ _ _ _ h1.2 h2.1)⟩
section
variable {n : Nat} [NeZero n]
def fOps : Ops (Fin n) := ⟨fun a c => a + c, fun a c => a - c, fun a c => a * c⟩
def RY {α : Type} (R : α → Fin n → Prop) (y : Fin n) (a : α × α) (v : Fin n) : Prop := ∃ u w, R a.1 u ∧ R a.2 w ∧ v = u + w * y
theorem Pres.y {α : Type} {o : Ops α} {R : α → Fin n → Prop} (h : Pres o fOps R) {sc : α → α} {f y : Fin n} (hs : ∀ a u, R a u → R (sc a) (f * u)) (hy : y * y = f) : Pres (QOps o sc) fOps (RY R y) where
  add := by
    rintro a b c d ⟨u, w, h1, h2, rfl⟩ ⟨u', w', h3, h4, rfl⟩
    exact ⟨_, _, h.add _ _ _ _ h1 h3, h.add _ _ _ _ h2 h4, by simp only [fOps]; grobner⟩
  sub := by
    rintro a b c d ⟨u, w, h1, h2, rfl⟩ ⟨u', w', h3, h4, rfl⟩
    exact ⟨_, _, h.sub _ _ _ _ h1 h3, h.sub _ _ _ _ h2 h4, by simp only [fOps]; grobner⟩
  mul := by
    rintro a b c d ⟨u, w, h1, h2, rfl⟩ ⟨u', w', h3, h4, rfl⟩
    exact ⟨_, _, h.add _ _ _ _ (h.mul _ _ _ _ h1 h3) (hs _ _ (h.mul _ _ _ _ h2 h4)), h.add _ _ _ _ (h.mul _ _ _ _ h1 h4) (h.mul _ _ _ _ h2 h3), by simp only [fOps]; grobner⟩
end
abbrev Q3 (α : Type) := ((α × α) × (α × α)) × ((α × α) × (α × α))
def sc1 {α : Type} (o : Ops α) (f : α) (a : α) : α := o.mul f a
def sc2 {α : Type} (o : Ops α) (f : α) (a : α × α) : α × α := (o.mul f a.1, o.mul f a.2)
def sc3 {α : Type} (o : Ops α) (f : α) (a : (α × α) × (α × α)) : (α × α) × (α × α) := (sc2 o f a.1, sc2 o f a.2)
def tOps {α : Type} (o : Ops α) (f1 f2 f3 : α) : Ops (Q3 α) := QOps (QOps (QOps o (sc1 o f1)) (sc2 o f2)) (sc3 o f3)
theorem Pres.t {α β : Type} {o : Ops α} {o' : Ops β} {R : α → β → Prop} (h : Pres o o' R) {f1 f2 f3 : α} {g1 g2 g3 : β} (h1 : R f1 g1) (h2 : R f2 g2) (h3 : R f3 g3) : Pres (tOps o f1 f2 f3) (tOps o' g1 g2 g3) (RQ (RQ (RQ R))) := by
  refine ((h.q ?_).q ?_).q ?_
  · intro a b hr; exact h.mul _ _ _ _ h1 hr
  · intro a b hr; exact ⟨h.mul _ _ _ _ h2 hr.1, h.mul _ _ _ _ h2 hr.2⟩
  · intro a b hr; exact ⟨⟨h.mul _ _ _ _ h3 hr.1.1, h.mul _ _ _ _ h3 hr.1.2⟩, ⟨h.mul _ _ _ _ h3 hr.2.1, h.mul _ _ _ _ h3 hr.2.2⟩⟩
theorem Pres.t3 {n : Nat} [NeZero n] {α : Type} {o : Ops α} {R : α → Fin n → Prop} (h : Pres o fOps R) {f1 f2 f3 : α} {y1 y2 y3 : Fin n} (h1 : R f1 (y1 * y1)) (h2 : R f2 (y2 * y2)) (h3 : R f3 (y3 * y3)) : Pres (tOps o f1 f2 f3) fOps (RY (RY (RY R y1) y2) y3) := by
  refine ((h.y (f := y1 * y1) ?_ rfl).y (f := y2 * y2) ?_ rfl).y (f := y3 * y3) ?_ rfl
  · intro a u hr; exact h.mul _ _ _ _ h1 hr
  · rintro a u ⟨v, w, hv, hw, rfl⟩
    exact ⟨_, _, h.mul _ _ _ _ h2 hv, h.mul _ _ _ _ h2 hw, by simp only [fOps]; grobner⟩
  · rintro a u ⟨v, w, ⟨v1, v2, hv1, hv2, rfl⟩, ⟨w1, w2, hw1, hw2, rfl⟩, rfl⟩
    exact ⟨_, _, ⟨_, _, h.mul _ _ _ _ h3 hv1, h.mul _ _ _ _ h3 hv2, rfl⟩, ⟨_, _, h.mul _ _ _ _ h3 hw1, h.mul _ _ _ _ h3 hw2, rfl⟩, by simp only [fOps]; grobner⟩

structure G3 (α : Type) where
  X : α
  Y : α
  Z : α
/-- The one formula, over whatever is reckoned. -/
def addG {α : Type} (o : Ops α) (b : α) (p q : G3 α) : G3 α :=
  let t0 := o.mul p.X q.X
  let t1 := o.mul p.Y q.Y
  let t2 := o.mul p.Z q.Z
  let t3 := o.add (o.mul p.X q.Y) (o.mul p.Y q.X)
  let t4 := o.add (o.mul p.Y q.Z) (o.mul p.Z q.Y)
  let y3 := o.add (o.mul p.X q.Z) (o.mul p.Z q.X)
  let u := o.sub y3 (o.mul b t2)
  let x3 := o.add u (o.add u u)
  let z3 := o.sub t1 x3
  let x4 := o.add t1 x3
  let t5 := o.add t2 (o.add t2 t2)
  let w := o.sub (o.sub (o.mul b y3) t5) t0
  let y4 := o.add w (o.add w w)
  let t6 := o.sub (o.add t0 (o.add t0 t0)) t5
  ⟨o.sub (o.mul t3 x4) (o.mul t4 y4), o.add (o.mul x4 z3) (o.mul t6 y4), o.add (o.mul t4 z3) (o.mul t3 t6)⟩
structure RG {α β : Type} (R : α → β → Prop) (p : G3 α) (q : G3 β) : Prop where
  X : R p.X q.X
  Y : R p.Y q.Y
  Z : R p.Z q.Z
theorem addG_rel {α β : Type} {o : Ops α} {o' : Ops β} {R : α → β → Prop} (h : Pres o o' R) {b : α} {b' : β} (hb : R b b') {p q : G3 α} {p' q' : G3 β} (hp : RG R p p') (hq : RG R q q') : RG R (addG o b p q) (addG o' b' p' q') := by
  obtain ⟨p1, p2, p3⟩ := hp
  obtain ⟨q1, q2, q3⟩ := hq
  have t0 := h.mul _ _ _ _ p1 q1
  have t1 := h.mul _ _ _ _ p2 q2
  have t2 := h.mul _ _ _ _ p3 q3
  have t3 := h.add _ _ _ _ (h.mul _ _ _ _ p1 q2) (h.mul _ _ _ _ p2 q1)
  have t4 := h.add _ _ _ _ (h.mul _ _ _ _ p2 q3) (h.mul _ _ _ _ p3 q2)
  have y3 := h.add _ _ _ _ (h.mul _ _ _ _ p1 q3) (h.mul _ _ _ _ p3 q1)
  have u := h.sub _ _ _ _ y3 (h.mul _ _ _ _ hb t2)
  have x3 := h.add _ _ _ _ u (h.add _ _ _ _ u u)
  have z3 := h.sub _ _ _ _ t1 x3
  have x4 := h.add _ _ _ _ t1 x3
  have t5 := h.add _ _ _ _ t2 (h.add _ _ _ _ t2 t2)
  have w := h.sub _ _ _ _ (h.sub _ _ _ _ (h.mul _ _ _ _ hb y3) t5) t0
  have y4 := h.add _ _ _ _ w (h.add _ _ _ _ w w)
  have t6 := h.sub _ _ _ _ (h.add _ _ _ _ t0 (h.add _ _ _ _ t0 t0)) t5
  exact ⟨h.sub _ _ _ _ (h.mul _ _ _ _ t3 x4) (h.mul _ _ _ _ t4 y4), h.add _ _ _ _ (h.mul _ _ _ _ x4 z3) (h.mul _ _ _ _ t6 y4), h.add _ _ _ _ (h.mul _ _ _ _ t4 z3) (h.mul _ _ _ _ t3 t6)⟩
/-- Both ways of three sums, across. -/
def minors {α : Type} (o : Ops α) (b : α) (p q r : G3 α) : G3 α :=
  let m := addG o b (addG o b p q) r
  let k := addG o b p (addG o b q r)
  ⟨o.sub (o.mul m.X k.Z) (o.mul m.Z k.X), o.sub (o.mul m.Y k.Z) (o.mul m.Z k.Y), o.sub (o.mul m.X k.Y) (o.mul m.Y k.X)⟩
theorem minors_rel {α β : Type} {o : Ops α} {o' : Ops β} {R : α → β → Prop} (h : Pres o o' R) {b : α} {b' : β} (hb : R b b') {p q r : G3 α} {p' q' r' : G3 β} (hp : RG R p p') (hq : RG R q q') (hr : RG R r r') : RG R (minors o b p q r) (minors o' b' p' q' r') := by
  have m := addG_rel h hb (addG_rel h hb hp hq) hr
  have k := addG_rel h hb hp (addG_rel h hb hq hr)
  exact ⟨h.sub _ _ _ _ (h.mul _ _ _ _ m.X k.Z) (h.mul _ _ _ _ m.Z k.X), h.sub _ _ _ _ (h.mul _ _ _ _ m.Y k.Z) (h.mul _ _ _ _ m.Z k.Y), h.sub _ _ _ _ (h.mul _ _ _ _ m.X k.Y) (h.mul _ _ _ _ m.Y k.X)⟩

/-! The four ways of reckoning. -/
def pOps : Ops Poly := ⟨fun p q => p ++ q, fun p q => p ++ pneg q, pmul⟩
def iOps : Ops Int := ⟨fun a c => a + c, fun a c => a - c, fun a c => a * c⟩
structure Bd where
  n : Nat
  d1 : Nat
  d2 : Nat
  d3 : Nat
def bz : Bd := ⟨0, 0, 0, 0⟩
def bAdd (a c : Bd) : Bd := if a.n = 0 then c else if c.n = 0 then a else ⟨a.n + c.n, max a.d1 c.d1, max a.d2 c.d2, max a.d3 c.d3⟩
def bMul (a c : Bd) : Bd := if a.n = 0 then bz else if c.n = 0 then bz else ⟨a.n * c.n, a.d1 + c.d1, a.d2 + c.d2, a.d3 + c.d3⟩
def bOps : Ops Bd := ⟨bAdd, bAdd, bMul⟩
def RK (B : Nat) (p : Poly) (z : Int) : Prop := pev (mK B) p = z
def RB (p : Poly) (a : Bd) : Prop := nrm1 p ≤ a.n ∧ (a.n = 0 → p = []) ∧ ∀ t ∈ p, t.1.1 ≤ a.d1 ∧ t.1.2.1 ≤ a.d2 ∧ t.1.2.2.1 ≤ a.d3
theorem presK (B : Nat) : Pres pOps iOps (RK B) where
  add a b c d h1 h2 := by simp only [RK, pOps, iOps] at *; rw [pev_app, h1, h2]
  sub a b c d h1 h2 := by simp only [RK, pOps, iOps] at *; rw [pev_app, pev_neg, h1, h2]; omega
  mul a b c d h1 h2 := by simp only [RK, pOps, iOps] at *; rw [pev_mul (mK_mul B), h1, h2]
theorem RB.add {p q : Poly} {a c : Bd} (h1 : RB p a) (h2 : RB q c) : RB (p ++ q) (bAdd a c) := by
  obtain ⟨n1, z1, d1⟩ := h1
  obtain ⟨n2, z2, d2⟩ := h2
  unfold bAdd
  split
  · rename_i e; rw [z1 e, List.nil_append]; exact ⟨n2, z2, d2⟩
  · split
    · rename_i e; rw [z2 e, List.append_nil]; exact ⟨n1, z1, d1⟩
    · refine ⟨by rw [nrm_app]; simp only; omega, fun e => by simp only at e; omega, fun t ht => ?_⟩
      simp only
      rcases List.mem_append.1 ht with h | h
      · have := d1 t h; omega
      · have := d2 t h; omega
theorem RB.neg {p : Poly} {a : Bd} (h : RB p a) : RB (pneg p) a := by
  obtain ⟨n1, z1, d1⟩ := h
  refine ⟨by rw [nrm_neg]; exact n1, fun e => by rw [z1 e]; rfl, fun t ht => ?_⟩
  obtain ⟨s, hs, rfl⟩ := List.mem_map.1 ht
  exact d1 s hs
theorem mem_pmul : ∀ {p q : Poly} {t : Mono × Int}, t ∈ pmul p q → ∃ s ∈ p, ∃ r ∈ q, t.1 = Mono.mul s.1 r.1
  | [], _, _, h => by simp [pmul] at h
  | s :: l, q, t, h => by
    simp only [pmul, List.mem_append, pscale, List.mem_map] at h
    rcases h with ⟨r, hr, rfl⟩ | h
    · exact ⟨s, by simp, r, hr, rfl⟩
    · obtain ⟨s', hs, r, hr, e⟩ := mem_pmul h
      exact ⟨s', by simp [hs], r, hr, e⟩
theorem pmul_nil : ∀ p, pmul p [] = []
  | [] => rfl
  | t :: l => by simp [pmul, pscale, pmul_nil l]
theorem RB.mul {p q : Poly} {a c : Bd} (h1 : RB p a) (h2 : RB q c) : RB (pmul p q) (bMul a c) := by
  obtain ⟨n1, z1, d1⟩ := h1
  obtain ⟨n2, z2, d2⟩ := h2
  unfold bMul
  split
  · rename_i e; rw [z1 e]; exact ⟨Nat.le_refl _, fun _ => rfl, fun t ht => by cases ht⟩
  · split
    · rename_i e; rw [z2 e, pmul_nil]; exact ⟨Nat.le_refl _, fun _ => rfl, fun t ht => by cases ht⟩
    · rename_i e1 e2
      refine ⟨by rw [nrm_mul]; exact Nat.mul_le_mul n1 n2, fun e => ?_, fun t ht => ?_⟩
      · rcases Nat.mul_eq_zero.1 e with h | h
        · exact absurd h e1
        · exact absurd h e2
      · obtain ⟨s, hs, r, hr, e⟩ := mem_pmul ht
        have a1 := d1 s hs
        have a2 := d2 r hr
        rw [e]; simp only [Mono.mul]; omega
theorem presB : Pres pOps bOps RB where
  add _ _ _ _ h1 h2 := h1.add h2
  sub _ _ _ _ h1 h2 := h1.add h2.neg
  mul _ _ _ _ h1 h2 := h1.mul h2
section
variable {n : Nat} [NeZero n]
def cst (z : Int) : Fin n := ⟨(z % (n : Int)).toNat, by
  have h : 0 < n := Nat.pos_of_ne_zero (NeZero.ne n)
  have := Int.emod_lt_of_pos z (show (0 : Int) < n by omega)
  have := Int.emod_nonneg z (show (n : Int) ≠ 0 by omega)
  omega⟩
theorem cst_val (x : Fin n) : cst (x.val : Int) = x := by
  apply Fin.ext
  simp only [cst]
  rw [← Int.natCast_emod, Int.toNat_natCast, Nat.mod_eq_of_lt x.isLt]
theorem cst_int (z : Int) : (((cst z : Fin n)).val : Int) = z % n := by
  have h : 0 < n := Nat.pos_of_ne_zero (NeZero.ne n)
  have := Int.emod_nonneg z (show (n : Int) ≠ 0 by omega)
  simp only [cst]; omega
theorem cst_ext {x y : Fin n} (h : (x.val : Int) % n = (y.val : Int) % n) : x = y := by
  rw [← cst_val x, ← cst_val y]; unfold cst; simp only [h]
theorem cst_add (a c : Int) : (cst (a + c) : Fin n) = cst a + cst c := by
  apply cst_ext
  rw [cst_int, Int.emod_emod, Fin.val_add, Int.natCast_emod, Int.emod_emod, Int.natCast_add, cst_int, cst_int, ← Int.add_emod]
theorem cst_mul (a c : Int) : (cst (a * c) : Fin n) = cst a * cst c := by
  apply cst_ext
  rw [cst_int, Int.emod_emod, Fin.val_mul, Int.natCast_emod, Int.emod_emod, Int.natCast_mul, cst_int, cst_int, ← Int.mul_emod]
theorem cst_zero : (cst 0 : Fin n) = 0 := by
  apply Fin.ext
  simp [cst]
theorem cst_sub (a c : Int) : (cst (a - c) : Fin n) = cst a - cst c := by
  have := cst_add (n := n) (a - c) c
  rw [Int.sub_add_cancel] at this
  grobner
def RF (x1 x2 x3 b : Fin n) (p : Poly) (v : Fin n) : Prop := cst (pev (mX x1.val x2.val x3.val b.val) p) = v
theorem presF (x1 x2 x3 b : Fin n) : Pres pOps fOps (RF x1 x2 x3 b) where
  add p u q v h1 h2 := by simp only [RF, pOps, fOps] at *; rw [pev_app, cst_add, h1, h2]
  sub p u q v h1 h2 := by simp only [RF, pOps, fOps] at *; rw [pev_app, pev_neg, ← Int.sub_eq_add_neg, cst_sub, h1, h2]
  mul p u q v h1 h2 := by simp only [RF, pOps, fOps] at *; rw [pev_mul (mX_mul _ _ _ _), cst_mul, h1, h2]
end
end Eng


namespace Eng
set_option maxRecDepth 100000
def emb {α : Type} (z x : α) : Q3 α := (((x, z), (z, z)), ((z, z), (z, z)))
def ey1 {α : Type} (z x : α) : Q3 α := (((z, x), (z, z)), ((z, z), (z, z)))
def ey2 {α : Type} (z x : α) : Q3 α := (((z, z), (x, z)), ((z, z), (z, z)))
def ey3 {α : Type} (z x : α) : Q3 α := (((z, z), (z, z)), ((x, z), (z, z)))
/-- What both ways of three points give, across. -/
def prog3 {α : Type} (o : Ops α) (z e x1 x2 x3 b f1 f2 f3 : α) : G3 (Q3 α) :=
  minors (tOps o f1 f2 f3) (emb z b) ⟨emb z x1, ey1 z e, emb z e⟩ ⟨emb z x2, ey2 z e, emb z e⟩ ⟨emb z x3, ey3 z e, emb z e⟩
def all8 {α : Type} (p : α → Bool) (a : Q3 α) : Bool := p a.1.1.1 && p a.1.1.2 && p a.1.2.1 && p a.1.2.2 && p a.2.1.1 && p a.2.1.2 && p a.2.2.1 && p a.2.2.2
def allG {α : Type} (p : α → Bool) (g : G3 (Q3 α)) : Bool := all8 p g.X && all8 p g.Y && all8 p g.Z
def kB : Nat := 17592186044416
def kI : Int := 17592186044416
def x1I : Int := kI
def x2I : Int := kI ^ 10
def x3I : Int := kI ^ 130
def bI : Int := kI ^ 1300
def progI : G3 (Q3 Int) := prog3 iOps 0 1 x1I x2I x3I bI (x1I * x1I * x1I - 3 * x1I + bI) (x2I * x2I * x2I - 3 * x2I + bI) (x3I * x3I * x3I - 3 * x3I + bI)
def progB : G3 (Q3 Bd) := prog3 bOps bz ⟨1, 0, 0, 0⟩ ⟨1, 1, 0, 0⟩ ⟨1, 0, 1, 0⟩ ⟨1, 0, 0, 1⟩ ⟨1, 0, 0, 0⟩ ⟨5, 3, 0, 0⟩ ⟨5, 0, 3, 0⟩ ⟨5, 0, 0, 3⟩
theorem progB_ok : allG (fun a : Bd => decide (a.n < kB) && decide (a.d1 < 10) && decide (a.d2 < 13) && decide (a.d3 < 10)) progB = true := by decide +kernel
theorem progI_ok : allG (fun a : Int => decide (a = 0)) progI = true := by decide +kernel

def pone : Poly := [((0, 0, 0, 0), 1)]
def px1 : Poly := [((1, 0, 0, 0), 1)]
def px2 : Poly := [((0, 1, 0, 0), 1)]
def px3 : Poly := [((0, 0, 1, 0), 1)]
def pb : Poly := [((0, 0, 0, 1), 1)]
def pf1 : Poly := [((3, 0, 0, 0), 1), ((1, 0, 0, 0), -3), ((0, 0, 0, 1), 1)]
def pf2 : Poly := [((0, 3, 0, 0), 1), ((0, 1, 0, 0), -3), ((0, 0, 0, 1), 1)]
def pf3 : Poly := [((0, 0, 3, 0), 1), ((0, 0, 1, 0), -3), ((0, 0, 0, 1), 1)]
def progP : G3 (Q3 Poly) := prog3 pOps [] pone px1 px2 px3 pb pf1 pf2 pf3
theorem prog3_rel {α β : Type} {o : Ops α} {o' : Ops β} {R : α → β → Prop} (h : Pres o o' R) {z e x1 x2 x3 b f1 f2 f3 : α} {z' e' x1' x2' x3' b' f1' f2' f3' : β}
    (hz : R z z') (he : R e e') (h1 : R x1 x1') (h2 : R x2 x2') (h3 : R x3 x3') (hb : R b b') (g1 : R f1 f1') (g2 : R f2 f2') (g3 : R f3 f3') :
    RG (RQ (RQ (RQ R))) (prog3 o z e x1 x2 x3 b f1 f2 f3) (prog3 o' z' e' x1' x2' x3' b' f1' f2' f3') := by
  have em : ∀ {x : α} {x' : β}, R x x' → RQ (RQ (RQ R)) (emb z x) (emb z' x') := fun h => ⟨⟨⟨h, hz⟩, ⟨hz, hz⟩⟩, ⟨⟨hz, hz⟩, ⟨hz, hz⟩⟩⟩
  refine minors_rel (h.t g1 g2 g3) (em hb) ⟨em h1, ?_, em he⟩ ⟨em h2, ?_, em he⟩ ⟨em h3, ?_, em he⟩
  · exact ⟨⟨⟨hz, he⟩, ⟨hz, hz⟩⟩, ⟨⟨hz, hz⟩, ⟨hz, hz⟩⟩⟩
  · exact ⟨⟨⟨hz, hz⟩, ⟨he, hz⟩⟩, ⟨⟨hz, hz⟩, ⟨hz, hz⟩⟩⟩
  · exact ⟨⟨⟨hz, hz⟩, ⟨hz, hz⟩⟩, ⟨⟨he, hz⟩, ⟨hz, hz⟩⟩⟩
theorem kK (e : Mono) : mK kB e = kI ^ key e := by simp only [mK, kB, kI]; rfl
theorem relK : RG (RQ (RQ (RQ (RK kB)))) progP progI := by
  refine prog3_rel (presK kB) ?_ ?_ ?_ ?_ ?_ ?_ ?_ ?_ ?_
  · rfl
  · simp only [RK, pone, pev, kK, key]; simp
  · simp only [RK, px1, pev, kK, key, x1I]; simp [Int.pow_succ]
  · simp only [RK, px2, pev, kK, key, x2I]; simp
  · simp only [RK, px3, pev, kK, key, x3I]; simp
  · simp only [RK, pb, pev, kK, key, bI]; simp
  · simp only [RK, pf1, pev, kK, key, x1I, bI]; simp; grind
  · simp only [RK, pf2, pev, kK, key, x2I, bI]; simp; grind
  · simp only [RK, pf3, pev, kK, key, x3I, bI]; simp; grind
theorem relB : RG (RQ (RQ (RQ RB))) progP progB := by
  refine prog3_rel presB ?_ ?_ ?_ ?_ ?_ ?_ ?_ ?_ ?_
  · exact ⟨Nat.le_refl _, fun _ => rfl, fun t ht => by cases ht⟩
  all_goals
    refine ⟨by decide, by decide, ?_⟩
    intro t ht
    simp only [pone, px1, px2, px3, pb, pf1, pf2, pf3, List.mem_cons, List.not_mem_nil, or_false] at ht
    rcases ht with rfl | rfl | rfl <;> exact ⟨by decide, by decide, by decide⟩
theorem all8_rel {α β : Type} {R : α → β → Prop} {p : β → Bool} {q : α → Prop} (h : ∀ a b, R a b → p b = true → q a) {a : Q3 α} {b : Q3 β} (hr : RQ (RQ (RQ R)) a b) (hp : all8 p b = true) : q a.1.1.1 ∧ q a.1.1.2 ∧ q a.1.2.1 ∧ q a.1.2.2 ∧ q a.2.1.1 ∧ q a.2.1.2 ∧ q a.2.2.1 ∧ q a.2.2.2 := by
  simp only [all8, Bool.and_eq_true] at hp
  obtain ⟨⟨⟨⟨⟨⟨⟨h1, h2⟩, h3⟩, h4⟩, h5⟩, h6⟩, h7⟩, h8⟩ := hp
  obtain ⟨⟨⟨r1, r2⟩, ⟨r3, r4⟩⟩, ⟨⟨r5, r6⟩, ⟨r7, r8⟩⟩⟩ := hr
  exact ⟨h _ _ r1 h1, h _ _ r2 h2, h _ _ r3 h3, h _ _ r4 h4, h _ _ r5 h5, h _ _ r6 h6, h _ _ r7 h7, h _ _ r8 h8⟩
def ZeroP (p : Poly) : Prop := ∀ x1 x2 x3 b, pev (mX x1 x2 x3 b) p = 0
theorem zeroP_of {p : Poly} (h1 : pev (mK kB) p = 0) (h2 : nrm1 p < kB ∧ ∀ t ∈ p, Fits t.1) : ZeroP p := fun x1 x2 x3 b => kron_zero h2.1 h2.2 h1 x1 x2 x3 b
def Z8 (a : Q3 Poly) : Prop := ZeroP a.1.1.1 ∧ ZeroP a.1.1.2 ∧ ZeroP a.1.2.1 ∧ ZeroP a.1.2.2 ∧ ZeroP a.2.1.1 ∧ ZeroP a.2.1.2 ∧ ZeroP a.2.2.1 ∧ ZeroP a.2.2.2
theorem z8_of {a : Q3 Poly} {z : Q3 Int} {d : Q3 Bd} (hk : RQ (RQ (RQ (RK kB))) a z) (hb : RQ (RQ (RQ RB)) a d) (hz : all8 (fun a : Int => decide (a = 0)) z = true)
    (hd : all8 (fun a : Bd => decide (a.n < kB) && decide (a.d1 < 10) && decide (a.d2 < 13) && decide (a.d3 < 10)) d = true) : Z8 a := by
  have h1 := all8_rel (q := fun p => pev (mK kB) p = 0) (fun a b hr hp => by simp only [decide_eq_true_eq] at hp; rw [← hp]; exact hr) hk hz
  have h2 := all8_rel (q := fun p => nrm1 p < kB ∧ ∀ t ∈ p, Fits t.1) (fun a b hr hp => by
    simp only [Bool.and_eq_true, decide_eq_true_eq] at hp
    obtain ⟨r1, _, r3⟩ := hr
    refine ⟨Nat.lt_of_le_of_lt r1 hp.1.1.1, fun t ht => ?_⟩
    have := r3 t ht
    exact ⟨by omega, by omega, by omega⟩) hb hd
  obtain ⟨a1, a2, a3, a4, a5, a6, a7, a8⟩ := h1
  obtain ⟨b1, b2, b3, b4, b5, b6, b7, b8⟩ := h2
  exact ⟨zeroP_of a1 b1, zeroP_of a2 b2, zeroP_of a3 b3, zeroP_of a4 b4, zeroP_of a5 b5, zeroP_of a6 b6, zeroP_of a7 b7, zeroP_of a8 b8⟩
theorem progP_zero : Z8 progP.X ∧ Z8 progP.Y ∧ Z8 progP.Z := by
  have h1 := progI_ok
  have h2 := progB_ok
  simp only [allG, Bool.and_eq_true] at h1 h2
  exact ⟨z8_of relK.X relB.X h1.1.1 (by simpa only [all8, Bool.and_eq_true] using h2.1.1), z8_of relK.Y relB.Y h1.1.2 (by simpa only [all8, Bool.and_eq_true] using h2.1.2), z8_of relK.Z relB.Z h1.2 (by simpa only [all8, Bool.and_eq_true] using h2.2)⟩
section
variable {n : Nat} [NeZero n]
theorem z8_zero {x1 x2 x3 b y1 y2 y3 v : Fin n} {a : Q3 Poly} (hz : Z8 a) (hr : RY (RY (RY (RF x1 x2 x3 b) y1) y2) y3 a v) : v = 0 := by
  obtain ⟨u, w, ⟨u1, u2, ⟨u11, u12, e1, e2, rfl⟩, ⟨u21, u22, e3, e4, rfl⟩, rfl⟩, ⟨w1, w2, ⟨w11, w12, e5, e6, rfl⟩, ⟨w21, w22, e7, e8, rfl⟩, rfl⟩, rfl⟩ := hr
  obtain ⟨a1, a2, a3, a4, a5, a6, a7, a8⟩ := hz
  simp only [RF] at e1 e2 e3 e4 e5 e6 e7 e8
  rw [a1, cst_zero] at e1
  rw [a2, cst_zero] at e2
  rw [a3, cst_zero] at e3
  rw [a4, cst_zero] at e4
  rw [a5, cst_zero] at e5
  rw [a6, cst_zero] at e6
  rw [a7, cst_zero] at e7
  rw [a8, cst_zero] at e8
  subst e1 e2 e3 e4 e5 e6 e7 e8
  grobner
def ofG (g : G3 (Fin n)) : P3 n := ⟨g.X, g.Y, g.Z⟩
theorem addG_P (b : Fin n) (p q : G3 (Fin n)) : ofG (addG fOps b p q) = addP b (ofG p) (ofG q) := by
  apply ext3 <;> simp only [addP, addG, ofG, fOps] <;> grobner
theorem minors_zero {b x1 y1 x2 y2 x3 y3 : Fin n} (h1 : y1 * y1 = x1 * x1 * x1 - 3 * x1 + b) (h2 : y2 * y2 = x2 * x2 * x2 - 3 * x2 + b) (h3 : y3 * y3 = x3 * x3 * x3 - 3 * x3 + b) :
    (minors fOps b ⟨x1, y1, 1⟩ ⟨x2, y2, 1⟩ ⟨x3, y3, 1⟩).X = 0 ∧ (minors fOps b ⟨x1, y1, 1⟩ ⟨x2, y2, 1⟩ ⟨x3, y3, 1⟩).Y = 0 ∧ (minors fOps b ⟨x1, y1, 1⟩ ⟨x2, y2, 1⟩ ⟨x3, y3, 1⟩).Z = 0 := by
  have hp := presF x1 x2 x3 b
  have z0 : RF x1 x2 x3 b [] (0 : Fin n) := by simp only [RF, pev]; exact cst_zero
  have c1 : (cst 1 : Fin n) = 1 := by
    apply Fin.ext
    show ((1 : Int) % (n : Int)).toNat = 1 % n
    rw [show (1 : Int) % (n : Int) = ((1 % n : Nat) : Int) by rw [Int.natCast_emod]; rfl, Int.toNat_natCast]
  have cneg : ∀ z : Int, (cst (-z) : Fin n) = - cst z := fun z => by
    have := cst_sub (n := n) 0 z
    rw [cst_zero] at this
    rw [show -z = 0 - z by omega, this]; grobner
  have c3 : (cst 3 : Fin n) = 3 := by
    rw [show (3 : Int) = 1 + 1 + 1 by rfl, cst_add, cst_add, c1]; grobner
  have one : RF x1 x2 x3 b pone (1 : Fin n) := by simp only [RF, pone, pev, mX]; simpa using c1
  have r1 : RF x1 x2 x3 b px1 x1 := by simp only [RF, px1, pev, mX]; simpa [Int.pow_succ] using cst_val x1
  have r2 : RF x1 x2 x3 b px2 x2 := by simp only [RF, px2, pev, mX]; simpa [Int.pow_succ] using cst_val x2
  have r3 : RF x1 x2 x3 b px3 x3 := by simp only [RF, px3, pev, mX]; simpa [Int.pow_succ] using cst_val x3
  have rb : RF x1 x2 x3 b pb b := by simp only [RF, pb, pev, mX]; simpa [Int.pow_succ] using cst_val b
  have cube : ∀ x : Fin n, (cst ((x.val : Int) ^ 3) : Fin n) = x * x * x := fun x => by
    rw [show (x.val : Int) ^ 3 = x.val * x.val * x.val by grind, cst_mul, cst_mul, cst_val]
  have f1 : RF x1 x2 x3 b pf1 (y1 * y1) := by
    rw [h1]; simp only [RF, pf1, pev, mX]
    simp only [Int.pow_zero, Int.mul_one, Int.one_mul, Int.pow_succ, cst_add, cst_mul, cst_val, cst_zero, cneg, c3]
    grobner
  have f2 : RF x1 x2 x3 b pf2 (y2 * y2) := by
    rw [h2]; simp only [RF, pf2, pev, mX]
    simp only [Int.pow_zero, Int.mul_one, Int.one_mul, Int.pow_succ, cst_add, cst_mul, cst_val, cst_zero, cneg, c3]
    grobner
  have f3 : RF x1 x2 x3 b pf3 (y3 * y3) := by
    rw [h3]; simp only [RF, pf3, pev, mX]
    simp only [Int.pow_zero, Int.mul_one, Int.one_mul, Int.pow_succ, cst_add, cst_mul, cst_val, cst_zero, cneg, c3]
    grobner
  have pt := hp.t3 f1 f2 f3
  have em : ∀ {p : Poly} {v : Fin n}, RF x1 x2 x3 b p v → RY (RY (RY (RF x1 x2 x3 b) y1) y2) y3 (emb [] p) v := fun h =>
    ⟨_, _, ⟨_, _, ⟨_, _, h, z0, rfl⟩, ⟨_, _, z0, z0, rfl⟩, rfl⟩, ⟨_, _, ⟨_, _, z0, z0, rfl⟩, ⟨_, _, z0, z0, rfl⟩, rfl⟩, by grobner⟩
  have rel := minors_rel pt (em rb) (p := ⟨emb [] px1, ey1 [] pone, emb [] pone⟩) (p' := ⟨x1, y1, 1⟩) (q := ⟨emb [] px2, ey2 [] pone, emb [] pone⟩) (q' := ⟨x2, y2, 1⟩) (r := ⟨emb [] px3, ey3 [] pone, emb [] pone⟩) (r' := ⟨x3, y3, 1⟩)
    ⟨em r1, ⟨_, _, ⟨_, _, ⟨_, _, z0, one, rfl⟩, ⟨_, _, z0, z0, rfl⟩, rfl⟩, ⟨_, _, ⟨_, _, z0, z0, rfl⟩, ⟨_, _, z0, z0, rfl⟩, rfl⟩, by grobner⟩, em one⟩
    ⟨em r2, ⟨_, _, ⟨_, _, ⟨_, _, z0, z0, rfl⟩, ⟨_, _, one, z0, rfl⟩, rfl⟩, ⟨_, _, ⟨_, _, z0, z0, rfl⟩, ⟨_, _, z0, z0, rfl⟩, rfl⟩, by grobner⟩, em one⟩
    ⟨em r3, ⟨_, _, ⟨_, _, ⟨_, _, z0, z0, rfl⟩, ⟨_, _, z0, z0, rfl⟩, rfl⟩, ⟨_, _, ⟨_, _, one, z0, rfl⟩, ⟨_, _, z0, z0, rfl⟩, rfl⟩, by grobner⟩, em one⟩
  obtain ⟨g1, g2, g3⟩ := progP_zero
  exact ⟨z8_zero g1 rel.X, z8_zero g2 rel.Y, z8_zero g3 rel.Z⟩

variable {inv : Fin n → Fin n} {b : Fin n}
theorem rep_scale (h : FieldN n inv b) {p : P3 n} {A : Af n} {c : Fin n} (hc : c ≠ 0) (hr : Rep p A) : Rep (scale c p) A := by
  rw [rep_iff h] at hr ⊢
  obtain ⟨d, hd, rfl⟩ := hr
  refine ⟨c * d, h.mul_ne hc hd, ?_⟩
  apply ext3 <;> simp only [scale] <;> grobner
theorem rep_add (h : FieldN n inv b) {p q : P3 n} {A B : Af n} (hA : OnA b A) (hB : OnA b B) (hp : Rep p A) (hq : Rep q B) : Rep (addP b p q) (addA inv A B) := by
  rw [rep_iff h] at hp hq
  obtain ⟨c, hc, rfl⟩ := hp
  obtain ⟨d, hd, rfl⟩ := hq
  rw [addP_scale]
  exact rep_scale h (h.mul_ne (h.mul_ne hc hd) (h.mul_ne hc hd)) (rep_bas h hA hB)
theorem rep_bas_self (h : FieldN n inv b) (A : Af n) : Rep (bas A) A := (rep_iff h _ _).2 ⟨1, h.one, by apply ext3 <;> simp only [scale] <;> grobner⟩
/-- Three numbers stand for one point. -/
theorem rep_uniq (h : FieldN n inv b) {p q : P3 n} {A B : Af n} (hp : Rep p A) (hq : Rep q B) (h1 : p.X * q.Z - p.Z * q.X = 0) (h2 : p.Y * q.Z - p.Z * q.Y = 0) : A = B := by
  match A, B with
  | none, none => rfl
  | none, some (x, y) =>
    obtain ⟨p1, p2, p3⟩ := hp
    obtain ⟨q1, q2, q3⟩ := hq
    exact absurd (show p.Y * q.Z = 0 by grobner) (h.mul_ne p3 q1)
  | some (x, y), none =>
    obtain ⟨p1, p2, p3⟩ := hp
    obtain ⟨q1, q2, q3⟩ := hq
    exact absurd (show q.Y * p.Z = 0 by grobner) (h.mul_ne q3 p1)
  | some (x, y), some (x', y') =>
    obtain ⟨p1, p2, p3⟩ := hp
    obtain ⟨q1, q2, q3⟩ := hq
    have hz := h.mul_ne p1 q1
    have ex : x = x' := by
      have : (p.Z * q.Z) * (x - x') = 0 := by grobner
      rcases h.dom this with e | e
      · exact absurd e hz
      · grobner
    have ey : y = y' := by
      have : (p.Z * q.Z) * (y - y') = 0 := by grobner
      rcases h.dom this with e | e
      · exact absurd e hz
      · grobner
    rw [ex, ey]
theorem addA_assoc (h : FieldN n inv b) {A B C : Af n} (hA : OnA b A) (hB : OnA b B) (hC : OnA b C) : addA inv (addA inv A B) C = addA inv A (addA inv B C) := by
  match A, B, C, hA, hB, hC with
  | none, B, C, _, _, _ => simp only [addA]
  | some p, none, C, _, _, _ => simp only [addA]
  | some p, some q, none, _, _, _ => rw [addA_none, addA_none]
  | some (x1, y1), some (x2, y2), some (x3, y3), hA, hB, hC =>
    have ab := rep_add h hA hB (rep_bas_self h _) (rep_bas_self h _)
    have bc := rep_add h hB hC (rep_bas_self h _) (rep_bas_self h _)
    have m := rep_add h (addA_on h hA hB) hC ab (rep_bas_self h _)
    have k := rep_add h hA (addA_on h hB hC) (rep_bas_self h _) bc
    obtain ⟨z1, z2, _⟩ := minors_zero hA hB hC
    have e1 : (addP b (addP b (bas (some (x1, y1))) (bas (some (x2, y2)))) (bas (some (x3, y3)))) = ofG (addG fOps b (addG fOps b ⟨x1, y1, 1⟩ ⟨x2, y2, 1⟩) ⟨x3, y3, 1⟩) := by rw [addG_P, addG_P]; rfl
    have e2 : (addP b (bas (some (x1, y1))) (addP b (bas (some (x2, y2))) (bas (some (x3, y3))))) = ofG (addG fOps b ⟨x1, y1, 1⟩ (addG fOps b ⟨x2, y2, 1⟩ ⟨x3, y3, 1⟩)) := by rw [addG_P, addG_P]; rfl
    rw [e1] at m
    rw [e2] at k
    exact rep_uniq h m k z1 z2
end
end Eng


namespace Eng
open Go Go.Proofs
set_option linter.unusedSimpArgs false
set_option linter.unusedVariables false
theorem SndE.mono {P : Program} {gl gl' : List (Nat × List AV)} (h : ∀ g c, find gl g = some c → find gl' g = some c) {f : FuncId} {s : List AV → Option Ret} (hs : SndG P gl f s) : SndG P gl' f s :=
  ⟨fun w X args vals r hG => hs.1 w X args vals r (fun g c hg => hG g c (h g c hg)), hs.2⟩

instance pN_ne : NeZero pN := ⟨by have := pN_pos; omega⟩
abbrev Fq := Fin pN
theorem mon_ex (x : Fq) : ∃ l, l = lim6 (x.val * 18446744073709551616 ^ 6 % pN) := ⟨_, rfl⟩
noncomputable def mon (x : Fq) : List Int := Classical.choose (mon_ex x)
theorem mon_def (x : Fq) : mon x = lim6 (x.val * 18446744073709551616 ^ 6 % pN) := Classical.choose_spec (mon_ex x)
theorem mon_len (x : Fq) : (mon x).length = 6 := by rw [mon_def]; exact lim6_len _
theorem mon_U6 (x : Fq) : U6 (mon x) := by rw [mon_def]; exact U6_lim _
theorem mon_v (x : Fq) : v64 (mon x) = x.val * 18446744073709551616 ^ 6 % pN := by rw [mon_def]; exact v64_lim6 (pN_mod_lt _)
theorem pN_odd : pN % 2 = 1 := by have := pN_four; omega
noncomputable def fqv (n : Nat) : Fq := ⟨n % pN, Nat.mod_lt _ pN_pos⟩
theorem fqv_val (n : Nat) : (fqv n).val = n % pN := rfl
theorem Fq.mul_val (x y : Fq) : (x * y).val = x.val * y.val % pN := Fin.val_mul x y
theorem Fq.add_val (x y : Fq) : (x + y).val = (x.val + y.val) % pN := Fin.val_add x y
theorem fqv_mul (a b : Nat) : fqv (a * b) = fqv a * fqv b := by
  apply Fin.ext; rw [Fq.mul_val, fqv_val, fqv_val, fqv_val, ← Nat.mul_mod]
theorem fqv_add (a b : Nat) : fqv (a + b) = fqv a + fqv b := by
  apply Fin.ext; rw [Fq.add_val, fqv_val, fqv_val, fqv_val, ← Nat.add_mod]
theorem fqv_self (x : Fq) : fqv x.val = x := by
  apply Fin.ext; rw [fqv_val, Nat.mod_eq_of_lt x.isLt]
theorem fqv_mod (n : Nat) : fqv (n % pN) = fqv n := by
  apply Fin.ext; rw [fqv_val, fqv_val, Nat.mod_mod]
theorem fqv_zero : fqv 0 = 0 := by apply Fin.ext; rw [fqv_val, Nat.zero_mod]; rfl
theorem fqv_one : fqv 1 = 1 := by apply Fin.ext; rw [fqv_val]; rfl
theorem fqv_pow (a : Nat) : ∀ n, fqv (a ^ n) = fqv a ^ n
  | 0 => by rw [Nat.pow_zero, fqv_one]; grobner
  | n + 1 => by rw [Nat.pow_succ, fqv_mul, fqv_pow a n]; grobner
theorem fqv_eq_zero {n : Nat} : fqv n = 0 ↔ n % pN = 0 := by
  constructor
  · intro h; have := congrArg Fin.val h; rw [fqv_val] at this; exact this
  · intro h; apply Fin.ext; rw [fqv_val, h]; rfl
/-- The field's inverse, as the document and the program reckon it. -/
noncomputable def invQ (x : Fq) : Fq := fqv (x.val ^ (pN - 2))
theorem invQ_mul (x : Fq) (h : x ≠ 0) : x * invQ x = 1 := by
  have hx : x.val % pN ≠ 0 := by
    rw [Nat.mod_eq_of_lt x.isLt]
    intro e; exact h (Fin.ext e)
  have := inv_law pN_pr pN_gt hx
  apply Fin.ext
  rw [Fq.mul_val, invQ, fqv_val, this]
  show 1 = 1 % pN
  rw [Nat.mod_eq_of_lt (by have := pN_gt; omega)]
noncomputable def Rq : Fq := fqv (18446744073709551616 ^ 6)
theorem Rq_ne : Rq ≠ 0 := by
  intro h
  have h1 := fqv_eq_zero.1 h
  rw [pN_lit] at h1
  exact absurd h1 (by decide)
noncomputable def Ri : Fq := invQ Rq
theorem Rq_Ri : Rq * Ri = 1 := invQ_mul _ Rq_ne
theorem mon_val (x : Fq) : mon x = lim6 (x * Rq).val := by
  rw [mon_def]; unfold Rq
  rw [Fq.mul_val, fqv_val, Nat.mul_mod_mod]
theorem lim6_fq {x y : Fq} (h : lim6 x.val = lim6 y.val) : x = y := Fin.ext (lim6_inj (Nat.lt_trans x.isLt pN_ltR) (Nat.lt_trans y.isLt pN_ltR) h)
theorem mon_inj {x y : Fq} (h : mon x = mon y) : x = y := by
  rw [mon_val, mon_val] at h
  have := lim6_fq h
  have hr := Rq_Ri
  grobner
theorem mon_injEq (x y : Fq) : (mon x = mon y) = (x = y) := propext ⟨mon_inj, fun h => by rw [h]⟩
/-- A number below the prime, as it is told elsewhere. -/
theorem std_mon (x : Fq) : lim6 x.val = mon (x * Ri) := by
  rw [mon_val]
  congr 2
  have hr := Rq_Ri
  grobner
theorem two_mon : lim6 (18446744073709551616 ^ 6 * 18446744073709551616 ^ 6 % pN) = mon Rq := by
  rw [mon_val]; congr 1
  rw [Fq.mul_val, Rq, fqv_val, ← Nat.mul_mod]
theorem one_mon : one6 = mon Ri := by
  rw [mon_val, show Ri * Rq = 1 by have := Rq_Ri; grobner, ← lim6_one]
  congr 1
  show 1 = 1 % pN
  rw [Nat.mod_eq_of_lt (by have := pN_gt; omega)]
theorem zero_mon : List.replicate 6 0 = mon 0 := by
  rw [mon_val, show (0 : Fq) * Rq = 0 by grobner, ← lim6_nil]; rfl
/-! What the variables hold. -/
def bN : Nat := 27580193559959705877849011840389048093056905856361568521428707301988689241309860865136260764883745107765439761230575
noncomputable def bQ : Fq := fqv bN
def gxN : Nat := 26247035095799689268623156744566981891852923491109213387815615900925518854738050089022388053975719786650872476732087
def gyN : Nat := 8325710961489029985546751289520108179287853048861315594709205902480503199884419224438643760392947333078086511627871
def oneL : List Int := [18446744069414584321, 4294967295, 1, 0, 0, 0]
def curL : List Int := [581395848458481100, 17809957346689692396, 8643006485390950958, 16372638458395724514, 13126622871277412500, 14774077593024970745]
def gxL : List Int := [4203087948775033527, 6125724927633205612, 6482722621138151992, 7934563412932533144, 10282218360005504372, 12288012358878168375]
def gyL : List Int := [8809917716911230559, 747793036959711645, 16850834916486723776, 17938995913990739068, 6745997240412855337, 3897828414440483951]
theorem one_eq : oneL = mon 1 := by
  rw [mon_def]
  rw [show (1 : Fq).val = 1 by show 1 % pN = 1; rw [Nat.mod_eq_of_lt (by have := pN_gt; omega)], Nat.one_mul, pN_lit]
  decide
theorem cur_l1 : bN % 39402006196394479212279040100143613805079739270465446667948293404245721771496870329047266088258938001861606973112319 * 18446744073709551616 ^ 6 % 39402006196394479212279040100143613805079739270465446667948293404245721771496870329047266088258938001861606973112319 = 31557238206390940957597319936599174722055881914217182876712135092282706590848110034779859449912744153716396065369548 := by decide +kernel
theorem cur_l2 : curL = lim6 31557238206390940957597319936599174722055881914217182876712135092282706590848110034779859449912744153716396065369548 := by decide
theorem cur_gen {b p v q : Nat} {l : List Int} (hv : b % p * 18446744073709551616 ^ 6 % p = v) (hl : l = lim6 v) (hq : q = p) : l = lim6 (b % q * 18446744073709551616 ^ 6 % q) := by
  subst hq; rw [hv]; exact hl
theorem mon_fqv (b : Nat) : mon (fqv b) = lim6 (b % pN * 18446744073709551616 ^ 6 % pN) := mon_def _
theorem cur_eq : curL = mon bQ := by
  unfold bQ
  rw [mon_fqv]
  exact cur_gen cur_l1 cur_l2 pN_lit
theorem gx_eq : gxL = lim6 gxN := by decide
theorem gy_eq : gyL = lim6 gyN := by decide
/-- A point's cells. -/
def ptc (x y : List Int) (n : Bool) : List AV := ints .u64 (x ++ y) ++ [.bool n]
noncomputable def gxQ : Fq := fqv gxN
noncomputable def gyQ : Fq := fqv gyN
/-- A number below the prime as six words. -/
noncomputable def std (x : Fq) : List Int := lim6 x.val
def deB : List Int := [0, 1, 56, 2, 57, 49, 28, 3, 61, 58, 42, 50, 38, 29, 17, 4, 62, 47, 59, 36, 45, 43, 51, 22, 53, 39, 33, 30, 24, 18, 12, 5, 63, 55, 48, 27, 60, 41, 37, 16, 46, 35, 44, 21, 52, 32, 23, 11, 54, 26, 40, 15, 34, 20, 31, 10, 25, 14, 19, 9, 13, 8, 7, 6]
noncomputable def gC : List (Nat × List AV) := [(4, ints .u64 pD), (0, ints .u64 (mon 1)), (1, ints .u64 pD), (2, ptc (std gxQ) (std gyQ) false), (5, ints .u64 (mon bQ)), (6, ints .u8 deB), (3, [.iface 169 (.agg [.glob 11 30])])]
theorem gC1 : find gC 4 = some (ints .u64 pD) := rfl
theorem gC2 : find gC 0 = some (ints .u64 (mon 1)) := rfl
theorem gC3 : find gC 1 = some (ints .u64 pD) := rfl
theorem gC4 : find gC 2 = some (ptc (std gxQ) (std gyQ) false) := rfl
theorem gC5 : find gC 5 = some (ints .u64 (mon bQ)) := rfl
theorem up_C : ∀ g c, find pG g = some c → find gC g = some c := by
  intro g c h
  simp only [pG, find] at h
  split at h
  · rename_i e; subst e; cases h; unfold gC; rw [find, if_pos rfl]
  · cases h
theorem pD_two : sub (ints .u64 pD) 7 6 = ints .u64 (mon Rq) := by
  rw [ints_sub, pD_eq, modL_two pL_good.1, ← pN_eq, two_mon]

theorem mon_mul (x y : Fq) : redN (v64 (mon x) * v64 (mon y)) pN = (x * y).val * 18446744073709551616 ^ 6 % pN := by
  rw [redN_mul (u := x.val) (v := y.val) pN_odd (by rw [mon_v, Nat.mod_mod]) (by rw [mon_v, Nat.mod_mod]), Fq.mul_val, Nat.mod_mul_mod]
theorem mon_lt (x : Fq) : v64 (mon x) < pN := by rw [mon_v]; exact Nat.mod_lt _ pN_pos
theorem mon_lim (x : Fq) : lim6 (v64 (mon x)) = mon x := (mon_U6 x).eq_lim
theorem mon_add (x y : Fq) : lim6 ((v64 (mon x) + v64 (mon y)) % pN) = mon (x + y) := by
  rw [mon_v, mon_v, ← Nat.add_mod, ← Nat.add_mul]
  rw [mon_def]
  rw [Fq.add_val, Nat.mod_mul_mod]
theorem mon_sub (x y : Fq) : lim6 ((v64 (mon x) + (pN - v64 (mon y))) % pN) = mon (x - y) := by
  have h := mon_add (x - y) y
  rw [show x - y + y = x by grobner] at h
  have hx := mon_lt x
  have hy := mon_lt y
  have hd := mon_lt (x - y)
  rw [← h]
  have e : v64 (mon (x - y)) = v64 (mon (x - y)) % pN := (Nat.mod_eq_of_lt hd).symm
  rw [v64_lim6 (pN_mod_lt _)]
  conv => rhs; rw [← mon_lim (x - y)]
  congr 1
  generalize v64 (mon (x - y)) = d at *
  generalize v64 (mon y) = b at *
  rw [Nat.mod_add_mod, show d + b + (pN - b) = d + pN by omega, Nat.add_mod_right, Nat.mod_eq_of_lt hd]

theorem fP0 : (#[⟨ "X", 24, 0, false, "", "", 0⟩, ⟨ "Y", 24, 6, false, "", "", 48⟩, ⟨ "Z", 24, 12, false, "", "", 96⟩] : Array Field)[0]? = some ⟨ "X", 24, 0, false, "", "", 0⟩ := rfl
theorem fP1 : (#[⟨ "X", 24, 0, false, "", "", 0⟩, ⟨ "Y", 24, 6, false, "", "", 48⟩, ⟨ "Z", 24, 12, false, "", "", 96⟩] : Array Field)[1]? = some ⟨ "Y", 24, 6, false, "", "", 48⟩ := rfl
theorem fP2 : (#[⟨ "X", 24, 0, false, "", "", 0⟩, ⟨ "Y", 24, 6, false, "", "", 48⟩, ⟨ "Z", 24, 12, false, "", "", 96⟩] : Array Field)[2]? = some ⟨ "Z", 24, 12, false, "", "", 96⟩ := rfl
theorem fT0 : (#[⟨ "X", 24, 0, false, "", "", 0⟩, ⟨ "Y", 24, 6, false, "", "", 48⟩, ⟨ "None", 4, 12, false, "", "", 96⟩] : Array Field)[0]? = some ⟨ "X", 24, 0, false, "", "", 0⟩ := rfl
theorem fT1 : (#[⟨ "X", 24, 0, false, "", "", 0⟩, ⟨ "Y", 24, 6, false, "", "", 48⟩, ⟨ "None", 4, 12, false, "", "", 96⟩] : Array Field)[1]? = some ⟨ "Y", 24, 6, false, "", "", 48⟩ := rfl
theorem fT2 : (#[⟨ "X", 24, 0, false, "", "", 0⟩, ⟨ "Y", 24, 6, false, "", "", 48⟩, ⟨ "None", 4, 12, false, "", "", 96⟩] : Array Field)[2]? = some ⟨ "None", 4, 12, false, "", "", 96⟩ := rfl
end Eng


namespace Eng
open Go Go.Proofs
set_option linter.unusedSimpArgs false
set_option linter.unusedVariables false
set_option maxHeartbeats 4000000
theorem fd41_0 : (#[⟨ "Ok", 4, 0, false, "", "", 0⟩, ⟨ "Slot", 3, 1, false, "", "", 8⟩, ⟨ "Entry", 3, 2, false, "", "", 16⟩, ⟨ "Version", 3, 3, false, "", "", 24⟩, ⟨ "Why", 39, 4, false, "", "", 32⟩] : Array Field)[0]? = some ⟨ "Ok", 4, 0, false, "", "", 0⟩ := rfl
theorem fd41_3 : (#[⟨ "Ok", 4, 0, false, "", "", 0⟩, ⟨ "Slot", 3, 1, false, "", "", 8⟩, ⟨ "Entry", 3, 2, false, "", "", 16⟩, ⟨ "Version", 3, 3, false, "", "", 24⟩, ⟨ "Why", 39, 4, false, "", "", 32⟩] : Array Field)[3]? = some ⟨ "Version", 3, 3, false, "", "", 24⟩ := rfl
theorem fd41_4 : (#[⟨ "Ok", 4, 0, false, "", "", 0⟩, ⟨ "Slot", 3, 1, false, "", "", 8⟩, ⟨ "Entry", 3, 2, false, "", "", 16⟩, ⟨ "Version", 3, 3, false, "", "", 24⟩, ⟨ "Why", 39, 4, false, "", "", 32⟩] : Array Field)[4]? = some ⟨ "Why", 39, 4, false, "", "", 32⟩ := rfl
theorem fd61_0 : (#[⟨ "slots", 59, 0, false, "", "escutcheon/device", 0⟩, ⟨ "ram", 57, 2, false, "", "escutcheon/device", 48⟩, ⟨ "fuses", 22, 3, false, "", "escutcheon/device", 72⟩, ⟨ "off", 4, 4, false, "", "escutcheon/device", 80⟩, ⟨ "steps", 3, 5, false, "", "escutcheon/device", 88⟩, ⟨ "left", 3, 6, false, "", "escutcheon/device", 96⟩] : Array Field)[0]? = some ⟨ "slots", 59, 0, false, "", "escutcheon/device", 0⟩ := rfl
theorem fd61_1 : (#[⟨ "slots", 59, 0, false, "", "escutcheon/device", 0⟩, ⟨ "ram", 57, 2, false, "", "escutcheon/device", 48⟩, ⟨ "fuses", 22, 3, false, "", "escutcheon/device", 72⟩, ⟨ "off", 4, 4, false, "", "escutcheon/device", 80⟩, ⟨ "steps", 3, 5, false, "", "escutcheon/device", 88⟩, ⟨ "left", 3, 6, false, "", "escutcheon/device", 96⟩] : Array Field)[1]? = some ⟨ "ram", 57, 2, false, "", "escutcheon/device", 48⟩ := rfl
theorem fd61_2 : (#[⟨ "slots", 59, 0, false, "", "escutcheon/device", 0⟩, ⟨ "ram", 57, 2, false, "", "escutcheon/device", 48⟩, ⟨ "fuses", 22, 3, false, "", "escutcheon/device", 72⟩, ⟨ "off", 4, 4, false, "", "escutcheon/device", 80⟩, ⟨ "steps", 3, 5, false, "", "escutcheon/device", 88⟩, ⟨ "left", 3, 6, false, "", "escutcheon/device", 96⟩] : Array Field)[2]? = some ⟨ "fuses", 22, 3, false, "", "escutcheon/device", 72⟩ := rfl
theorem fd61_3 : (#[⟨ "slots", 59, 0, false, "", "escutcheon/device", 0⟩, ⟨ "ram", 57, 2, false, "", "escutcheon/device", 48⟩, ⟨ "fuses", 22, 3, false, "", "escutcheon/device", 72⟩, ⟨ "off", 4, 4, false, "", "escutcheon/device", 80⟩, ⟨ "steps", 3, 5, false, "", "escutcheon/device", 88⟩, ⟨ "left", 3, 6, false, "", "escutcheon/device", 96⟩] : Array Field)[3]? = some ⟨ "off", 4, 4, false, "", "escutcheon/device", 80⟩ := rfl
theorem fd61_4 : (#[⟨ "slots", 59, 0, false, "", "escutcheon/device", 0⟩, ⟨ "ram", 57, 2, false, "", "escutcheon/device", 48⟩, ⟨ "fuses", 22, 3, false, "", "escutcheon/device", 72⟩, ⟨ "off", 4, 4, false, "", "escutcheon/device", 80⟩, ⟨ "steps", 3, 5, false, "", "escutcheon/device", 88⟩, ⟨ "left", 3, 6, false, "", "escutcheon/device", 96⟩] : Array Field)[4]? = some ⟨ "steps", 3, 5, false, "", "escutcheon/device", 88⟩ := rfl
theorem fd61_5 : (#[⟨ "slots", 59, 0, false, "", "escutcheon/device", 0⟩, ⟨ "ram", 57, 2, false, "", "escutcheon/device", 48⟩, ⟨ "fuses", 22, 3, false, "", "escutcheon/device", 72⟩, ⟨ "off", 4, 4, false, "", "escutcheon/device", 80⟩, ⟨ "steps", 3, 5, false, "", "escutcheon/device", 88⟩, ⟨ "left", 3, 6, false, "", "escutcheon/device", 96⟩] : Array Field)[5]? = some ⟨ "left", 3, 6, false, "", "escutcheon/device", 96⟩ := rfl
theorem fd67_0 : (#[⟨ "Version", 3, 0, false, "", "", 0⟩, ⟨ "Class", 3, 1, false, "", "", 8⟩, ⟨ "Load", 3, 2, false, "", "", 16⟩, ⟨ "Length", 3, 3, false, "", "", 24⟩, ⟨ "Nonce", 57, 4, false, "", "", 32⟩, ⟨ "Wrapped", 57, 5, false, "", "", 56⟩, ⟨ "Digest", 57, 6, false, "", "", 80⟩] : Array Field)[0]? = some ⟨ "Version", 3, 0, false, "", "", 0⟩ := rfl
theorem fd128_4 : (#[⟨ "Class", 3, 0, false, "", "", 0⟩, ⟨ "Tag", 3, 1, false, "", "", 8⟩, ⟨ "Made", 4, 2, false, "", "", 16⟩, ⟨ "Body", 57, 3, false, "", "", 24⟩, ⟨ "Kids", 126, 4, false, "", "", 48⟩] : Array Field)[4]? = some ⟨ "Kids", 126, 4, false, "", "", 48⟩ := rfl
theorem fd189_0 : (#[⟨ "b", 57, 0, false, "", "escutcheon/der", 0⟩] : Array Field)[0]? = some ⟨ "b", 57, 0, false, "", "escutcheon/der", 0⟩ := rfl
theorem fd214_0 : (#[⟨ "At", 3, 0, false, "", "", 0⟩, ⟨ "Err", 30, 1, false, "", "", 8⟩] : Array Field)[0]? = some ⟨ "At", 3, 0, false, "", "", 0⟩ := rfl
theorem fd214_1 : (#[⟨ "At", 3, 0, false, "", "", 0⟩, ⟨ "Err", 30, 1, false, "", "", 8⟩] : Array Field)[1]? = some ⟨ "Err", 30, 1, false, "", "", 8⟩ := rfl
/-- A function at one input. -/
noncomputable def atC (a : List AV) (r : Ret) : List AV → Option Ret := open Classical in fun args => if args = a then some r else none
theorem atC_eq (a : List AV) (r : Ret) : atC a r a = some r := if_pos rfl
theorem atC_inv {a args : List AV} {r r' : Ret} (h : atC a r args = some r') : args = a ∧ r' = r := by
  unfold atC at h; split at h
  · rename_i e; cases h; exact ⟨e, rfl⟩
  · cases h
theorem sndG_at {gl : List (Nat × List AV)} {f : FuncId} {fn : Func} {L : LC} {n : Nat} {rs : List ResultVar} {a : List AV} {r : Ret} (l : List (Nat × (List AV → Option Ret))) (x : List (Nat × (List AV → Option AV))) (hf : Tryz.prog.funcs[f]? = some fn) (hm : (fn.name == "runtime.NumGoroutine") = false)
    (hb : fn.body.map (lite okDraw) = some L) (hnt : fn.ntmps = n) (hrs : fn.results.toList = rs) (hl : AllSG Tryz.prog gl l) (hx : AllX Tryz.prog x) (hn : a.length ≤ n)
    (h : (tbG Tryz.prog gl l x).Ok → ∀ F, Lwp okDraw (tbG Tryz.prog gl l x) F L (Post (tbG Tryz.prog gl l x) rs r) (entry n a)) : SndG Tryz.prog gl f (atC a r) :=
  sndG_by l x hf hm hb hnt hrs hl hx fun hT args r' hs => by
    obtain ⟨rfl, rfl⟩ := atC_inv hs
    exact ⟨hn, h hT⟩
theorem gC6 : find gC 6 = some (ints .u8 deB) := rfl
def tlvZ : List AV := [.int .i64 0, .int .i64 0, .bool false, .nils, .nils]
def spotV : AV := .iface 212 (.iptr [.int .i64 0, .iface 38 (.int .i64 6)] 0)
noncomputable abbrev c103 := atC [.int .i64 0, .iface 38 (.int .i64 6)] ⟨spotV, none⟩
set_option maxRecDepth 100000 in
theorem q103 : SndG Tryz.prog gC 103 c103 := by
  refine sndG_at [] [] Tryz.func103 (by kernel_rfl) lite103 nt103 rs103 trivial trivial (Nat.le_of_ble_eq_true rfl) (fun hT F => ?_)
  have hM := hM0
  unfold L103
  refine Lwp.seq (Lwp.regI hT ?_)
  simp only [L103r0, go_sem, eq_self, Nat.reduceLT, decide_true]
  refine Lwp.seq (Lwp.regI hT ?_)
  simp only [L103r1, go_sem, eq_self, Nat.reduceAdd, Nat.reduceLT, Nat.reduceLeDiff, Nat.reduceEqDiff, reduceCtorEq, decide_true, ty3, ty30, ty212, ty214, fd214_0, fd214_1]
  refine Lwp.weaken (weak_frz (k := 4) (c := [.int .i64 0, .iface 38 (.int .i64 6)]) rfl (by simp only [go_sem, eq_self])) ?_
  simp only [go_sem, eq_self, frzEnv, frzMem, AV.frz, AV.frzL]
  refine Lwp.ret (post_val (v := spotV) ?_ ?_)
  · (simp only [go_sem, eq_self, Nat.reduceEqDiff, reduceCtorEq, spotV]; try rfl)
  · (simp only [go_sem, eq_self, spotV]; try rfl)
noncomputable abbrev c102 := atC [.agg [.nils], .int .i64 0, .int .i64 0, .int .i64 0] ⟨.tup [.agg tlvZ, .int .i64 0, spotV], none⟩
set_option maxRecDepth 100000 in
theorem q102 : SndG Tryz.prog gC 102 c102 := by
  refine sndG_at [(103, c103)] [] Tryz.func102 (by kernel_rfl) lite102 nt102 rs102 ⟨q103, trivial⟩ trivial (Nat.le_of_ble_eq_true rfl) (fun hT F => ?_)
  have hM := hM0
  unfold L102
  refine Lwp.seq (Lwp.regI hT ?_)
  simp only [L102r0, go_sem, eq_self, Nat.reduceAdd, Nat.reduceLT, reduceCtorEq, decide_true, ty128]
  refine Lwp.seq (Lwp.block ?_)
  refine Lwp.seq (Lwp.regI hT ?_)
  simp only [L102r1, go_sem, eq_self, Nat.reduceAdd, Nat.reduceLT, Nat.reduceEqDiff, Int.reduceGE, reduceCtorEq, decide_true, decide_false]
  refine Lwp.cond rfl (fun h => by cases h) (fun _ => ?_)
  refine Lwp.seq (Lwp.regI hT ?_)
  simp only [L102r3, go_sem, eq_self, Nat.reduceAdd, Nat.reduceLT, Nat.reduceEqDiff, Int.reduceGE, reduceCtorEq, decide_true]
  refine Lwp.cond rfl (fun _ => ?_) (fun h => by cases h)
  refine Lwp.seq (Lwp.regI hT ?_)
  simp only [L102r4, go_sem, eq_self, Nat.reduceAdd, Nat.reduceLT, Nat.reduceEqDiff, reduceCtorEq, decide_true, ty38, ty128, atC_eq]
  refine Lwp.ret (post_val (v := .tup [.agg tlvZ, .int .i64 0, spotV]) ?_ ?_)
  · (simp only [go_sem, eq_self, Nat.reduceEqDiff, reduceCtorEq, ty128, tlvZ, spotV]; try rfl)
  · (simp only [go_sem, eq_self, Nat.reduceEqDiff, reduceCtorEq, tlvZ, spotV]; try rfl)
noncomputable abbrev c62 := atC [.nils] ⟨.tup [.agg tlvZ, spotV], none⟩
set_option maxRecDepth 100000 in
theorem q62 : SndG Tryz.prog gC 62 c62 := by
  refine sndG_at [(102, c102)] [] Tryz.func62 (by kernel_rfl) lite62 nt62 rs62 ⟨q102, trivial⟩ trivial (Nat.le_of_ble_eq_true rfl) (fun hT F => ?_)
  have hM := hM0
  unfold L62
  refine Lwp.seq (Lwp.regI hT ?_)
  simp only [L62r0, go_sem, eq_self, Nat.reduceAdd, Nat.reduceLT, decide_true, ty128]
  refine Lwp.seq ?_
  refine Lwp.seq (Lwp.regI hT ?_)
  simp only [L62r1, go_sem, eq_self, Nat.reduceAdd, Nat.reduceLT, Nat.reduceEqDiff, Int.reduceGT, reduceCtorEq, decide_true, decide_false, ty57]
  refine Lwp.cond rfl (fun h => by cases h) (fun _ => ?_)
  refine Lwp.skip ?_
  simp only [go_sem]
  refine Lwp.seq (Lwp.regI hT ?_)
  simp only [L62r3, go_sem, eq_self, Nat.reduceAdd, Nat.reduceLT, Nat.reduceLeDiff, Nat.reduceEqDiff, reduceCtorEq, decide_true, Bool.false_eq_true, ty57, ty128, ty189, fd189_0, atC_eq, tlvZ, spotV]
  refine Lwp.seq (Lwp.block ?_)
  refine Lwp.seq (Lwp.regI hT ?_)
  simp only [L62r4, go_sem, eq_self, Nat.reduceAdd, Nat.reduceLT, Nat.reduceEqDiff, reduceCtorEq, decide_true, ty30]
  refine Lwp.cond rfl (fun _ => ?_) (fun h => by cases h)
  refine Lwp.seq (Lwp.regI hT ?_)
  simp only [L62r5, go_sem, eq_self, Nat.reduceAdd, Nat.reduceLT, Nat.reduceLeDiff, Nat.reduceEqDiff, reduceCtorEq, decide_true, ty128]
  refine Lwp.ret (post_val (v := .tup [.agg tlvZ, spotV]) ?_ ?_)
  · (simp only [go_sem, eq_self, Nat.reduceEqDiff, reduceCtorEq, ty128, tlvZ, spotV]; try rfl)
  · (simp only [go_sem, eq_self, tlvZ, spotV]; try rfl)
def packZ : List AV := [.nils, .nils, .nils, .int .u64 0, .int .u64 0, .int .u64 0, .int .u64 0, .int .u64 0, .int .u64 0, .int .u64 0, .int .u64 0, .int .u64 0, .int .u64 0, .int .u64 0, .int .u64 0, .int .i64 0, .int .i64 0, .int .i64 0, .int .i64 0, .nils, .nils, .nils, .nils]
def formE : AV := .iface 38 (.int .i64 7)
noncomputable abbrev c38 := atC [.nils] ⟨.tup [.agg packZ, formE], none⟩
set_option maxRecDepth 100000 in
theorem q38 : SndG Tryz.prog gC 38 c38 := by
  refine sndG_at [(62, c62)] [] Tryz.func38 (by kernel_rfl) lite38 nt38 rs38 ⟨q62, trivial⟩ trivial (Nat.le_of_ble_eq_true rfl) (fun hT F => ?_)
  have hM := hM0
  unfold L38
  refine Lwp.seq (Lwp.regI hT ?_)
  simp only [L38r0, go_sem, eq_self, Nat.reduceAdd, Nat.reduceLT, decide_true, ty90]
  refine Lwp.seq (Lwp.regI hT ?_)
  simp only [L38r1, go_sem, eq_self, Nat.reduceAdd, Nat.reduceLT, Nat.reduceLeDiff, Nat.reduceEqDiff, reduceCtorEq, decide_true, Bool.false_eq_true, ty128, atC_eq, tlvZ, spotV]
  refine Lwp.seq ?_
  refine Lwp.seq (Lwp.regI hT ?_)
  simp only [L38r2, go_sem, eq_self, Nat.reduceAdd, Nat.reduceLT, Nat.reduceEqDiff, Int.reduceNeg, reduceCtorEq, decide_true, ty30, ty126, ty128, fd128_4]
  refine Lwp.cond rfl (fun _ => ?_) (fun h => by cases h)
  refine Lwp.seq (Lwp.regI hT ?_)
  simp only [L38r3, go_sem, eq_self, Nat.reduceAdd, Nat.reduceLT, Nat.reduceLeDiff, Nat.reduceEqDiff, reduceCtorEq, decide_true, ty38, ty90]
  refine Lwp.ret (post_val (v := .tup [.agg packZ, formE]) ?_ ?_)
  · (simp only [go_sem, eq_self, Nat.reduceEqDiff, reduceCtorEq, ty90, packZ, formE]; try rfl)
  · (simp only [go_sem, eq_self, packZ, formE]; try rfl)
def romZ : List AV := [.nils, .int .u64 0, .int .u64 0, .int .u64 0, .int .u64 0, .int .u64 0, .int .u64 0, .int .u64 0, .int .u64 0, .int .u64 0, .int .u64 0, .int .u64 0, .int .u64 0, .bool false, .int .u64 0, .int .u64 0, .int .u64 0, .int .u64 0, .int .u64 0, .int .u64 0, .int .i64 0]
def manZ : List AV := [.int .i64 0, .int .i64 0, .int .i64 0, .int .i64 0, .nils, .nils, .nils]
noncomputable abbrev c21 := atC [.nils, .agg romZ, .int .i64 0, .int .i64 0, .int .i64 40] ⟨.tup [.agg manZ, .nils, formE], none⟩
set_option maxRecDepth 100000 in
theorem q21 : SndG Tryz.prog gC 21 c21 := by
  refine sndG_at [(38, c38)] [] Tryz.func21 (by kernel_rfl) lite21 nt21 rs21 ⟨q38, trivial⟩ trivial (Nat.le_of_ble_eq_true rfl) (fun hT F => ?_)
  have hM := hM0
  unfold L21
  refine Lwp.seq (Lwp.regI hT ?_)
  simp only [L21r0, go_sem, eq_self, Nat.reduceAdd, Nat.reduceLT, Nat.reduceEqDiff, reduceCtorEq, decide_true, ty67, romZ]
  refine Lwp.seq (Lwp.regI hT ?_)
  simp only [L21r1, go_sem, eq_self, Nat.reduceAdd, Nat.reduceLT, Nat.reduceLeDiff, Nat.reduceEqDiff, reduceCtorEq, decide_true, ty90, atC_eq, packZ, formE]
  refine Lwp.seq ?_
  refine Lwp.seq (Lwp.regI hT ?_)
  simp only [L21r2, go_sem, eq_self, Nat.reduceAdd, Nat.reduceLT, Nat.reduceEqDiff, reduceCtorEq, decide_true, ty30]
  refine Lwp.cond rfl (fun _ => ?_) (fun h => by cases h)
  refine Lwp.seq (Lwp.regI hT ?_)
  simp only [L21r3, go_sem, eq_self, Nat.reduceAdd, Nat.reduceLT, Nat.reduceLeDiff, Nat.reduceEqDiff, reduceCtorEq, decide_true, ty67]
  refine Lwp.ret (post_val (v := .tup [.agg manZ, .nils, formE]) ?_ ?_)
  · (simp only [go_sem, eq_self, Nat.reduceEqDiff, reduceCtorEq, ty67, manZ, formE]; try rfl)
  · (simp only [go_sem, eq_self, manZ, formE]; try rfl)
noncomputable abbrev c16n := atC [.nils] ⟨.nils, none⟩
set_option maxRecDepth 100000 in
theorem q16n : SndG Tryz.prog gC 16 c16n := by
  refine sndG_at [] [] Tryz.func16 (by kernel_rfl) lite16 nt16 rs16 trivial trivial (Nat.le_of_ble_eq_true rfl) (fun hT F => ?_)
  have hM := hM0
  unfold L16
  refine Lwp.seq (Lwp.regI hT ?_)
  simp only [L16r0, go_sem, eq_self, Nat.reduceLT, decide_true]
  refine Lwp.seq ?_
  refine Lwp.seq (Lwp.regI hT ?_)
  simp only [L16r1, go_sem, eq_self, Nat.reduceAdd, Nat.reduceLT, Nat.reduceEqDiff, reduceCtorEq, decide_true, ty57]
  refine Lwp.cond rfl (fun _ => ?_) (fun h => by cases h)
  refine Lwp.seq (Lwp.regI hT ?_)
  simp only [L16r2, go_sem, eq_self, Nat.reduceAdd, Nat.reduceLT, decide_true]
  refine Lwp.ret (post_val (v := .nils) ?_ ?_)
  · (simp only [go_sem, eq_self, Nat.reduceEqDiff, reduceCtorEq]; try rfl)
  · (simp only [go_sem, eq_self]; try rfl)
def z40 : List Int := List.replicate 40 0
noncomputable abbrev c16b := atC [.slc 40 (ints .u8 z40)] ⟨.osl 0 0 40 1, some (ints .u8 z40)⟩
set_option maxRecDepth 100000 in
theorem q16b : SndG Tryz.prog gC 16 c16b := by
  refine sndG_at [] [] Tryz.func16 (by kernel_rfl) lite16 nt16 rs16 trivial trivial (Nat.le_of_ble_eq_true rfl) (fun hT F => ?_)
  have hM := hM0
  unfold L16
  refine Lwp.seq (Lwp.regI hT ?_)
  simp only [L16r0, go_sem, eq_self, Nat.reduceLT, decide_true]
  refine Lwp.seq ?_
  refine Lwp.seq (Lwp.regI hT ?_)
  simp only [L16r1, go_sem, eq_self, Nat.reduceAdd, Nat.reduceLT, Nat.reduceEqDiff, reduceCtorEq, decide_true, ty57]
  refine Lwp.cond rfl (fun h => by cases h) (fun _ => ?_)
  refine Lwp.skip ?_
  simp only [go_sem]
  have zl : z40.length = 40 := rfl
  refine Lwp.seq (Lwp.regI hT ?_)
  simp only [L16r3, go_sem, eq_self, Nat.reduceAdd, Nat.reduceLT, Nat.reduceLeDiff, Nat.reduceEqDiff, Nat.reduceBEq, Nat.reduceBNe, reduceCtorEq, decide_true, Bool.false_eq_true, ty5, ty57, zl]
  refine Lwp.ret (post_blk (v := .osl 3 0 40 1) 3 ?_ ?_ ?_ ?_)
  · (simp only [go_sem, eq_self, Nat.reduceEqDiff, reduceCtorEq]; try rfl)
  · (simp only [go_sem, eq_self]; try rfl)
  · (simp only [go_sem, eq_self]; try rfl)
  · (simp only [go_sem, eq_self]; try rfl)
theorem tz0 : shrZ IntKind.u64 (IntKind.u64.wrap (andZ IntKind.u64 18446744073709551615 (IntKind.u64.wrap (-18446744073709551615)) * 285870213051353865)) 58 = 0 := by kernel_rfl
theorem deb_len : (ints .u8 deB).length = 64 := rfl
theorem deb_0 (v : AV) : (ints .u8 deB).getD 0 v = .int .u8 0 := rfl
noncomputable abbrev c36 := atC [.int .u64 18446744073709551615] ⟨.int .i64 0, none⟩
set_option maxRecDepth 100000 in
theorem q36 : SndG Tryz.prog gC 36 c36 := by
  refine sndG_at [] [] Tryz.func36 (by kernel_rfl) lite36 nt36 rs36 trivial trivial (Nat.le_of_ble_eq_true rfl) (fun hT F => ?_)
  have hM := hM0
  unfold L36
  refine Lwp.seq (Lwp.regI hT ?_)
  simp only [L36r0, go_sem, eq_self, Nat.reduceLT, decide_true]
  refine Lwp.seq ?_
  refine Lwp.seq (Lwp.regI hT ?_)
  simp only [L36r1, go_sem, eq_self, Nat.reduceAdd, Nat.reduceLT, Nat.reduceEqDiff, Int.reduceBEq, reduceCtorEq, decide_true]
  refine Lwp.cond rfl (fun h => by cases h) (fun _ => ?_)
  refine Lwp.skip ?_
  simp only [go_sem]
  refine Lwp.seq (Lwp.regI hT ?_)
  simp only [L36r3, go_sem, eq_self, Nat.reduceAdd, Nat.reduceLT, Nat.reduceLeDiff, Nat.reduceEqDiff, Int.reduceLT, Int.reduceLE, Int.reduceToNat, Int.reduceSub, Int.reduceNeg, reduceCtorEq, decide_true, Bool.false_eq_true, ty3, ty5, ty124, gC6, tz0, deb_len, deb_0]
  refine Lwp.ret (post_val (v := .int .i64 0) ?_ ?_)
  · (simp only [go_sem, eq_self, Nat.reduceEqDiff, Int.reduceNeg, reduceCtorEq]; try rfl)
  · (simp only [go_sem, eq_self]; try rfl)
noncomputable abbrev c37a := atC [.int .i64 0] ⟨.bool true, none⟩
set_option maxRecDepth 100000 in
theorem q37a : SndG Tryz.prog gC 37 c37a := by
  refine sndG_at [] [] Tryz.func37 (by kernel_rfl) lite37 nt37 rs37 trivial trivial (Nat.le_of_ble_eq_true rfl) (fun hT F => ?_)
  have hM := hM0
  unfold L37
  refine Lwp.seq (Lwp.regI hT ?_)
  simp only [L37r0, go_sem, eq_self, Nat.reduceLT, decide_true]
  refine Lwp.seq (Lwp.regI hT ?_)
  simp only [L37r1, go_sem, eq_self, Nat.reduceAdd, Nat.reduceLT, Nat.reduceEqDiff, reduceCtorEq, decide_true, ty3]
  refine Lwp.ret (post_val (v := .bool true) ?_ ?_)
  · (simp only [go_sem, eq_self, Nat.reduceEqDiff, reduceCtorEq]; try rfl)
  · (simp only [go_sem, eq_self]; try rfl)
noncomputable abbrev c37b := atC [.int .i64 1] ⟨.bool true, none⟩
set_option maxRecDepth 100000 in
theorem q37b : SndG Tryz.prog gC 37 c37b := by
  refine sndG_at [] [] Tryz.func37 (by kernel_rfl) lite37 nt37 rs37 trivial trivial (Nat.le_of_ble_eq_true rfl) (fun hT F => ?_)
  have hM := hM0
  unfold L37
  refine Lwp.seq (Lwp.regI hT ?_)
  simp only [L37r0, go_sem, eq_self, Nat.reduceLT, decide_true]
  refine Lwp.seq (Lwp.regI hT ?_)
  simp only [L37r1, go_sem, eq_self, Nat.reduceAdd, Nat.reduceLT, Nat.reduceEqDiff, Int.reduceBEq, reduceCtorEq, decide_true, Bool.false_eq_true]
  refine Lwp.ret (post_val (v := .bool true) ?_ ?_)
  · (simp only [go_sem, eq_self, Nat.reduceEqDiff, reduceCtorEq]; try rfl)
  · (simp only [go_sem, eq_self]; try rfl)
end Eng


namespace Eng
open Go Go.Proofs Go.RowKit Go.Extern.Stop Go.Stop Go.Extern

theorem as_vT (t : Addr) (w : World) : (ReflectliteValue.unpack (.iface 71 (.pointer (some t)))).run Tryz.prog w
    = .ok (.agg #[.pointer (some ⟨11, 71, none⟩), .pointer (some ⟨w.heap.size, 0, none⟩), .int .u64 150]) (w.alloc (.cells #[.pointer (some t)] 71)) := by kernel_rfl
theorem as_tT (a : Addr) (w : World) : (ReflectliteValue.methodAny (ReflectliteValue.valueError "reflectlite.Value.Type" 0) (fun t _ _ _ => ReflectliteType.toType t) #[.agg #[.pointer (some ⟨11, 71, none⟩), .pointer (some a), .int .u64 150]]).run Tryz.prog w
    = .ok (.iface 169 (.agg #[.pointer (some ⟨11, 71, none⟩)])) w := by kernel_rfl
theorem as_mK (h : Value) (w : World) : (Go.method 454 169 (.agg #[h]) "Kind").run Tryz.prog w = .ok (237, h) w := by kernel_rfl
theorem as_kT (w : World) : ((ReflectliteType.abiMethod fun t => (fun a : Nat => Value.int IntKind.u8 (a : Int)) <$> Rtype.kind t) #[.pointer (some ⟨11, 71, none⟩)]).run Tryz.prog w = .ok (.int .u8 22) w := by kernel_rfl
theorem as_kC (w : World) : ((ReflectliteType.abiMethod fun t => (fun a : Nat => Value.int IntKind.u8 (a : Int)) <$> Rtype.kind t) #[.pointer (some ⟨11, 38, none⟩)]).run Tryz.prog w = .ok (.int .u8 2) w := by kernel_rfl
theorem as_rlm (z : Sem Value) (f : TypeId → Addr → Nat → Nat → Sem Value) (v : Value) :
    ReflectliteValue.method z f #[v] = (do match ← ReflectliteValue.parts v with | none => z | some (t, a, fl) => f t a fl (fl % 32)) := rfl
theorem as_pT (a : Addr) (w : World) : (ReflectliteValue.parts (.agg #[.pointer (some ⟨11, 71, none⟩), .pointer (some a), .int .u64 150])).run Tryz.prog w = .ok (some (71, a, 150)) w := by kernel_rfl
theorem as_nilT (a p : Addr) (W : World) (ha : W.cell? a = some (.pointer (some p))) :
    (ReflectliteValue.method (ReflectliteValue.valueError "reflectlite.Value.IsNil" 0) ReflectliteValue.isNil #[.agg #[.pointer (some ⟨11, 71, none⟩), .pointer (some a), .int .u64 150]]).run Tryz.prog W = .ok (.bool false) W := by
  rw [as_rlm]
  simp only [Sem.run_bind, as_pT, Result.andThen]
  simp [ReflectliteValue.isNil, loadVar, isAgg, underlying, Tryz.underlying71, ha, Result.andThen]
theorem as_mE (h : Value) (w : World) : (Go.method 454 169 (.agg #[h]) "Elem").run Tryz.prog w = .ok (248, .agg #[h]) w := by kernel_rfl
theorem as_mI (h : Value) (w : World) : (Go.method 454 169 (.agg #[h]) "Implements").run Tryz.prog w = .ok (249, .agg #[h]) w := by kernel_rfl
theorem as_mA (h : Value) (w : World) : (Go.method 454 169 (.agg #[h]) "AssignableTo").run Tryz.prog w = .ok (246, .agg #[h]) w := by kernel_rfl
theorem as_eT (w : World) : (ReflectliteType.method ReflectliteType.elem #[.agg #[.pointer (some ⟨11, 71, none⟩)]]).run Tryz.prog w = .ok (.iface 169 (.agg #[.pointer (some ⟨11, 38, none⟩)])) w := by kernel_rfl
theorem as_iC (w : World) : (ReflectliteType.relation "Implements" ReflectliteType.implements_ #[.agg #[.pointer (some ⟨11, 38, none⟩)], .iface 169 (.agg #[.pointer (some ⟨11, 30, none⟩)])]).run Tryz.prog w = .ok (.bool true) w := by kernel_rfl
theorem as_tO (v : Value) (w : World) : (ReflectliteType.typeOf #[.iface 38 v]).run Tryz.prog w = .ok (.iface 169 (.agg #[.pointer (some ⟨11, 38, none⟩)])) w := by kernel_rfl
theorem as_aC (w : World) : (ReflectliteType.relation "AssignableTo" ReflectliteType.assignableTo #[.agg #[.pointer (some ⟨11, 38, none⟩)], .iface 169 (.agg #[.pointer (some ⟨11, 38, none⟩)])]).run Tryz.prog w = .ok (.bool true) w := by kernel_rfl
theorem as_vC (k : Int) (w : World) : (ReflectliteValue.unpack (.iface 38 (.int .i64 k))).run Tryz.prog w
    = .ok (.agg #[.pointer (some ⟨11, 38, none⟩), .pointer (some ⟨w.heap.size, 0, none⟩), .int .u64 130]) (w.alloc (.cells #[.int .i64 k] 38)) := by kernel_rfl
theorem as_oT (w : World) : (Rtype.elem? 71).run Tryz.prog w = .ok (some 38) w := by kernel_rfl
theorem as_mkC (p : Addr) (w : World) : (ReflectliteValue.mk 38 p ReflectliteValue.flagAddr).run Tryz.prog w = .ok (.agg #[.pointer (some ⟨11, 38, none⟩), .pointer (some p), .int .u64 386]) w := by kernel_rfl
theorem as_elT (a p : Addr) (W : World) (ha : W.cell? a = some (.pointer (some p))) :
    (ReflectliteValue.method (ReflectliteValue.valueError "reflectlite.Value.Elem" 0) ReflectliteValue.elem #[.agg #[.pointer (some ⟨11, 71, none⟩), .pointer (some a), .int .u64 150]]).run Tryz.prog W
      = .ok (.agg #[.pointer (some ⟨11, 38, none⟩), .pointer (some p), .int .u64 386]) W := by
  rw [as_rlm]
  simp only [Sem.run_bind, as_pT, Result.andThen]
  simp [ReflectliteValue.elem, loadVar, isAgg, underlying, Tryz.underlying71, ha, Result.andThen, as_oT, as_mkC]
theorem as_rls (v x : Value) : ReflectliteValue.set #[v, x] = (do
    let (some (dst, a, fl), some (src, b, _)) := (← ReflectliteValue.parts v, ← ReflectliteValue.parts x)
      | unsupported (.noEntry "extern/(internal/reflectlite.Value).Set.zeroValue")
    if fl / ReflectliteValue.flagAddr % 2 == 0 then unsupported (.noEntry "extern/(internal/reflectlite.Value).Set.unaddressable")
    let val ← loadVar src b
    if ← Rtype.directlyAssignable dst src then storeVar dst a val
    else if ← Rtype.implements dst src then
      if (← Rtype.kind src) == 20 then
        match val with
        | .nilIface => unsupported (.noEntry "extern/reflectlite: a nil value of one interface type handed on as a value of another")
        | _ => storeVar dst a val
      else storeVar dst a (.iface src val)
    else panicString ("reflectlite.Set: value of type " ++ (← Rtype.spelt src) ++ " is not assignable to type " ++ (← Rtype.spelt dst))
    pure (.tuple #[])) := rfl
theorem as_pCa (a : Addr) (w : World) : (ReflectliteValue.parts (.agg #[.pointer (some ⟨11, 38, none⟩), .pointer (some a), .int .u64 386])).run Tryz.prog w = .ok (some (38, a, 386)) w := by kernel_rfl
theorem as_pC (a : Addr) (w : World) : (ReflectliteValue.parts (.agg #[.pointer (some ⟨11, 38, none⟩), .pointer (some a), .int .u64 130])).run Tryz.prog w = .ok (some (38, a, 130)) w := by kernel_rfl
theorem as_dC (w : World) : (Rtype.directlyAssignable 38 38).run Tryz.prog w = .ok true w := by kernel_rfl
theorem as_set (ta b : Addr) (k : Int) (old : Value) (W : World) (hb : W.cell? b = some (.int .i64 k)) (ht : W.cell? ta = some old) (hf : W.frozen? ta = false) :
    (ReflectliteValue.set #[.agg #[.pointer (some ⟨11, 38, none⟩), .pointer (some ta), .int .u64 386], .agg #[.pointer (some ⟨11, 38, none⟩), .pointer (some b), .int .u64 130]]).run Tryz.prog W
      = .ok (.tuple #[]) (W.setCell ta (.int .i64 k)) := by
  rw [as_rls]
  simp only [Sem.run_bind, as_pCa, as_pC, Result.andThen]
  simp [ReflectliteValue.flagAddr, loadVar, isAgg, underlying, Tryz.underlying38, hb, Result.andThen, as_dC, storeVar, Value.cells, storeCells, Addr.add]
  rw [run_store Tryz.prog W ta _ _ (by rfl)]
  simp [ht, hf]

set_option maxHeartbeats 4000000 in
theorem as_code (k : Int) (t : Addr) (old : Value) (w : World) (hg : w.cell? ⟨3, 0, none⟩ = some (.iface 169 (.agg #[.pointer (some ⟨11, 30, none⟩)]))) (ht0 : w.cell? t = some old) (hf0 : w.frozen? t = false) :
    Calls Tryz.prog 22 #[.iface 38 (.int .i64 k), .iface 71 (.pointer (some t))] w fun ev w' => ev = .returned (.bool true) ∧ w' = ((((w.alloc (.cells #[.pointer (some t)] 71)).alloc (.cells #[.pointer (some ⟨11, 71, none⟩), .pointer (some ⟨w.heap.size, 0, none⟩), .int .u64 150] 107)).alloc (.cells #[.pointer (some ⟨11, 71, none⟩), .pointer (some ⟨w.heap.size, 0, none⟩), .int .u64 150] 107)).alloc (.cells #[.int .i64 k] 38)).setCell t (.int .i64 k) := by
  have h6 := @run_callFunc_extern Tryz.prog 46 _ (fun args => ReflectliteValue.unpack (args.getD 0 (.tuple #[]))) Tryz.func46 (by kernel_rfl) (by kernel_rfl) (by kernel_rfl) (by kernel_rfl)
  have h7 := @run_callFunc_extern Tryz.prog 47 _ (ReflectliteValue.methodAny (ReflectliteValue.valueError "reflectlite.Value.Type" 0) (fun t _ _ _ => ReflectliteType.toType t)) Tryz.func47 (by kernel_rfl) (by kernel_rfl) (by kernel_rfl) (by kernel_rfl)
  have h8 := @run_callFunc_extern Tryz.prog 48 _ (ReflectliteValue.method (ReflectliteValue.valueError "reflectlite.Value.IsNil" 0) ReflectliteValue.isNil) Tryz.func48 (by kernel_rfl) (by kernel_rfl) (by kernel_rfl) (by kernel_rfl)
  have h27 := @run_callFunc_extern Tryz.prog 237 _ (ReflectliteType.abiMethod fun t => do pure (.int .u8 (← Rtype.kind t))) Tryz.func237 (by kernel_rfl) (by kernel_rfl) (by kernel_rfl) (by kernel_rfl)
  have h37 := @run_callFunc_extern Tryz.prog 248 _ (ReflectliteType.method ReflectliteType.elem) Tryz.func248 (by kernel_rfl) (by kernel_rfl) (by kernel_rfl) (by kernel_rfl)
  have h38 := @run_callFunc_extern Tryz.prog 249 _ (ReflectliteType.relation "Implements" ReflectliteType.implements_) Tryz.func249 (by kernel_rfl) (by kernel_rfl) (by kernel_rfl) (by kernel_rfl)
  have h10 := @run_callFunc_extern Tryz.prog 92 _ ReflectliteType.typeOf Tryz.func92 (by kernel_rfl) (by kernel_rfl) (by kernel_rfl) (by kernel_rfl)
  have h35 := @run_callFunc_extern Tryz.prog 246 _ (ReflectliteType.relation "AssignableTo" ReflectliteType.assignableTo) Tryz.func246 (by kernel_rfl) (by kernel_rfl) (by kernel_rfl) (by kernel_rfl)
  have h11 := @run_callFunc_extern Tryz.prog 93 _ (ReflectliteValue.method (ReflectliteValue.valueError "reflectlite.Value.Elem" 0) ReflectliteValue.elem) Tryz.func93 (by kernel_rfl) (by kernel_rfl) (by kernel_rfl) (by kernel_rfl)
  have h12 := @run_callFunc_extern Tryz.prog 94 _ ReflectliteValue.set Tryz.func94 (by kernel_rfl) (by kernel_rfl) (by kernel_rfl) (by kernel_rfl)
  have tO := as_tO
  have mA := as_mA
  have a25 := as_aC
  have v25 := as_vC
  have f6 := as_vT
  have f7 := as_tT
  have mK := as_mK
  have mE := as_mE
  have mI := as_mI
  have k27 := as_kT
  have k25 := as_kC
  have e27 := as_eT
  have i25 := as_iC
  have n8 := as_nilT ⟨w.heap.size, 0, none⟩ t ((w.alloc (.cells #[.pointer (some t)] 71)).alloc (.cells #[.pointer (some ⟨11, 71, none⟩), .pointer (some ⟨w.heap.size, 0, none⟩), .int .u64 150] 107)) (by simp)
  have hlt : 3 < w.heap.size := by
    rcases Nat.lt_or_ge 3 w.heap.size with h | h
    · exact h
    · simp [World.cell?, Array.getElem?_eq_none h] at hg
  have hg2 : ((w.alloc (.cells #[.pointer (some t)] 71)).alloc (.cells #[.pointer (some ⟨11, 71, none⟩), .pointer (some ⟨w.heap.size, 0, none⟩), .int .u64 150] 107)).cell? ⟨3, 0, none⟩ = some (.iface 169 (.agg #[.pointer (some ⟨11, 30, none⟩)])) := by
    rw [World.cell?_alloc_lt _ _ ⟨3, 0, none⟩ (by simp; omega), World.cell?_alloc_lt _ _ ⟨3, 0, none⟩ hlt]; exact hg
  have htl : t.block < w.heap.size := by
    rcases Nat.lt_or_ge t.block w.heap.size with h | h
    · exact h
    · simp [World.cell?, Array.getElem?_eq_none h] at ht0
  have el := as_elT ⟨w.heap.size, 0, none⟩ t (((w.alloc (.cells #[.pointer (some t)] 71)).alloc (.cells #[.pointer (some ⟨11, 71, none⟩), .pointer (some ⟨w.heap.size, 0, none⟩), .int .u64 150] 107)).alloc (.cells #[.pointer (some ⟨11, 71, none⟩), .pointer (some ⟨w.heap.size, 0, none⟩), .int .u64 150] 107)) (by rw [World.cell?_alloc_lt _ _ ⟨w.heap.size, 0, none⟩ (by simp; omega)]; simp)
  have st := as_set t ⟨w.heap.size + 1 + 1 + 1, 0, none⟩ k old ((((w.alloc (.cells #[.pointer (some t)] 71)).alloc (.cells #[.pointer (some ⟨11, 71, none⟩), .pointer (some ⟨w.heap.size, 0, none⟩), .int .u64 150] 107)).alloc (.cells #[.pointer (some ⟨11, 71, none⟩), .pointer (some ⟨w.heap.size, 0, none⟩), .int .u64 150] 107)).alloc (.cells #[.int .i64 k] 38))
    (by rw [World.cell?_alloc_at _ _ _ _ (by simp)]; rfl)
    (by rw [World.cell?_alloc_lt _ _ t (by simp; omega), World.cell?_alloc_lt _ _ t (by simp; omega), World.cell?_alloc_lt _ _ t (by simp; omega), World.cell?_alloc_lt _ _ t htl]; exact ht0)
    (by rw [World.frozen?_alloc_old _ _ t (by simp; omega), World.frozen?_alloc_old _ _ t (by simp; omega), World.frozen?_alloc_old _ _ t (by simp; omega), World.frozen?_alloc_old _ _ t (Nat.ne_of_lt htl)]; exact hf0)
  go_enter Tryz.func22, Tryz.ntmps22
  go_wp2
  refine wp_loop_rounds 1 ?_
  rw [rounds_succ]
  go_wp2
  go_ret
  exact ⟨rfl, rfl⟩
end Eng

