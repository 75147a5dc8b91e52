/- Contracts of the program's functions, and laws over them. There is no further condition. -/
import Derived.Test.YtmpebojnnlghiaaDoorfS22
set_option linter.unusedVariables false
set_option linter.unusedSimpArgs false
set_option exponentiation.threshold 2000
-- ALIAS: Tryd
namespace Eng
open Go Go.Proofs
set_option linter.unusedSimpArgs false
set_option linter.unusedVariables false
-- TY: ty3, ty4, ty5, ty9, ty22, ty24, ty38, ty39, ty40, ty43, ty27, ty28, ty74, ty75, ty52, ty59, eq24, eq75
-- XN: 74=subX 75=addX

/-- A modulus with what is reckoned of it once. -/
def modL (m : List Int) : List Int := m ++ ((negInv (m.getD 0 0).toNat : Nat) : Int) :: lim6 (18446744073709551616 ^ 6 * 18446744073709551616 ^ 6 % v64 m)
def ModL (d : List Int) : Prop := ∃ m, GoodM m ∧ d = modL m
theorem modL_len {m : List Int} (h : U6 m) : (modL m).length = 13 := by simp [modL, h.1, lim6_len]
theorem modL_take {m : List Int} (h : U6 m) : (modL m).take 6 = m := by rw [modL, List.take_left' h.1]
theorem modL_at {m : List Int} (h : U6 m) {j : Nat} (hj : j < 6) : (modL m).getD j 0 = m.getD j 0 := by
  simp [modL, List.getD_eq_getElem?_getD, List.getElem?_append_left (show j < m.length by rw [h.1]; exact hj)]
theorem modL_inv {m : List Int} (h : U6 m) : (modL m).getD 6 0 = ((negInv (m.getD 0 0).toNat : Nat) : Int) := by
  simp [modL, List.getD_eq_getElem?_getD, List.getElem?_append_right (show m.length ≤ 6 by rw [h.1]; exact Nat.le_refl 6), h.1]
theorem modL_two {m : List Int} (h : U6 m) : ((modL m).drop 7).take 6 = lim6 (18446744073709551616 ^ 6 * 18446744073709551616 ^ 6 % v64 m) := by
  have e : (modL m).drop 7 = lim6 (18446744073709551616 ^ 6 * 18446744073709551616 ^ 6 % v64 m) := by
    have : modL m = (m ++ [((negInv (m.getD 0 0).toNat : Nat) : Int)]) ++ lim6 (18446744073709551616 ^ 6 * 18446744073709551616 ^ 6 % v64 m) := by simp [modL]
    rw [this, List.drop_left' (by simp [h.1])]
  rw [e]; exact List.take_of_length_le (by rw [lim6_len]; exact Nat.le_refl 6)
theorem good_inv {m : List Int} (h : GoodM m) : (v64 m * negInv (m.getD 0 0).toNat + 1) % 18446744073709551616 = 0 := by
  have hg := v64_getD h.1.2 0
  rw [Nat.pow_zero, Nat.div_one] at hg
  rw [hg, Int.toNat_natCast]
  have hodd : (v64 m % 18446744073709551616) % 2 = 1 := by have := h.2.1; omega
  have := negInv_mul hodd
  rw [Nat.add_mod, Nat.mod_mul_mod] at this
  rw [Nat.add_mod]; exact this
theorem mod_build (inv : Int) {m two : List Int} (hm : m.length = 6) (ht : two.length = 6) : setAt ((setAt (ints .u64 (List.replicate 13 0)) 0 (ints .u64 m)).set 6 (.int .u64 inv)) 7 (ints .u64 two) = ints .u64 (m ++ inv :: two) := by
  rw [ints_setAt .u64 _ 0 m (by simp; omega), ints_set, ints_setAt .u64 _ 7 two (by simp; omega)]
  congr 1
  match m, hm with
  | [a, b, c, d, e, f], _ => match two, ht with
    | [g, h, i, j, k, l], _ => rfl

noncomputable def newV (m : List Int) : AV := open Classical in if GoodM m then .tup [.agg (ints .u64 (modL m)), .nili] else .tup [.agg (ints .u64 (List.replicate 13 0)), .iface 43 (.int .i64 1)]
theorem twice_pow {R M k : Nat} : (R * 2 ^ k % M + R * 2 ^ k % M) % M = R * 2 ^ (k + 1) % M := by
  rw [← Nat.add_mod, Nat.pow_succ, ← Nat.mul_assoc, Nat.mul_two]

end Eng
