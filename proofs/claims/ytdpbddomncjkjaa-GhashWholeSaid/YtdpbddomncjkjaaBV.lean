/- Contracts of the program's functions, and laws over them. There is no further condition. -/
import Derived.Test.YtdpbddomncjkjaaEngW
set_option linter.unusedVariables false
set_option linter.unusedSimpArgs false
set_option exponentiation.threshold 2000
namespace Eng
open Go
/- Bytes as bit vectors. -/
theorem w8_nat (v : BitVec 8) : IntKind.u8.wrap (v.toNat : Int) = (v.toNat : Int) := wrap_u8 (by omega) (by have := v.isLt; omega)
theorem ofInt8_toNat {x : Int} (h0 : 0 ≤ x) (h1 : x < 256) : (BitVec.ofInt 8 x).toNat = x.toNat := ofInt_toNat h0 (by omega)
theorem ofInt8_bv (v : BitVec 8) : BitVec.ofInt 8 (v.toNat : Int) = v := by
  apply BitVec.eq_of_toNat_eq
  rw [ofInt8_toNat (by omega) (by have := v.isLt; omega)]; simp
theorem bv8_ofInt {x : Int} (h0 : 0 ≤ x) (h1 : x < 256) : ((BitVec.ofInt 8 x).toNat : Int) = x := by
  rw [ofInt8_toNat h0 h1]; omega
theorem andZ_u8 (a b : Int) : andZ .u8 a b = ((BitVec.ofInt 8 a &&& BitVec.ofInt 8 b).toNat : Int) := w8_nat _
theorem orZ_u8 (a b : Int) : orZ .u8 a b = ((BitVec.ofInt 8 a ||| BitVec.ofInt 8 b).toNat : Int) := w8_nat _
theorem xorZ_u8 (a b : Int) : xorZ .u8 a b = ((BitVec.ofInt 8 a ^^^ BitVec.ofInt 8 b).toNat : Int) := w8_nat _
theorem xorZ_u8_bv (a b : BitVec 8) : xorZ .u8 (a.toNat : Int) (b.toNat : Int) = ((a ^^^ b).toNat : Int) := by rw [xorZ_u8, ofInt8_bv, ofInt8_bv]
theorem andZ_u8_bv (a b : BitVec 8) : andZ .u8 (a.toNat : Int) (b.toNat : Int) = ((a &&& b).toNat : Int) := by rw [andZ_u8, ofInt8_bv, ofInt8_bv]
theorem negZ_u8_bv (a : BitVec 8) : IntKind.u8.wrap (0 - (a.toNat : Int)) = ((-a).toNat : Int) := by
  rw [wrap_u8_mod, BitVec.toNat_neg]
  have := a.isLt
  omega
theorem shlZ_u8_bv (a : BitVec 8) (n : Nat) (hn : n < 8) : shlZ .u8 (a.toNat : Int) (n : Int) = ((a <<< n).toNat : Int) := by
  have h : shlZ .u8 (a.toNat : Int) (n : Int) = IntKind.u8.wrap ((a.toNat : Int) * 2 ^ (min (n : Int).toNat 8)) := rfl
  rw [h, wrap_u8_mod, BitVec.toNat_shiftLeft, Nat.shiftLeft_eq, Int.toNat_natCast, Nat.min_eq_left (by omega), Int.natCast_emod, Int.natCast_mul, Int.natCast_pow]
  rfl
theorem shrZ_u8_bv (a : BitVec 8) (n : Nat) (hn : n < 8) : shrZ .u8 (a.toNat : Int) (n : Int) = ((a >>> n).toNat : Int) := by
  have h : shrZ .u8 (a.toNat : Int) (n : Int) = (a.toNat : Int).fdiv (2 ^ (min (n : Int).toNat 8)) := rfl
  rw [h, BitVec.toNat_ushiftRight, Nat.shiftRight_eq_div_pow, Int.toNat_natCast, Nat.min_eq_left (by omega), Int.fdiv_eq_ediv_of_nonneg _ (by exact Int.le_of_lt (Int.pow_pos (by decide))), Int.natCast_ediv, Int.natCast_pow]
  rfl
end Eng
