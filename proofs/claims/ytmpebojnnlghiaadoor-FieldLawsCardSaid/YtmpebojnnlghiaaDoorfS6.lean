/- Contracts of the program's functions, and laws over them. There is no further condition. -/
import Derived.Test.YtmpebojnnlghiaaDoorfS5
import Derived.Test.YtmpebojnnlghiaaDoorGA
set_option linter.unusedVariables false
set_option linter.unusedSimpArgs false
set_option exponentiation.threshold 2000
-- ALIAS: Tryd
namespace Eng
open Go Go.Proofs
set_option linter.unusedSimpArgs false
-- TY: ty3, ty22, ty24, eq24


theorem maskZ_even {n : Int} (h0 : 0 ≤ n) (h1 : n < 18446744073709551616) (h : n % 2 = 0) : maskZ n = 0 := by
  rw [maskZ, andZ_one h0 h1, h]; rfl
theorem maskZ_odd {n : Int} (h0 : 0 ≤ n) (h1 : n < 18446744073709551616) (h : n % 2 = 1) : maskZ n = 18446744073709551615 := by
  rw [maskZ, andZ_one h0 h1, h]; rfl
theorem pickZ_even {n : Int} {a b : List Int} {j : Nat} (h : maskZ n = 0) (ha : U6 a) : pickZ n a b j = a.getD j 0 := by
  have hx := ha.at j
  rw [pickZ, h]
  simp only [orZ_u64, andZ_u64, andNotZ_u64, ofInt_bv]
  rw [show BitVec.ofInt 64 0 = 0#64 from rfl]
  simp only [BitVec.and_zero, BitVec.or_zero, BitVec.not_zero, BitVec.and_allOnes]
  exact bv_ofInt hx.1 hx.2
theorem pickZ_odd {n : Int} {a b : List Int} {j : Nat} (h : maskZ n = 18446744073709551615) (hb : U6 b) : pickZ n a b j = b.getD j 0 := by
  have hx := hb.at j
  rw [pickZ, h]
  simp only [orZ_u64, andZ_u64, andNotZ_u64, ofInt_bv]
  rw [show BitVec.ofInt 64 18446744073709551615 = BitVec.allOnes 64 from rfl]
  simp only [BitVec.not_allOnes, BitVec.and_zero, BitVec.zero_or, BitVec.and_allOnes]
  exact bv_ofInt hx.1 hx.2
theorem tab_self {n : Nat} {a : List Int} (h : a.length = n) {f : Nat → Int} (hf : ∀ j, f j = a.getD j 0) : tab n f = a := (eq_tab h fun i _ => (hf i).symm).symm
theorem pick_eq {n : Int} {a b : List Int} (h0 : 0 ≤ n) (h1 : n < 18446744073709551616) (ha : U6 a) (hb : U6 b) : tab 6 (pickZ n a b) = if n % 2 = 1 then b else a := by
  split
  · rename_i h; exact tab_self hb.1 fun j => pickZ_odd (maskZ_odd h0 h1 h) hb
  · rename_i h; exact tab_self ha.1 fun j => pickZ_even (maskZ_even h0 h1 (by omega)) ha

end Eng
