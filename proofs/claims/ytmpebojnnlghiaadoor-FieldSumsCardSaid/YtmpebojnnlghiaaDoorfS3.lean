/- Contracts of the program's functions, and laws over them. There is no further condition. -/
import Derived.Test.YtmpebojnnlghiaaDoorfS2
set_option linter.unusedVariables false
set_option linter.unusedSimpArgs false
set_option exponentiation.threshold 2000
-- ALIAS: Tryd
namespace Eng
open Go Go.Proofs
set_option linter.unusedSimpArgs false

theorem bitZ_run' {a : List Int} {i : Int} (h : U6 a) (h0 : i ≥ 0) (h1 : i < 384) : (shrZ .u64 (a.getD (i / 64).toNat 0) (i % 64)).tmod 2 = bitZ a i := by
  obtain ⟨b0, b1⟩ := h.at (i / 64).toNat
  have hm : min (i % 64).toNat 64 = i.toNat % 64 := by omega
  have hd : (i / 64).toNat = i.toNat / 64 := by omega
  obtain ⟨s0, s1, s2⟩ := shr_bound b0 b1 (i.toNat % 64)
  rw [shrZ_u64, hm, s0, Int.tmod_eq_emod_of_nonneg s1, bitZ, if_pos ⟨h0, h1⟩, hd]

end Eng
