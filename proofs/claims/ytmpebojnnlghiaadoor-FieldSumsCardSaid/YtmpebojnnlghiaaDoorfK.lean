/- Contracts of the program's functions, and laws over them. There is no further condition. -/
import Derived.Test.YtmpebojnnlghiaaDoorfF1
import Derived.Test.YtmpebojnnlghiaaDoorJf
import Derived.Test.YtmpebojnnlghiaaDoorRows
import Derived.LaidMore
import Derived.OpenShut
import Derived.Stop.Joined
set_option linter.unusedVariables false
set_option linter.unusedSimpArgs false
set_option exponentiation.threshold 2000
namespace Eng
open Go Go.Proofs Go.Proofs.YtmpebojnnlghiaaDoor Go.ChangeShapes Go.WideShapes Go.ChangeAt Go.RowKit

theorem own' : ownKnob Tryd.prog.godebug = none := by kernel_rfl
theorem gPrime : Tryd.prog.globalNamed "escutcheon/field.prime" = some 0 := by kernel_rfl
theorem tPrime : (Tryd.prog.globals[0]?).map (·.type) = some 52 := by kernel_rfl
theorem gGroup : Tryd.prog.globalNamed "escutcheon/order.group" = some 1 := by kernel_rfl
theorem tGroup : (Tryd.prog.globals[1]?).map (·.type) = some 52 := by kernel_rfl
theorem c52 : Tryd.prog.cellsOf 52 = 13 := by kernel_rfl
theorem c24 : Tryd.prog.cellsOf 24 = 6 := by kernel_rfl
theorem c22 : Tryd.prog.cellsOf 22 = 1 := by kernel_rfl

theorem prime_glob {W : World} (h : laidMetH Tryd.prog [("escutcheon/field.prime", Rows.laid_escutcheon_field_prime)] W) : GlobOk (fun g => find pG g) W := by
  rw [MakeChecks.laidMetH_plain _ _ _ (by kernel_rfl)] at h
  obtain ⟨ps, ⟨g0, t0, cs0, f0, p0, q0, hg0, ht0, hv0, hd0, _, _⟩, _, _⟩ := h
  obtain rfl := Option.some.inj (gPrime.symm.trans hg0)
  obtain rfl := Option.some.inj (tPrime.symm.trans ht0)
  have hc := mod_trod Tryd.underlying52 rfl rfl rfl rfl rfl rfl Tryd.underlying24 Tryd.underlying22 c24 c22 c52 (ds0 := _) (d1 := _) (ds2 := _) hd0
  have hc2 : cs0.toList = pD.map (Value.int .u64) := by rw [hc, pD_eq, pL_eq, p_mod]; rfl
  intro g c hgc
  unfold pG at hgc
  simp only [find] at hgc
  split at hgc
  · rename_i e; subst e; cases hgc
    exact glob_one gPrime hv0 hc2 (by rw [pD_len]; decide)
  · cases hgc
theorem group_glob {W : World} (h : laidMetH Tryd.prog [("escutcheon/order.group", Rows.laid_escutcheon_order_group)] W) : GlobOk (fun g => find nG g) W := by
  rw [MakeChecks.laidMetH_plain _ _ _ (by kernel_rfl)] at h
  obtain ⟨ps, ⟨g0, t0, cs0, f0, p0, q0, hg0, ht0, hv0, hd0, _, _⟩, _, _⟩ := h
  obtain rfl := Option.some.inj (gGroup.symm.trans hg0)
  obtain rfl := Option.some.inj (tGroup.symm.trans ht0)
  have hc := mod_trod Tryd.underlying52 rfl rfl rfl rfl rfl rfl Tryd.underlying24 Tryd.underlying22 c24 c22 c52 (ds0 := _) (d1 := _) (ds2 := _) hd0
  have hc2 : cs0.toList = nD.map (Value.int .u64) := by rw [hc, nD_eq, nL_eq, n_mod]; rfl
  intro g c hgc
  unfold nG at hgc
  simp only [find] at hgc
  split at hgc
  · rename_i e; subst e; cases hgc
    exact glob_one gGroup hv0 hc2 (by rw [nD_len]; decide)
  · cases hgc
theorem prime_met (os : Os) (args : Array Value) : laidMetH Tryd.prog [("escutcheon/field.prime", Rows.laid_escutcheon_field_prime)] ((World.doorLaid Tryd.prog 23 os).forCall (fun _ _ => 0) ⟨#[], args, []⟩).memory :=
  laidMetH_of_parts3 (fuel := 8) (laidMet_of_run' 8 (by kernel_rfl) (by kernel_rfl)) (by kernel_rfl) (by kernel_rfl)
theorem group_met (os : Os) (args : Array Value) : laidMetH Tryd.prog [("escutcheon/order.group", Rows.laid_escutcheon_order_group)] ((World.doorLaid Tryd.prog 23 os).forCall (fun _ _ => 0) ⟨#[], args, []⟩).memory :=
  laidMetH_of_parts3 (fuel := 8) (laidMet_of_run' 8 (by kernel_rfl) (by kernel_rfl)) (by kernel_rfl) (by kernel_rfl)
end Eng
