/- Contracts of the program's functions, and laws over them. There is no further condition. -/
import Derived.Test.YtmlehjafpofkoaaGreatDoorU5tq
import Derived.Test.YtmlehjafpofkoaaGreatDoorRows
import Derived.Test.YtmlehjafpofkoaaGreatDoorTie
import Derived.Test.YtmlehjafpofkoaaGreatDoorCards
import Derived.SevenTiedAt
import Derived.LaidMore
import Derived.OpenShut
import Derived.Stop.Joined
set_option linter.unusedVariables false
set_option linter.unusedSimpArgs false
set_option linter.unusedSectionVars false
set_option exponentiation.threshold 2000
namespace Go.Proofs.YtmlehjafpofkoaaGreatDoor
open Go Go.Proofs Eng Go.ChangeShapes Go.WideShapes Go.ChangeAt Go.RowKit

set_option maxRecDepth 100000 in
theorem topQuiet_lifted (os : Os) (started : os.Started) (H : Type) (enc : TypeId × Value → H) :
    ReturnsInHanded {} Tryz.checked os 3 .any (fun w args => (Rows.topQuietSpec.pre enc Tryz.prog Tryz.f3 [] false w args ∧ laidMetH Tryz.prog [("math/bits.deBruijn64tab", Rows.laid_math_bits_deBruijn64tab), ("errors.errorType", Rows.laid_errors_errorType), ("escutcheon/field.prime", Rows.laid_escutcheon_field_prime), ("escutcheon/order.group", Rows.laid_escutcheon_order_group), ("escutcheon/proj.prime", Rows.laid_escutcheon_proj_prime), ("escutcheon/proj.curveB", Rows.laid_escutcheon_proj_curveB), ("escutcheon/proj.one", Rows.laid_escutcheon_proj_one), ("escutcheon/curve.base", Rows.laid_escutcheon_curve_base), ("escutcheon/sha.first", Rows.laid_escutcheon_sha_first), ("escutcheon/sha.rest", Rows.laid_escutcheon_sha_rest), ("escutcheon/sha.begin", Rows.laid_escutcheon_sha_begin)] w) ∧ sizedMet enc Tryz.prog Tryz.f3 (OpenSpec.ofChange Rows.topQuietSpec) false w args)
      (Rows.topQuietSpec.post enc Tryz.prog Tryz.f3 false true false false) := by
  refine returnsInHanded_of_change_and (C := Tryz.checked) (X := fun w _ => laidMetH Tryz.prog [("math/bits.deBruijn64tab", Rows.laid_math_bits_deBruijn64tab), ("errors.errorType", Rows.laid_errors_errorType), ("escutcheon/field.prime", Rows.laid_escutcheon_field_prime), ("escutcheon/order.group", Rows.laid_escutcheon_order_group), ("escutcheon/proj.prime", Rows.laid_escutcheon_proj_prime), ("escutcheon/proj.curveB", Rows.laid_escutcheon_proj_curveB), ("escutcheon/proj.one", Rows.laid_escutcheon_proj_one), ("escutcheon/curve.base", Rows.laid_escutcheon_curve_base), ("escutcheon/sha.first", Rows.laid_escutcheon_sha_first), ("escutcheon/sha.rest", Rows.laid_escutcheon_sha_rest), ("escutcheon/sha.begin", Rows.laid_escutcheon_sha_begin)] w) (fun _ _ _ hh h => h.of_heap hh) own' started (by kernel_rfl) Tryz.func3
    (ChangeSpec.witness_shaped (enc := enc) (C := Tryz.checked) (os := os) (X := fun w _ => laidMetH Tryz.prog [("math/bits.deBruijn64tab", Rows.laid_math_bits_deBruijn64tab), ("errors.errorType", Rows.laid_errors_errorType), ("escutcheon/field.prime", Rows.laid_escutcheon_field_prime), ("escutcheon/order.group", Rows.laid_escutcheon_order_group), ("escutcheon/proj.prime", Rows.laid_escutcheon_proj_prime), ("escutcheon/proj.curveB", Rows.laid_escutcheon_proj_curveB), ("escutcheon/proj.one", Rows.laid_escutcheon_proj_one), ("escutcheon/curve.base", Rows.laid_escutcheon_curve_base), ("escutcheon/sha.first", Rows.laid_escutcheon_sha_first), ("escutcheon/sha.rest", Rows.laid_escutcheon_sha_rest), ("escutcheon/sha.begin", Rows.laid_escutcheon_sha_begin)] w) false (World.doorLaid Tryz.prog 80 os) #[.agg #[.int .u64 0, .int .u64 0, .int .u64 0, .int .u64 0, .int .u64 0, .int .u64 0], .agg #[.int .u64 0, .int .u64 0, .int .u64 0, .int .u64 0, .int .u64 0, .int .u64 0], .agg #[.int .u64 0, .int .u64 0, .int .u64 0, .int .u64 0, .int .u64 0, .int .u64 0], .agg #[.int .u64 0, .int .u64 0, .int .u64 0, .int .u64 0, .int .u64 0, .int .u64 0]] 8 rfl (World.shaped_of_RefB (by kernel_rfl) (by kernel_rfl)) (by kernel_rfl) (by kernel_rfl) (by kernel_rfl) (quiet_met os _)) ?_
  intro W base args ds gs before hval0 hW _ _ hL _
  have hval : ∀ (j : Nat) t v, Tryz.f3.params[j]? = some t → args[j]? = some v → Value.okWide Tryz.prog W .any base t v := hval0
  have hp : Tryz.f3.params = #[24, 24, 24, 24] := by kernel_rfl
  have hW0 := hW
  obtain ⟨p, q, hA0, hV, _, _, _⟩ := hW
  have hA : DataW.TrodAll enc Tryz.prog W 0 (fun _ => true) true Tryz.f3.params.toList args.toList ds p := hA0
  rw [hp] at hA hval
  obtain ⟨v0, v1, v2, v3, d0, d1, d2, d3, pp0, pp1, pp2, pp3, rfl, rfl, ht0, ht1, ht2, ht3⟩ := args_T4 hA
  obtain ⟨rfl, rfl⟩ := trodVars_none hV
  obtain ⟨x0, rfl, hl0, hb0⟩ := open_ints_val (k := .u64) (n := 6) (e := 22) Tryz.underlying24 Tryz.underlying22 ct24 co24 (hval 0 24 v0 rfl rfl)
  obtain ⟨x1, rfl, hl1, hb1⟩ := open_ints_val (k := .u64) (n := 6) (e := 22) Tryz.underlying24 Tryz.underlying22 ct24 co24 (hval 1 24 v1 rfl rfl)
  obtain ⟨x2, rfl, hl2, hb2⟩ := open_ints_val (k := .u64) (n := 6) (e := 22) Tryz.underlying24 Tryz.underlying22 ct24 co24 (hval 2 24 v2 rfl rfl)
  obtain ⟨x3, rfl, hl3, hb3⟩ := open_ints_val (k := .u64) (n := 6) (e := 22) Tryz.underlying24 Tryz.underlying22 ct24 co24 (hval 3 24 v3 rfl rfl)
  refine law_callsG (tb := 4) (avs := [.agg (ints .u64 x0), .agg (ints .u64 x1), .agg (ints .u64 x2), .agg (ints .u64 x3)]) (quiet_glob hL) laidOut snd3 ?_ (S3_eq x0 x1 x2 x3 (U6_of hl0 hb0) (U6_of hl1 hb1) (U6_of hl2 hb2) (U6_of hl3 hb3)) hW0 rfl (by kernel_rfl) (by kernel_rfl) Tryz.underlying4 rfl
  exact ⟨_, _, rfl, rv_ints .u64 x0, _, _, rfl, rv_ints .u64 x1, _, _, rfl, rv_ints .u64 x2, _, _, rfl, rv_ints .u64 x3, by simp [RvL]⟩

theorem topQuiet_joined : joinedFacts Tryz.pinned.checked.prog 3 Tryz.f3 Rows.topQuietSpec Rows.topQuietRow = true := by
  unfold joinedFacts
  refine andT (andT (andT (andT (andT (andT (andT ?_ jMay) ((congrArg (fun b => Rows.topQuietRow.lifted == b) jFinal).trans (by kernel_rfl))) ((congrArg (fun m => m == some Rows.topQuietRow.make) jMake).trans (by kernel_rfl))) ?_) ?_) ?_) ?_
  all_goals kernel_rfl
theorem topQuiet_holds : Rows.TopQuietSaid :=
  OpenClaim.holds_of_wide 3 Tryz.f3 rfl rfl rfl rfl rfl rfl rfl ⟨rfl, rfl, rfl, rfl, rfl⟩ rfl rfl rfl rfl rfl (by kernel_rfl) Tryz.func3 topQuiet_joined
    (of_decide_eq_true (by kernel_rfl)) (by unfold Func.isWrapper; first | (rw [if_pos (by decide +kernel)]; kernel_rfl) | (rw [if_neg (by decide +kernel)]; exact ⟨rfl, rfl⟩))
    (fun os started H enc _ => topQuiet_lifted os started H enc)
/-- The tied card. -/
theorem topQuiet_card : Rows.TopQuietCardSaid :=
  Claim7.holds_tied_plain_at .later [] [.data, .handle, .data, .data, .data, .data, .data, .data, .data, .data, .data] true (true, "2abb267221f5f05ec1c12c36c8831b638838cefe3b55ad3be72827e37a92d628") true
    topQuiet_holds (fun _ h => by cases h) (by kernel_rfl) (fun _ h => by cases h) topQuiet_row_tie rfl ⟨rfl, rfl⟩ (by kernel_rfl) rfl
    (fun f fn hf hfn => by
      obtain rfl : f = 3 := Option.some.inj ((show Tryz.prog.funcNamed "escutcheon/escutcheontop.TopQuiet" = some 3 by kernel_rfl).symm.trans hf) |>.symm
      obtain rfl : fn = Tryz.f3 := (Option.some.inj (Tryz.func3.symm.trans hfn)).symm
      exact ⟨by kernel_rfl, fun j t ht => by
        rw [show Tryz.f3.params = #[24, 24, 24, 24] by kernel_rfl] at ht
        have hm : t ∈ [24, 24, 24, 24] := by simpa using Array.mem_of_getElem? ht
        have hall : ([24, 24, 24, 24].all fun u => !Tryz.prog.wantsStandIn u) = true := by kernel_rfl
        exact (show Tryz.prog.wantsStandIn t = false by simpa using List.all_eq_true.1 hall t hm)⟩)
    (by kernel_rfl)
end Go.Proofs.YtmlehjafpofkoaaGreatDoor

