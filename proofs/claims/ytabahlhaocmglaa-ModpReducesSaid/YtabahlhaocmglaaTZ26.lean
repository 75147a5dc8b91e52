/- Contracts of the program's functions, and laws over them. There is no further condition. -/
import Derived.Test.YtabahlhaocmglaaGE
import Derived.Test.YtabahlhaocmglaaJa
import Derived.Test.YtabahlhaocmglaaRows
set_option linter.unusedVariables false
set_option linter.unusedSimpArgs false
set_option exponentiation.threshold 2000
namespace Go.Proofs.Ytabahlhaocmglaa
open Go Go.Proofs Eng Go.ChangeShapes Go.WideShapes Go.ChangeAt Go.RowKit

set_option maxRecDepth 100000 in
theorem modpReduces_lifted (os : Os) (started : os.Started) (H : Type) (enc : TypeId × Value → H) :
    ReturnsInHanded {} Try.checked os 14 .any (Rows.modpReducesSpec.pre6 enc Try.prog Try.f14 Rows.modpReducesRow.domain false) (Rows.modpReducesSpec.post enc Try.prog Try.f14 false true false false) := by
  refine returnsInHanded_of_change (C := Try.checked) own started (by kernel_rfl) Try.func14
    (ChangeSpec.witness6 (enc := enc) (C := Try.checked) false ⟨#[], #[.agg #[.int .u64 0, .int .u64 0, .int .u64 0, .int .u64 0, .int .u64 0, .int .u64 0, .int .u64 0, .int .u64 0, .int .u64 0, .int .u64 0, .int .u64 0, .int .u64 0], .agg #[.int .u64 0, .int .u64 0, .int .u64 0, .int .u64 0, .int .u64 0, .int .u64 0]], []⟩ 8 (by kernel_rfl) (by kernel_rfl) (by kernel_rfl) (by kernel_rfl)) ?_
  intro W base args ds gs before hval0 hW _ _
  have hval : ∀ (j : Nat) t v, Try.f14.params[j]? = some t → args[j]? = some v → Value.okWide Try.prog W .any base t v := hval0
  have hp : Try.f14.params = #[55, 24] := by kernel_rfl
  have hW0 := hW
  obtain ⟨p, q, hA0, hV, _, _, _⟩ := hW
  have hA : DataW.TrodAll enc Try.prog W 0 (fun _ => true) true Try.f14.params.toList args.toList ds p := hA0
  rw [hp] at hA hval
  obtain ⟨v0, v1, d0, d1, pp0, pp1, rfl, rfl, ht0, ht1⟩ := args_T2 hA
  obtain ⟨rfl, rfl⟩ := trodVars_none hV
  obtain ⟨x0, rfl, hl0, hb0⟩ := open_ints_val (k := .u64) (n := 12) (e := 22) Try.underlying55 Try.underlying22 ct55 co55 (hval 0 55 v0 rfl rfl)
  obtain ⟨x1, rfl, hl1, hb1⟩ := open_ints_val (k := .u64) (n := 6) (e := 22) Try.underlying24 Try.underlying22 ct24 co24 (hval 1 24 v1 rfl rfl)
  refine law_calls (tb := 4) (avs := [.agg (ints .u64 x0), .agg (ints .u64 x1)]) laidOut snd14 ?_ (S14_eq x0 x1 (U12_of hl0 hb0) (U6_of hl1 hb1)) hW0 rfl (by kernel_rfl) (by kernel_rfl) Try.underlying4 rfl
  exact ⟨_, _, rfl, rv_ints .u64 x0, _, _, rfl, rv_ints .u64 x1, by simp [RvL]⟩

theorem modpReduces_joined : joinedFacts Try.pinned.checked.prog 14 Try.f14 Rows.modpReducesSpec Rows.modpReducesRow = true := by
  unfold joinedFacts
  refine andT (andT (andT (andT (andT (andT (andT ?_ jMay) ((congrArg (fun b => Rows.modpReducesRow.lifted == b) jFinal).trans (by kernel_rfl))) ((congrArg (fun m => m == some Rows.modpReducesRow.make) jMake).trans (by kernel_rfl))) ?_) ?_) ?_) ?_
  all_goals kernel_rfl
theorem modpReduces_holds : Rows.ModpReducesSaid :=
  OpenClaim.holds_of_wide 14 Try.f14 rfl rfl rfl rfl rfl rfl rfl ⟨rfl, rfl, rfl, rfl, rfl⟩ rfl rfl rfl rfl rfl (by kernel_rfl) Try.func14 modpReduces_joined
    (of_decide_eq_true (by kernel_rfl)) (by unfold Func.isWrapper; first | (rw [if_pos (by decide +kernel)]; kernel_rfl) | (rw [if_neg (by decide +kernel)]; exact ⟨rfl, rfl⟩))
    (fun os started H enc _ => modpReduces_lifted os started H enc)

end Go.Proofs.Ytabahlhaocmglaa
