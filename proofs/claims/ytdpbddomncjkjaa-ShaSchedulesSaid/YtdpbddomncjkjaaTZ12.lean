/- Contracts of the program's functions, and laws over them. There is no further condition. -/
import Derived.Test.YtdpbddomncjkjaaQ1
import Derived.Test.YtdpbddomncjkjaaJb
import Derived.Test.YtdpbddomncjkjaaRows
set_option linter.unusedVariables false
set_option linter.unusedSimpArgs false
set_option exponentiation.threshold 2000
namespace Go.Proofs.Ytdpbddomncjkjaa
open Go Go.Proofs Eng Go.ChangeShapes Go.WideShapes Go.ChangeAt Go.RowKit

set_option maxRecDepth 100000 in
theorem shaSchedules_lifted (os : Os) (started : os.Started) (H : Type) (enc : TypeId × Value → H) :
    ReturnsInHanded {} Try.checked os 12 .any (Rows.shaSchedulesSpec.pre6 enc Try.prog Try.f12 Rows.shaSchedulesRow.domain false) (Rows.shaSchedulesSpec.post enc Try.prog Try.f12 false true false false) := by
  refine returnsInHanded_of_change (C := Try.checked) own started (by kernel_rfl) Try.func12
    (ChangeSpec.witness6 (enc := enc) (C := Try.checked) false ⟨#[], #[.slice none 0 0], []⟩ 8 (by kernel_rfl) (by kernel_rfl) (by kernel_rfl) (by kernel_rfl)) ?_
  intro W base args ds gs before hval0 hW _ _
  have hval : ∀ (j : Nat) t v, Try.f12.params[j]? = some t → args[j]? = some v → Value.okWide Try.prog W .any base t v := hval0
  have hp : Try.f12.params = #[27] := by kernel_rfl
  have hW0 := hW
  obtain ⟨p, q, hA0, hV, _, _, _⟩ := hW
  have hA : DataW.TrodAll enc Try.prog W 0 (fun _ => true) true Try.f12.params.toList args.toList ds p := hA0
  rw [hp] at hA hval
  obtain ⟨v0, d0, pp0, rfl, rfl, ht0⟩ := args_T1 hA
  obtain ⟨rfl, rfl⟩ := trodVars_none hV
  obtain ⟨x0, hx0, hb0, hm0⟩ := open_slice_val (k := .u8) (e := 5) Try.underlying27 Try.underlying5 co5 (hval 0 27 v0 rfl rfl) ht0
  refine law_calls (tb := 4) (avs := [.slc x0.length (ints .u8 x0)]) laidOut snd12 ?_ (S12_eq x0 (U8L_of hb0) (len_of hm0)) hW0 rfl (by kernel_rfl) (by kernel_rfl) Try.underlying4 rfl
  exact ⟨_, _, rfl, hx0 _ _, by simp [RvL]⟩

theorem shaSchedules_joined : joinedFacts Try.pinned.checked.prog 12 Try.f12 Rows.shaSchedulesSpec Rows.shaSchedulesRow = true := by
  unfold joinedFacts
  refine andT (andT (andT (andT (andT (andT (andT ?_ jMay) ((congrArg (fun b => Rows.shaSchedulesRow.lifted == b) jFinal).trans (by kernel_rfl))) ((congrArg (fun m => m == some Rows.shaSchedulesRow.make) jMake).trans (by kernel_rfl))) ?_) ?_) ?_) ?_
  all_goals kernel_rfl
theorem shaSchedules_holds : Rows.ShaSchedulesSaid :=
  OpenClaim.holds_of_wide 12 Try.f12 rfl rfl rfl rfl rfl rfl rfl ⟨rfl, rfl, rfl, rfl, rfl⟩ rfl rfl rfl rfl rfl (by kernel_rfl) Try.func12 shaSchedules_joined
    (of_decide_eq_true (by kernel_rfl)) (by unfold Func.isWrapper; first | (rw [if_pos (by decide +kernel)]; kernel_rfl) | (rw [if_neg (by decide +kernel)]; exact ⟨rfl, rfl⟩))
    (fun os started H enc _ => shaSchedules_lifted os started H enc)

end Go.Proofs.Ytdpbddomncjkjaa
