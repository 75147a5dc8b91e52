/- Contracts of the program's functions, and laws over them. There is no further condition. -/
import Derived.Test.YtdpbddomncjkjaaU2gl
import Derived.Test.YtdpbddomncjkjaaRows
set_option linter.unusedVariables false
set_option linter.unusedSimpArgs false
set_option linter.unusedSectionVars false
set_option exponentiation.threshold 2000
namespace Go.Proofs.Ytdpbddomncjkjaa
open Go Go.Proofs Eng Go.ChangeShapes Go.WideShapes Go.ChangeAt Go.RowKit

set_option maxRecDepth 100000 in
theorem gcmLong_lifted (os : Os) (started : os.Started) (H : Type) (enc : TypeId × Value → H) :
    ReturnsInHanded {} Try.checked os 21 .any (Rows.gcmLongSpec.pre6 enc Try.prog Try.f21 Rows.gcmLongRow.domain false) (Rows.gcmLongSpec.post enc Try.prog Try.f21 false true false false) := by
  refine returnsInHanded_of_change (C := Try.checked) own started (by kernel_rfl) Try.func21
    (ChangeSpec.witness6 (enc := enc) (C := Try.checked) false ⟨#[], #[.bool false, .int .i64 0], []⟩ 8 (by kernel_rfl) (by kernel_rfl) (by kernel_rfl) (by kernel_rfl)) ?_
  intro W base args ds gs before hval0 hW _ _
  have hval : ∀ (j : Nat) t v, Try.f21.params[j]? = some t → args[j]? = some v → Value.okWide Try.prog W .any base t v := hval0
  have hp : Try.f21.params = #[4, 3] := by kernel_rfl
  have hW0 := hW
  obtain ⟨p, q, hA0, hV, _, _, _⟩ := hW
  have hA : DataW.TrodAll enc Try.prog W 0 (fun _ => true) true Try.f21.params.toList args.toList ds p := hA0
  rw [hp] at hA hval
  obtain ⟨v0, v1, d0, d1, pp0, pp1, rfl, rfl, ht0, ht1⟩ := args_T2 hA
  obtain ⟨rfl, rfl⟩ := trodVars_none hV
  obtain ⟨x0, rfl⟩ := open_bool_val Try.underlying4 (hval 0 4 v0 rfl rfl)
  obtain ⟨x1, rfl, hb1⟩ := open_int_val (k := .i64) Try.underlying3 (hval 1 3 v1 rfl rfl)
  refine law_calls (tb := 4) (avs := [.bool x0, .int .i64 x1]) laidOut snd21 ?_ (S21_eq x0 x1 (I64_of hb1)) hW0 rfl (by kernel_rfl) (by kernel_rfl) Try.underlying4 rfl
  exact ⟨_, _, rfl, by simp [Rv], _, _, rfl, by simp [Rv], by simp [RvL]⟩

theorem gcmLong_joined : joinedFacts Try.pinned.checked.prog 21 Try.f21 Rows.gcmLongSpec Rows.gcmLongRow = true := by
  unfold joinedFacts
  refine andT (andT (andT (andT (andT (andT (andT ?_ jMay) ((congrArg (fun b => Rows.gcmLongRow.lifted == b) jFinal).trans (by kernel_rfl))) ((congrArg (fun m => m == some Rows.gcmLongRow.make) jMake).trans (by kernel_rfl))) ?_) ?_) ?_) ?_
  all_goals kernel_rfl
theorem gcmLong_holds : Rows.GcmLongSaid :=
  OpenClaim.holds_of_wide 21 Try.f21 rfl rfl rfl rfl rfl rfl rfl ⟨rfl, rfl, rfl, rfl, rfl⟩ rfl rfl rfl rfl rfl (by kernel_rfl) Try.func21 gcmLong_joined
    (of_decide_eq_true (by kernel_rfl)) (by unfold Func.isWrapper; first | (rw [if_pos (by decide +kernel)]; kernel_rfl) | (rw [if_neg (by decide +kernel)]; exact ⟨rfl, rfl⟩))
    (fun os started H enc _ => gcmLong_lifted os started H enc)

end Go.Proofs.Ytdpbddomncjkjaa

