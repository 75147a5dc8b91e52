/- Contracts of the program's functions, and laws over them. There is no further condition. -/
import Derived.Test.YtabahlhaocmglaaS14
import Derived.Test.YtabahlhaocmglaaJa
import Derived.Test.YtabahlhaocmglaaRows
set_option linter.unusedVariables false
set_option linter.unusedSimpArgs false
set_option exponentiation.threshold 2000
namespace Go.Proofs.Ytabahlhaocmglaa
open Go Go.Proofs Eng Go.ChangeShapes Go.WideShapes Go.ChangeAt Go.RowKit

set_option maxRecDepth 100000 in
theorem limbFrom_lifted (os : Os) (started : os.Started) (H : Type) (enc : TypeId × Value → H) :
    ReturnsInHanded {} Try.checked os 5 .any (Rows.limbFromSpec.pre6 enc Try.prog Try.f5 Rows.limbFromRow.domain false) (Rows.limbFromSpec.post enc Try.prog Try.f5 false true false false) := by
  refine returnsInHanded_of_change (C := Try.checked) own started (by kernel_rfl) Try.func5
    (ChangeSpec.witness6 (enc := enc) (C := Try.checked) false ⟨#[], #[.slice none 0 0], []⟩ 8 (by kernel_rfl) (by kernel_rfl) (by kernel_rfl) (by kernel_rfl)) ?_
  intro W base args ds gs before hval0 hW _ _
  have hval : ∀ (j : Nat) t v, Try.f5.params[j]? = some t → args[j]? = some v → Value.okWide Try.prog W .any base t v := hval0
  have hp : Try.f5.params = #[30] := by kernel_rfl
  have hW0 := hW
  obtain ⟨p, q, hA0, hV, _, _, _⟩ := hW
  have hA : DataW.TrodAll enc Try.prog W 0 (fun _ => true) true Try.f5.params.toList args.toList ds p := hA0
  rw [hp] at hA hval
  obtain ⟨v0, d0, pp0, rfl, rfl, ht0⟩ := args_T1 hA
  obtain ⟨rfl, rfl⟩ := trodVars_none hV
  obtain ⟨x0, hx0, hb0, hm0⟩ := open_slice_val (k := .u8) (e := 5) Try.underlying30 Try.underlying5 co5 (hval 0 30 v0 rfl rfl) ht0
  refine law_calls (tb := 4) (avs := [.slc x0.length (ints .u8 x0)]) laidOut snd5 ?_ (S5_eq x0 (U8L_of hb0) (len_of hm0)) hW0 rfl (by kernel_rfl) (by kernel_rfl) Try.underlying4 rfl
  exact ⟨_, _, rfl, hx0 _ _, by simp [RvL]⟩

theorem limbFrom_joined : joinedFacts Try.pinned.checked.prog 5 Try.f5 Rows.limbFromSpec Rows.limbFromRow = true := by
  unfold joinedFacts
  refine andT (andT (andT (andT (andT (andT (andT ?_ jMay) ((congrArg (fun b => Rows.limbFromRow.lifted == b) jFinal).trans (by kernel_rfl))) ((congrArg (fun m => m == some Rows.limbFromRow.make) jMake).trans (by kernel_rfl))) ?_) ?_) ?_) ?_
  all_goals kernel_rfl
theorem limbFrom_holds : Rows.LimbFromSaid :=
  OpenClaim.holds_of_wide 5 Try.f5 rfl rfl rfl rfl rfl rfl rfl ⟨rfl, rfl, rfl, rfl, rfl⟩ rfl rfl rfl rfl rfl (by kernel_rfl) Try.func5 limbFrom_joined
    (of_decide_eq_true (by kernel_rfl)) (by unfold Func.isWrapper; first | (rw [if_pos (by decide +kernel)]; kernel_rfl) | (rw [if_neg (by decide +kernel)]; exact ⟨rfl, rfl⟩))
    (fun os started H enc _ => limbFrom_lifted os started H enc)

end Go.Proofs.Ytabahlhaocmglaa
