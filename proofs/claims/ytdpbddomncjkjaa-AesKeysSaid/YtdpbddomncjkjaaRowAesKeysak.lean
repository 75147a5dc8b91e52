/- Contracts of the program's functions, and laws over them. There is no further condition. -/
import Derived.Test.YtdpbddomncjkjaaU1ak
import Derived.SizedLaws
import Derived.Test.YtdpbddomncjkjaaRows
set_option linter.unusedVariables false
set_option linter.unusedSimpArgs false
set_option linter.unusedSectionVars false
set_option exponentiation.threshold 2000
namespace Go.Proofs.Ytdpbddomncjkjaa
open Go Go.Proofs Eng Go.ChangeShapes Go.WideShapes Go.ChangeAt Go.RowKit

set_option maxRecDepth 100000 in
theorem aesKeys_lifted (os : Os) (started : os.Started) (H : Type) (enc : TypeId × Value → H) :
    ReturnsInHanded {} Try.checked os 16 .any (Rows.aesKeysSpec.pre6 enc Try.prog Try.f16 Rows.aesKeysRow.domain false) (Rows.aesKeysSpec.post enc Try.prog Try.f16 false true false false) := by
  refine returnsInHanded_of_change_sized (C := Try.checked) own started (by kernel_rfl) Try.func16
    (ChangeSpec.witness6 (enc := enc) (C := Try.checked) false ⟨#[], #[.slice none 0 0], []⟩ 8 (by kernel_rfl) (by kernel_rfl) (by kernel_rfl) (by kernel_rfl)) ?_
  intro W base args ds gs before hval0 hW _ hZ _
  have hval : ∀ (j : Nat) t v, Try.f16.params[j]? = some t → args[j]? = some v → Value.okWide Try.prog W .any base t v := hval0
  have hp : Try.f16.params = #[27] := by kernel_rfl
  have hW0 := hW
  obtain ⟨p, q, hA0, hV, _, _, _⟩ := hW
  have hA : DataW.TrodAll enc Try.prog W 0 (fun _ => true) true Try.f16.params.toList args.toList ds p := hA0
  rw [hp] at hA hval
  obtain ⟨v0, d0, pp0, rfl, rfl, ht0⟩ := args_T1 hA
  obtain ⟨rfl, rfl⟩ := trodVars_none hV
  obtain ⟨x0, hx0, hb0, hm0, hD0⟩ := open_slice_sized (k := .u8) (e := 5) Try.underlying27 Try.underlying5 co5 (hval 0 27 v0 rfl rfl) ht0
  have hs0 : x0.length ≤ 140737488355328 := by
    rcases hD0 with h | ⟨el, so, h1, h2⟩
    · rw [h]; decide
    · have hz := sized_slice hZ (j := 0) (t := 27) (e := 5) (elems := el) (spare := so) (by rw [hp]; rfl) (by rw [h1]; rfl) Try.underlying27
      have hb : Try.checked.prog.bytesOf 5 = 1 := by kernel_rfl
      rw [hb] at hz
      have hr : reachBytes < 140737488355328 := by decide
      omega
  refine law_calls (tb := 4) (avs := [.slc x0.length (ints .u8 x0)]) laidOut snd16 ?_ (S16_eq x0 (U8L_of hb0) hs0) hW0 rfl (by kernel_rfl) (by kernel_rfl) Try.underlying4 rfl
  exact ⟨_, _, rfl, hx0 _ _, by simp [RvL]⟩

theorem aesKeys_joined : joinedFacts Try.pinned.checked.prog 16 Try.f16 Rows.aesKeysSpec Rows.aesKeysRow = true := by
  unfold joinedFacts
  refine andT (andT (andT (andT (andT (andT (andT ?_ jMay) ((congrArg (fun b => Rows.aesKeysRow.lifted == b) jFinal).trans (by kernel_rfl))) ((congrArg (fun m => m == some Rows.aesKeysRow.make) jMake).trans (by kernel_rfl))) ?_) ?_) ?_) ?_
  all_goals kernel_rfl
theorem aesKeys_holds : Rows.AesKeysSaid :=
  OpenClaim.holds_of_wide 16 Try.f16 rfl rfl rfl rfl rfl rfl rfl ⟨rfl, rfl, rfl, rfl, rfl⟩ rfl rfl rfl rfl rfl (by kernel_rfl) Try.func16 aesKeys_joined
    (of_decide_eq_true (by kernel_rfl)) (by unfold Func.isWrapper; first | (rw [if_pos (by decide +kernel)]; kernel_rfl) | (rw [if_neg (by decide +kernel)]; exact ⟨rfl, rfl⟩))
    (fun os started H enc _ => aesKeys_lifted os started H enc)

end Go.Proofs.Ytdpbddomncjkjaa

