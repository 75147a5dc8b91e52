/- Contracts of the program's functions, and laws over them. There is no further condition. -/
import Derived.Test.YtdpbddomncjkjaaU2ae
import Derived.Test.YtdpbddomncjkjaaRows
set_option linter.unusedVariables false
set_option linter.unusedSimpArgs false
set_option linter.unusedSectionVars false
set_option exponentiation.threshold 2000
namespace Go.Proofs.Ytdpbddomncjkjaa
open Go Go.Proofs Eng Go.ChangeShapes Go.WideShapes Go.ChangeAt Go.RowKit

set_option maxRecDepth 100000 in
theorem aesEncrypts_lifted (os : Os) (started : os.Started) (H : Type) (enc : TypeId × Value → H) :
    ReturnsInHanded {} Try.checked os 17 .any (Rows.aesEncryptsSpec.pre6 enc Try.prog Try.f17 Rows.aesEncryptsRow.domain false) (Rows.aesEncryptsSpec.post enc Try.prog Try.f17 false true false false) := by
  refine returnsInHanded_of_change (C := Try.checked) own started (by kernel_rfl) Try.func17
    (ChangeSpec.witness6 (enc := enc) (C := Try.checked) false ⟨#[], #[.slice none 0 0, .agg #[.int .u8 0, .int .u8 0, .int .u8 0, .int .u8 0, .int .u8 0, .int .u8 0, .int .u8 0, .int .u8 0, .int .u8 0, .int .u8 0, .int .u8 0, .int .u8 0, .int .u8 0, .int .u8 0, .int .u8 0, .int .u8 0]], []⟩ 8 (by kernel_rfl) (by kernel_rfl) (by kernel_rfl) (by kernel_rfl)) ?_
  intro W base args ds gs before hval0 hW _ _
  have hval : ∀ (j : Nat) t v, Try.f17.params[j]? = some t → args[j]? = some v → Value.okWide Try.prog W .any base t v := hval0
  have hp : Try.f17.params = #[27, 22] := by kernel_rfl
  have hW0 := hW
  obtain ⟨p, q, hA0, hV, _, _, _⟩ := hW
  have hA : DataW.TrodAll enc Try.prog W 0 (fun _ => true) true Try.f17.params.toList args.toList ds p := hA0
  rw [hp] at hA hval
  obtain ⟨v0, v1, d0, d1, pp0, pp1, rfl, rfl, ht0, ht1⟩ := args_T2 hA
  obtain ⟨rfl, rfl⟩ := trodVars_none hV
  obtain ⟨x0, hx0, hb0, hm0⟩ := open_slice_val (k := .u8) (e := 5) Try.underlying27 Try.underlying5 co5 (hval 0 27 v0 rfl rfl) ht0
  obtain ⟨x1, rfl, hl1, hb1⟩ := open_ints_val (k := .u8) (n := 16) (e := 5) Try.underlying22 Try.underlying5 ct22 co22 (hval 1 22 v1 rfl rfl)
  refine law_calls (tb := 4) (avs := [.slc x0.length (ints .u8 x0), .agg (ints .u8 x1)]) laidOut snd17 ?_ (S17_eq x0 x1 (U8L_of hb0) (len_of hm0) (B16_of hl1 hb1)) hW0 rfl (by kernel_rfl) (by kernel_rfl) Try.underlying4 rfl
  exact ⟨_, _, rfl, hx0 _ _, _, _, rfl, rv_ints .u8 x1, by simp [RvL]⟩

theorem aesEncrypts_joined : joinedFacts Try.pinned.checked.prog 17 Try.f17 Rows.aesEncryptsSpec Rows.aesEncryptsRow = true := by
  unfold joinedFacts
  refine andT (andT (andT (andT (andT (andT (andT ?_ jMay) ((congrArg (fun b => Rows.aesEncryptsRow.lifted == b) jFinal).trans (by kernel_rfl))) ((congrArg (fun m => m == some Rows.aesEncryptsRow.make) jMake).trans (by kernel_rfl))) ?_) ?_) ?_) ?_
  all_goals kernel_rfl
theorem aesEncrypts_holds : Rows.AesEncryptsSaid :=
  OpenClaim.holds_of_wide 17 Try.f17 rfl rfl rfl rfl rfl rfl rfl ⟨rfl, rfl, rfl, rfl, rfl⟩ rfl rfl rfl rfl rfl (by kernel_rfl) Try.func17 aesEncrypts_joined
    (of_decide_eq_true (by kernel_rfl)) (by unfold Func.isWrapper; first | (rw [if_pos (by decide +kernel)]; kernel_rfl) | (rw [if_neg (by decide +kernel)]; exact ⟨rfl, rfl⟩))
    (fun os started H enc _ => aesEncrypts_lifted os started H enc)

end Go.Proofs.Ytdpbddomncjkjaa

