/- Contracts of the program's functions, and laws over them. There is no further condition. -/
import Derived.Test.YtdpbddomncjkjaaH1
import Derived.Test.YtdpbddomncjkjaaJb
import Derived.Test.YtdpbddomncjkjaaRows
set_option linter.unusedVariables false
set_option linter.unusedSimpArgs false
set_option exponentiation.threshold 2000
namespace Go.Proofs.Ytdpbddomncjkjaa
open Go Go.Proofs Eng Go.ChangeShapes Go.WideShapes Go.ChangeAt Go.RowKit

set_option maxRecDepth 100000 in
theorem shaRounds_lifted (os : Os) (started : os.Started) (H : Type) (enc : TypeId × Value → H) :
    ReturnsInHanded {} Try.checked os 6 .any (Rows.shaRoundsSpec.pre6 enc Try.prog Try.f6 Rows.shaRoundsRow.domain false) (Rows.shaRoundsSpec.post enc Try.prog Try.f6 false true false false) := by
  refine returnsInHanded_of_change (C := Try.checked) own started (by kernel_rfl) Try.func6
    (ChangeSpec.witness6 (enc := enc) (C := Try.checked) false ⟨#[], #[.agg #[.int .u64 0, .int .u64 0, .int .u64 0, .int .u64 0, .int .u64 0, .int .u64 0, .int .u64 0, .int .u64 0], .int .u64 0, .int .u64 0], []⟩ 8 (by kernel_rfl) (by kernel_rfl) (by kernel_rfl) (by kernel_rfl)) ?_
  intro W base args ds gs before hval0 hW _ _
  have hval : ∀ (j : Nat) t v, Try.f6.params[j]? = some t → args[j]? = some v → Value.okWide Try.prog W .any base t v := hval0
  have hp : Try.f6.params = #[30, 29, 29] := by kernel_rfl
  have hW0 := hW
  obtain ⟨p, q, hA0, hV, _, _, _⟩ := hW
  have hA : DataW.TrodAll enc Try.prog W 0 (fun _ => true) true Try.f6.params.toList args.toList ds p := hA0
  rw [hp] at hA hval
  obtain ⟨v0, v1, v2, d0, d1, d2, pp0, pp1, pp2, rfl, rfl, ht0, ht1, ht2⟩ := args_T3 hA
  obtain ⟨rfl, rfl⟩ := trodVars_none hV
  obtain ⟨x0, rfl, hl0, hb0⟩ := open_ints_val (k := .u64) (n := 8) (e := 29) Try.underlying30 Try.underlying29 ct30 co30 (hval 0 30 v0 rfl rfl)
  obtain ⟨x1, rfl, hb1⟩ := open_int_val (k := .u64) Try.underlying29 (hval 1 29 v1 rfl rfl)
  obtain ⟨x2, rfl, hb2⟩ := open_int_val (k := .u64) Try.underlying29 (hval 2 29 v2 rfl rfl)
  refine law_calls (tb := 4) (avs := [.agg (ints .u64 x0), .int .u64 x1, .int .u64 x2]) laidOut snd6 ?_ (S6_eqI x0 x1 x2 (W8_of hl0 hb0) (U64_of hb1) (U64_of hb2)) hW0 rfl (by kernel_rfl) (by kernel_rfl) Try.underlying4 rfl
  exact ⟨_, _, rfl, rv_ints .u64 x0, _, _, rfl, by simp [Rv], _, _, rfl, by simp [Rv], by simp [RvL]⟩

theorem shaRounds_joined : joinedFacts Try.pinned.checked.prog 6 Try.f6 Rows.shaRoundsSpec Rows.shaRoundsRow = true := by
  unfold joinedFacts
  refine andT (andT (andT (andT (andT (andT (andT ?_ jMay) ((congrArg (fun b => Rows.shaRoundsRow.lifted == b) jFinal).trans (by kernel_rfl))) ((congrArg (fun m => m == some Rows.shaRoundsRow.make) jMake).trans (by kernel_rfl))) ?_) ?_) ?_) ?_
  all_goals kernel_rfl
theorem shaRounds_holds : Rows.ShaRoundsSaid :=
  OpenClaim.holds_of_wide 6 Try.f6 rfl rfl rfl rfl rfl rfl rfl ⟨rfl, rfl, rfl, rfl, rfl⟩ rfl rfl rfl rfl rfl (by kernel_rfl) Try.func6 shaRounds_joined
    (of_decide_eq_true (by kernel_rfl)) (by unfold Func.isWrapper; first | (rw [if_pos (by decide +kernel)]; kernel_rfl) | (rw [if_neg (by decide +kernel)]; exact ⟨rfl, rfl⟩))
    (fun os started H enc _ => shaRounds_lifted os started H enc)

end Go.Proofs.Ytdpbddomncjkjaa
