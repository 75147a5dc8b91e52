/- Contracts of the program's functions, and laws over them. There is no further condition. -/
import Derived.Test.YtdpbddomncjkjaaG8
import Derived.Test.YtdpbddomncjkjaaJb
import Derived.Test.YtdpbddomncjkjaaRows
set_option linter.unusedVariables false
set_option linter.unusedSimpArgs false
set_option exponentiation.threshold 2000
namespace Go.Proofs.Ytdpbddomncjkjaa
open Go Go.Proofs Eng Go.ChangeShapes Go.WideShapes Go.ChangeAt Go.RowKit

set_option maxRecDepth 100000 in
theorem ghashWhole_lifted (os : Os) (started : os.Started) (H : Type) (enc : TypeId × Value → H) :
    ReturnsInHanded {} Try.checked os 15 .any (Rows.ghashWholeSpec.pre6 enc Try.prog Try.f15 Rows.ghashWholeRow.domain false) (Rows.ghashWholeSpec.post enc Try.prog Try.f15 false true false false) := by
  refine returnsInHanded_of_change (C := Try.checked) own started (by kernel_rfl) Try.func15
    (ChangeSpec.witness6 (enc := enc) (C := Try.checked) false ⟨#[], #[.agg #[.int .u8 0, .int .u8 0, .int .u8 0, .int .u8 0, .int .u8 0, .int .u8 0, .int .u8 0, .int .u8 0, .int .u8 0, .int .u8 0, .int .u8 0, .int .u8 0, .int .u8 0, .int .u8 0, .int .u8 0, .int .u8 0], .slice none 0 0, .slice none 0 0], []⟩ 8 (by kernel_rfl) (by kernel_rfl) (by kernel_rfl) (by kernel_rfl)) ?_
  intro W base args ds gs before hval0 hW _ _
  have hval : ∀ (j : Nat) t v, Try.f15.params[j]? = some t → args[j]? = some v → Value.okWide Try.prog W .any base t v := hval0
  have hp : Try.f15.params = #[22, 27, 27] := by kernel_rfl
  have hW0 := hW
  obtain ⟨p, q, hA0, hV, _, _, _⟩ := hW
  have hA : DataW.TrodAll enc Try.prog W 0 (fun _ => true) true Try.f15.params.toList args.toList ds p := hA0
  rw [hp] at hA hval
  obtain ⟨v0, v1, v2, d0, d1, d2, pp0, pp1, pp2, rfl, rfl, ht0, ht1, ht2⟩ := args_T3 hA
  obtain ⟨rfl, rfl⟩ := trodVars_none hV
  obtain ⟨x0, rfl, hl0, hb0⟩ := open_ints_val (k := .u8) (n := 16) (e := 5) Try.underlying22 Try.underlying5 ct22 co22 (hval 0 22 v0 rfl rfl)
  obtain ⟨x1, hx1, hb1, hm1⟩ := open_slice_val (k := .u8) (e := 5) Try.underlying27 Try.underlying5 co5 (hval 1 27 v1 rfl rfl) ht1
  obtain ⟨x2, hx2, hb2, hm2⟩ := open_slice_val (k := .u8) (e := 5) Try.underlying27 Try.underlying5 co5 (hval 2 27 v2 rfl rfl) ht2
  refine law_calls (tb := 4) (avs := [.agg (ints .u8 x0), .slc x1.length (ints .u8 x1), .slc x2.length (ints .u8 x2)]) laidOut snd15 ?_ (S15_eqI x0 x1 x2 (B16_of hl0 hb0) (U8L_of hb1) (len_of hm1) (U8L_of hb2) (len_of hm2)) hW0 rfl (by kernel_rfl) (by kernel_rfl) Try.underlying4 rfl
  exact ⟨_, _, rfl, rv_ints .u8 x0, _, _, rfl, hx1 _ _, _, _, rfl, hx2 _ _, by simp [RvL]⟩

theorem ghashWhole_joined : joinedFacts Try.pinned.checked.prog 15 Try.f15 Rows.ghashWholeSpec Rows.ghashWholeRow = true := by
  unfold joinedFacts
  refine andT (andT (andT (andT (andT (andT (andT ?_ jMay) ((congrArg (fun b => Rows.ghashWholeRow.lifted == b) jFinal).trans (by kernel_rfl))) ((congrArg (fun m => m == some Rows.ghashWholeRow.make) jMake).trans (by kernel_rfl))) ?_) ?_) ?_) ?_
  all_goals kernel_rfl
theorem ghashWhole_holds : Rows.GhashWholeSaid :=
  OpenClaim.holds_of_wide 15 Try.f15 rfl rfl rfl rfl rfl rfl rfl ⟨rfl, rfl, rfl, rfl, rfl⟩ rfl rfl rfl rfl rfl (by kernel_rfl) Try.func15 ghashWhole_joined
    (of_decide_eq_true (by kernel_rfl)) (by unfold Func.isWrapper; first | (rw [if_pos (by decide +kernel)]; kernel_rfl) | (rw [if_neg (by decide +kernel)]; exact ⟨rfl, rfl⟩))
    (fun os started H enc _ => ghashWhole_lifted os started H enc)

end Go.Proofs.Ytdpbddomncjkjaa
