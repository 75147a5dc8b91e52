/- Contracts of the program's functions, and laws over them. There is no further condition. -/
import Derived.Test.YtdpbddomncjkjaaU4go
import Derived.Test.YtdpbddomncjkjaaRows
set_option linter.unusedVariables false
set_option linter.unusedSimpArgs false
set_option linter.unusedSectionVars false
set_option exponentiation.threshold 2000
namespace Go.Proofs.Ytdpbddomncjkjaa
open Go Go.Proofs Eng Go.ChangeShapes Go.WideShapes Go.ChangeAt Go.RowKit

set_option maxRecDepth 100000 in
theorem gcmOpens_lifted (os : Os) (started : os.Started) (H : Type) (enc : TypeId × Value → H) :
    ReturnsInHanded {} Try.checked os 20 .any (Rows.gcmOpensSpec.pre6 enc Try.prog Try.f20 Rows.gcmOpensRow.domain false) (Rows.gcmOpensSpec.post enc Try.prog Try.f20 false true false false) := by
  refine returnsInHanded_of_change (C := Try.checked) own started (by kernel_rfl) Try.func20
    (ChangeSpec.witness6 (enc := enc) (C := Try.checked) false ⟨#[], #[.slice none 0 0, .slice none 0 0, .slice none 0 0, .slice none 0 0], []⟩ 8 (by kernel_rfl) (by kernel_rfl) (by kernel_rfl) (by kernel_rfl)) ?_
  intro W base args ds gs before hval0 hW _ _
  have hval : ∀ (j : Nat) t v, Try.f20.params[j]? = some t → args[j]? = some v → Value.okWide Try.prog W .any base t v := hval0
  have hp : Try.f20.params = #[27, 27, 27, 27] := by kernel_rfl
  have hW0 := hW
  obtain ⟨p, q, hA0, hV, _, _, _⟩ := hW
  have hA : DataW.TrodAll enc Try.prog W 0 (fun _ => true) true Try.f20.params.toList args.toList ds p := hA0
  rw [hp] at hA hval
  obtain ⟨v0, v1, v2, v3, d0, d1, d2, d3, pp0, pp1, pp2, pp3, rfl, rfl, ht0, ht1, ht2, ht3⟩ := args_T4 hA
  obtain ⟨rfl, rfl⟩ := trodVars_none hV
  obtain ⟨x0, hx0, hb0, hm0⟩ := open_slice_val (k := .u8) (e := 5) Try.underlying27 Try.underlying5 co5 (hval 0 27 v0 rfl rfl) ht0
  obtain ⟨x1, hx1, hb1, hm1⟩ := open_slice_val (k := .u8) (e := 5) Try.underlying27 Try.underlying5 co5 (hval 1 27 v1 rfl rfl) ht1
  obtain ⟨x2, hx2, hb2, hm2⟩ := open_slice_val (k := .u8) (e := 5) Try.underlying27 Try.underlying5 co5 (hval 2 27 v2 rfl rfl) ht2
  obtain ⟨x3, hx3, hb3, hm3⟩ := open_slice_val (k := .u8) (e := 5) Try.underlying27 Try.underlying5 co5 (hval 3 27 v3 rfl rfl) ht3
  refine law_calls (tb := 4) (avs := [.slc x0.length (ints .u8 x0), .slc x1.length (ints .u8 x1), .slc x2.length (ints .u8 x2), .slc x3.length (ints .u8 x3)]) laidOut snd20 ?_ (S20_eq x0 x1 x2 x3 (U8L_of hb0) (len_of hm0) (U8L_of hb1) (len_of hm1) (U8L_of hb2) (len_of hm2) (U8L_of hb3) (len_of hm3)) hW0 rfl (by kernel_rfl) (by kernel_rfl) Try.underlying4 rfl
  exact ⟨_, _, rfl, hx0 _ _, _, _, rfl, hx1 _ _, _, _, rfl, hx2 _ _, _, _, rfl, hx3 _ _, by simp [RvL]⟩

theorem gcmOpens_joined : joinedFacts Try.pinned.checked.prog 20 Try.f20 Rows.gcmOpensSpec Rows.gcmOpensRow = true := by
  unfold joinedFacts
  refine andT (andT (andT (andT (andT (andT (andT ?_ jMay) ((congrArg (fun b => Rows.gcmOpensRow.lifted == b) jFinal).trans (by kernel_rfl))) ((congrArg (fun m => m == some Rows.gcmOpensRow.make) jMake).trans (by kernel_rfl))) ?_) ?_) ?_) ?_
  all_goals kernel_rfl
theorem gcmOpens_holds : Rows.GcmOpensSaid :=
  OpenClaim.holds_of_wide 20 Try.f20 rfl rfl rfl rfl rfl rfl rfl ⟨rfl, rfl, rfl, rfl, rfl⟩ rfl rfl rfl rfl rfl (by kernel_rfl) Try.func20 gcmOpens_joined
    (of_decide_eq_true (by kernel_rfl)) (by unfold Func.isWrapper; first | (rw [if_pos (by decide +kernel)]; kernel_rfl) | (rw [if_neg (by decide +kernel)]; exact ⟨rfl, rfl⟩))
    (fun os started H enc _ => gcmOpens_lifted os started H enc)

end Go.Proofs.Ytdpbddomncjkjaa

