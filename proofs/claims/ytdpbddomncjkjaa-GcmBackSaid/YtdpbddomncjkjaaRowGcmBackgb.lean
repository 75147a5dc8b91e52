/- Contracts of the program's functions, and laws over them. There is no further condition. -/
import Derived.Test.YtdpbddomncjkjaaU2gb
import Derived.Test.YtdpbddomncjkjaaRows
set_option linter.unusedVariables false
set_option linter.unusedSimpArgs false
set_option linter.unusedSectionVars false
set_option exponentiation.threshold 2000
namespace Go.Proofs.Ytdpbddomncjkjaa
open Go Go.Proofs Eng Go.ChangeShapes Go.WideShapes Go.ChangeAt Go.RowKit

set_option maxRecDepth 100000 in
theorem gcmBack_lifted (os : Os) (started : os.Started) (H : Type) (enc : TypeId × Value → H) :
    ReturnsInHanded {} Try.checked os 22 .any (Rows.gcmBackSpec.pre6 enc Try.prog Try.f22 Rows.gcmBackRow.domain false) (Rows.gcmBackSpec.post enc Try.prog Try.f22 false true false false) := by
  refine returnsInHanded_of_change (C := Try.checked) own started (by kernel_rfl) Try.func22
    (ChangeSpec.witness6 (enc := enc) (C := Try.checked) false ⟨#[], #[.agg #[.int .u8 0, .int .u8 0, .int .u8 0, .int .u8 0, .int .u8 0, .int .u8 0, .int .u8 0, .int .u8 0, .int .u8 0, .int .u8 0, .int .u8 0, .int .u8 0, .int .u8 0, .int .u8 0, .int .u8 0, .int .u8 0, .int .u8 0, .int .u8 0, .int .u8 0, .int .u8 0, .int .u8 0, .int .u8 0, .int .u8 0, .int .u8 0, .int .u8 0, .int .u8 0, .int .u8 0, .int .u8 0, .int .u8 0, .int .u8 0, .int .u8 0, .int .u8 0], .agg #[.int .u8 0, .int .u8 0, .int .u8 0, .int .u8 0, .int .u8 0, .int .u8 0, .int .u8 0, .int .u8 0, .int .u8 0, .int .u8 0, .int .u8 0, .int .u8 0], .slice none 0 0, .slice none 0 0, .int .i64 0, .int .u8 0], []⟩ 8 (by kernel_rfl) (by kernel_rfl) (by kernel_rfl) (by kernel_rfl)) ?_
  intro W base args ds gs before hval0 hW _ _
  have hval : ∀ (j : Nat) t v, Try.f22.params[j]? = some t → args[j]? = some v → Value.okWide Try.prog W .any base t v := hval0
  have hp : Try.f22.params = #[65, 74, 27, 27, 3, 5] := by kernel_rfl
  have hW0 := hW
  obtain ⟨p, q, hA0, hV, _, _, _⟩ := hW
  have hA : DataW.TrodAll enc Try.prog W 0 (fun _ => true) true Try.f22.params.toList args.toList ds p := hA0
  rw [hp] at hA hval
  obtain ⟨v0, v1, v2, v3, v4, v5, d0, d1, d2, d3, d4, d5, pp0, pp1, pp2, pp3, pp4, pp5, rfl, rfl, ht0, ht1, ht2, ht3, ht4, ht5⟩ := args_T6 hA
  obtain ⟨rfl, rfl⟩ := trodVars_none hV
  obtain ⟨x0, rfl, hl0, hb0⟩ := open_ints_val (k := .u8) (n := 32) (e := 5) Try.underlying65 Try.underlying5 ct65 co65 (hval 0 65 v0 rfl rfl)
  obtain ⟨x1, rfl, hl1, hb1⟩ := open_ints_val (k := .u8) (n := 12) (e := 5) Try.underlying74 Try.underlying5 ct74 co74 (hval 1 74 v1 rfl rfl)
  obtain ⟨x2, hx2, hb2, hm2⟩ := open_slice_val (k := .u8) (e := 5) Try.underlying27 Try.underlying5 co5 (hval 2 27 v2 rfl rfl) ht2
  obtain ⟨x3, hx3, hb3, hm3⟩ := open_slice_val (k := .u8) (e := 5) Try.underlying27 Try.underlying5 co5 (hval 3 27 v3 rfl rfl) ht3
  obtain ⟨x4, rfl, hb4⟩ := open_int_val (k := .i64) Try.underlying3 (hval 4 3 v4 rfl rfl)
  obtain ⟨x5, rfl, hb5⟩ := open_int_val (k := .u8) Try.underlying5 (hval 5 5 v5 rfl rfl)
  refine law_calls (tb := 4) (avs := [.agg (ints .u8 x0), .agg (ints .u8 x1), .slc x2.length (ints .u8 x2), .slc x3.length (ints .u8 x3), .int .i64 x4, .int .u8 x5]) laidOut snd22 ?_ (S22_eq x0 x1 x2 x3 x4 x5 (B32_of hl0 hb0) (B12_of hl1 hb1) (U8L_of hb2) (len_of hm2) (U8L_of hb3) (len_of hm3) (I64_of hb4) (U8_of hb5)) hW0 rfl (by kernel_rfl) (by kernel_rfl) Try.underlying4 rfl
  exact ⟨_, _, rfl, rv_ints .u8 x0, _, _, rfl, rv_ints .u8 x1, _, _, rfl, hx2 _ _, _, _, rfl, hx3 _ _, _, _, rfl, by simp [Rv], _, _, rfl, by simp [Rv], by simp [RvL]⟩

theorem gcmBack_joined : joinedFacts Try.pinned.checked.prog 22 Try.f22 Rows.gcmBackSpec Rows.gcmBackRow = true := by
  unfold joinedFacts
  refine andT (andT (andT (andT (andT (andT (andT ?_ jMay) ((congrArg (fun b => Rows.gcmBackRow.lifted == b) jFinal).trans (by kernel_rfl))) ((congrArg (fun m => m == some Rows.gcmBackRow.make) jMake).trans (by kernel_rfl))) ?_) ?_) ?_) ?_
  all_goals kernel_rfl
theorem gcmBack_holds : Rows.GcmBackSaid :=
  OpenClaim.holds_of_wide 22 Try.f22 rfl rfl rfl rfl rfl rfl rfl ⟨rfl, rfl, rfl, rfl, rfl⟩ rfl rfl rfl rfl rfl (by kernel_rfl) Try.func22 gcmBack_joined
    (of_decide_eq_true (by kernel_rfl)) (by unfold Func.isWrapper; first | (rw [if_pos (by decide +kernel)]; kernel_rfl) | (rw [if_neg (by decide +kernel)]; exact ⟨rfl, rfl⟩))
    (fun os started H enc _ => gcmBack_lifted os started H enc)

end Go.Proofs.Ytdpbddomncjkjaa

