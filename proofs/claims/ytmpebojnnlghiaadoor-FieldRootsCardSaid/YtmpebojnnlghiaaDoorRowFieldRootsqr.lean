/- Contracts of the program's functions, and laws over them. There is no further condition. -/
import Derived.Test.YtmpebojnnlghiaaDoorU6qr
import Derived.Test.YtmpebojnnlghiaaDoorRows
import Derived.Test.YtmpebojnnlghiaaDoorTie
import Derived.Test.YtmpebojnnlghiaaDoorCards
import Derived.SevenTiedAt
import Derived.LaidMore
import Derived.OpenShut
import Derived.Stop.Joined
set_option linter.unusedVariables false
set_option linter.unusedSimpArgs false
set_option exponentiation.threshold 2000
namespace Go.Proofs.YtmpebojnnlghiaaDoor
open Go Go.Proofs Eng Go.ChangeShapes Go.WideShapes Go.ChangeAt Go.RowKit

set_option maxRecDepth 100000 in
theorem fieldRoots_lifted (os : Os) (started : os.Started) (H : Type) (enc : TypeId × Value → H) :
    ReturnsInHanded {} Tryd.checked os 13 .any (fun w args => (Rows.fieldRootsSpec.pre enc Tryd.prog Tryd.f13 [] false w args ∧ laidMetH Tryd.prog [("escutcheon/field.prime", Rows.laid_escutcheon_field_prime)] w) ∧ sizedMet enc Tryd.prog Tryd.f13 (OpenSpec.ofChange Rows.fieldRootsSpec) false w args)
      (Rows.fieldRootsSpec.post enc Tryd.prog Tryd.f13 false true false false) := by
  refine returnsInHanded_of_change_and (C := Tryd.checked) (X := fun w _ => laidMetH Tryd.prog [("escutcheon/field.prime", Rows.laid_escutcheon_field_prime)] w) (fun _ _ _ hh h => h.of_heap hh) own' started (by kernel_rfl) Tryd.func13
    (ChangeSpec.witness_shaped (enc := enc) (C := Tryd.checked) (os := os) (X := fun w _ => laidMetH Tryd.prog [("escutcheon/field.prime", Rows.laid_escutcheon_field_prime)] w) false (World.doorLaid Tryd.prog 23 os) #[.agg #[.int .u64 0, .int .u64 0, .int .u64 0, .int .u64 0, .int .u64 0, .int .u64 0]] 8 rfl (World.shaped_of_RefB (by kernel_rfl) (by kernel_rfl)) (by kernel_rfl) (by kernel_rfl) (by kernel_rfl) (prime_met os _)) ?_
  intro W base args ds gs before hval0 hW _ _ hL _
  have hval : ∀ (j : Nat) t v, Tryd.f13.params[j]? = some t → args[j]? = some v → Value.okWide Tryd.prog W .any base t v := hval0
  have hp : Tryd.f13.params = #[24] := by kernel_rfl
  have hW0 := hW
  obtain ⟨p, q, hA0, hV, _, _, _⟩ := hW
  have hA : DataW.TrodAll enc Tryd.prog W 0 (fun _ => true) true Tryd.f13.params.toList args.toList ds p := hA0
  rw [hp] at hA hval
  obtain ⟨v0, d0, pp0, rfl, rfl, ht0⟩ := args_T1 hA
  obtain ⟨rfl, rfl⟩ := trodVars_none hV
  obtain ⟨x0, rfl, hl0, hb0⟩ := open_ints_val (k := .u64) (n := 6) (e := 22) Tryd.underlying24 Tryd.underlying22 ct24 co24 (hval 0 24 v0 rfl rfl)
  refine law_callsG (tb := 4) (avs := [.agg (ints .u64 x0)]) (prime_glob hL) laidOut snd13 ?_ (S13_eq x0 (U6_of hl0 hb0)) hW0 rfl (by kernel_rfl) (by kernel_rfl) Tryd.underlying4 rfl
  exact ⟨_, _, rfl, rv_ints .u64 x0, by simp [RvL]⟩

theorem fieldRoots_joined : joinedFacts Tryd.pinned.checked.prog 13 Tryd.f13 Rows.fieldRootsSpec Rows.fieldRootsRow = true := by
  unfold joinedFacts
  refine andT (andT (andT (andT (andT (andT (andT ?_ jMay) ((congrArg (fun b => Rows.fieldRootsRow.lifted == b) jFinal).trans (by kernel_rfl))) ((congrArg (fun m => m == some Rows.fieldRootsRow.make) jMake).trans (by kernel_rfl))) ?_) ?_) ?_) ?_
  all_goals kernel_rfl
theorem fieldRoots_holds : Rows.FieldRootsSaid :=
  OpenClaim.holds_of_wide 13 Tryd.f13 rfl rfl rfl rfl rfl rfl rfl ⟨rfl, rfl, rfl, rfl, rfl⟩ rfl rfl rfl rfl rfl (by kernel_rfl) Tryd.func13 fieldRoots_joined
    (of_decide_eq_true (by kernel_rfl)) (by unfold Func.isWrapper; first | (rw [if_pos (by decide +kernel)]; kernel_rfl) | (rw [if_neg (by decide +kernel)]; exact ⟨rfl, rfl⟩))
    (fun os started H enc _ => fieldRoots_lifted os started H enc)
/-- The tied card. -/
theorem fieldRoots_card : Rows.FieldRootsCardSaid :=
  Claim7.holds_tied_plain_at .later [] [.data] true (true, "1218afba1c7a49eda64617018ba7c80e5349cc18e9b3530d865c85b6efc0edb5") true
    fieldRoots_holds (fun _ h => by cases h) (by kernel_rfl) (fun _ h => by cases h) fieldRoots_row_tie rfl ⟨rfl, rfl⟩ (by kernel_rfl) rfl
    (fun f fn hf hfn => by
      obtain rfl : f = 13 := Option.some.inj ((show Tryd.prog.funcNamed "escutcheon/escutcheonlaw03.FieldRoots" = some 13 by kernel_rfl).symm.trans hf) |>.symm
      obtain rfl : fn = Tryd.f13 := (Option.some.inj (Tryd.func13.symm.trans hfn)).symm
      exact ⟨by kernel_rfl, fun j t ht => by
        rw [show Tryd.f13.params = #[24] by kernel_rfl] at ht
        have hm : t ∈ [24] := by simpa using Array.mem_of_getElem? ht
        have hall : ([24].all fun u => !Tryd.prog.wantsStandIn u) = true := by kernel_rfl
        exact (show Tryd.prog.wantsStandIn t = false by simpa using List.all_eq_true.1 hall t hm)⟩)
    (by kernel_rfl)
end Go.Proofs.YtmpebojnnlghiaaDoor

