/-
  NARROWER THAN 'FOR EVERY INPUT', by the rows' own cells (each row's printed sentence says how): LadderBase: laid · CurveAdds: laid · CurveNegs: laid · LadderMuls: laid · LadderTraced: laid · LadderAdds: laid · LadderOrder: laid · CurveOn: laid · CurveSums: laid · CurveLaws: laid · LadderTwo: laid.
  DERIVED. THE GIVEN ROWS OF THIS SEAT. 11 by the template 'for every input the law returns true; each argument reads behind the call as it read before'; 0 by the template 'total and deterministic' (their statements: YtdkmdjmpkjmflaaDoorTotals.lean).
  GIVEN WITH THE SEED: the statements are not yours to turn. If you find one false, say at which input.
  Laid BY PROGRAM, IN A SANDBOX (cutbox-rows.mjs): the forced cells as the released guide's own fill.sh prints them over the translation 416a4bbb638b8aeb… (all of the seat's roots in one cut). By AI agents, Wed Nov 11 2026. No macro, syntax, notation, axiom, sorry.
-/
import Derived.Test.YtdkmdjmpkjmflaaDoorChecked
import GoSem.Claim
import GoSem.ClaimJoined
import GoSem.ClaimMapViews
import Derived.JoinedTies
import Derived.KernelRfl
namespace Go.Proofs.YtdkmdjmpkjmflaaDoor
/- THE CELL 'sum', in the pinned program and in every row, IS THE sha256 OF THE DUMP (.gsa) THAT YtdkmdjmpkjmflaaDoorProg.lean LOADS. Nothing in Lean hashes anything: it is a label: what it is worth is what the hold of that sum in a sandbox is worth. -/
noncomputable def Tryd.pinned : Pinned := { name := "ytdkmdjmpkjmflaadoor", sum := "416a4bbb638b8aeb50b37d0e99be86f09e3d4c594f146c01b51ac36bd9f8b15b", checked := Tryd.checked }
namespace Rows
def none {H : Type} : Left H := { results := [], args := [] }

/- WHAT THE LISTED PACKAGE-LEVEL VARIABLES READ AS WHEN THE CALL BEGINS. Each datum BY PROGRAM (the guide's laid-datum.mjs) off the statement by which the dump's own 'gosem.cut.vars' lays the variable. In a bare row this is a premise. The card (YtdkmdjmpkjmflaaDoorCards.lean) ties it to the program's text. -/
def laid_escutcheon_field_prime {H : Type} : DataW H := .agg [.agg [.lit (.int .u64 4294967295), .lit (.int .u64 18446744069414584320), .lit (.int .u64 18446744073709551614), .lit (.int .u64 18446744073709551615), .lit (.int .u64 18446744073709551615), .lit (.int .u64 18446744073709551615)], .lit (.int .u64 4294967297), .agg [.lit (.int .u64 18446744065119617025), .lit (.int .u64 8589934592), .lit (.int .u64 18446744065119617024), .lit (.int .u64 8589934592), .lit (.int .u64 1), .lit (.int .u64 0)]]
def laid_escutcheon_proj_prime {H : Type} : DataW H := .agg [.agg [.lit (.int .u64 4294967295), .lit (.int .u64 18446744069414584320), .lit (.int .u64 18446744073709551614), .lit (.int .u64 18446744073709551615), .lit (.int .u64 18446744073709551615), .lit (.int .u64 18446744073709551615)], .lit (.int .u64 4294967297), .agg [.lit (.int .u64 18446744065119617025), .lit (.int .u64 8589934592), .lit (.int .u64 18446744065119617024), .lit (.int .u64 8589934592), .lit (.int .u64 1), .lit (.int .u64 0)]]
def laid_escutcheon_proj_curveB {H : Type} : DataW H := .agg [.lit (.int .u64 581395848458481100), .lit (.int .u64 17809957346689692396), .lit (.int .u64 8643006485390950958), .lit (.int .u64 16372638458395724514), .lit (.int .u64 13126622871277412500), .lit (.int .u64 14774077593024970745)]
def laid_escutcheon_proj_one {H : Type} : DataW H := .agg [.lit (.int .u64 18446744069414584321), .lit (.int .u64 4294967295), .lit (.int .u64 1), .lit (.int .u64 0), .lit (.int .u64 0), .lit (.int .u64 0)]
def laid_escutcheon_curve_base {H : Type} : DataW H := .agg [.agg [.lit (.int .u64 4203087948775033527), .lit (.int .u64 6125724927633205612), .lit (.int .u64 6482722621138151992), .lit (.int .u64 7934563412932533144), .lit (.int .u64 10282218360005504372), .lit (.int .u64 12288012358878168375)], .agg [.lit (.int .u64 8809917716911230559), .lit (.int .u64 747793036959711645), .lit (.int .u64 16850834916486723776), .lit (.int .u64 17938995913990739068), .lit (.int .u64 6745997240412855337), .lit (.int .u64 3897828414440483951)], .lit (.bool false)]
def laid_escutcheon_order_group {H : Type} : DataW H := .agg [.agg [.lit (.int .u64 17072048233947408755), .lit (.int .u64 6348401684107011962), .lit (.int .u64 14367412456785391071), .lit (.int .u64 18446744073709551615), .lit (.int .u64 18446744073709551615), .lit (.int .u64 18446744073709551615)], .lit (.int .u64 7986114184663260229), .agg [.lit (.int .u64 3256554584917936553), .lit (.int .u64 18391999277541532697), .lit (.int .u64 13564358545871743303), .lit (.int .u64 15279949475123764421), .lit (.int .u64 4589268600508278933), .lit (.int .u64 902107514168524577)]]

/-- 'escutcheonlaw06.LadderBase': WHATEVER THE INPUT: true; the input reads as it did. -/
def ladderBaseSpec : ChangeSpec := { name := "ladderBase", fn := fun _ => fun
  | [d] => { results := [.lit (.bool true)], args := [d] }
  | _ => none }
def ladderBaseRow : OpenClaim := { program := "ytdkmdjmpkjmflaadoor", sum := "416a4bbb638b8aeb50b37d0e99be86f09e3d4c594f146c01b51ac36bd9f8b15b", func := "escutcheon/escutcheonlaw06.LadderBase", spec := "ladderBase", inPlace := ["math/bits.Add64", "math/bits.Sub64"], unfollowed := true, recurses := true, named := ["escutcheon/curve.base", "escutcheon/proj.one", "escutcheon/proj.prime", "escutcheon/proj.curveB", "escutcheon/field.prime"], apart := false, laid := [("escutcheon/field.prime", laid_escutcheon_field_prime), ("escutcheon/proj.prime", laid_escutcheon_proj_prime), ("escutcheon/proj.curveB", laid_escutcheon_proj_curveB), ("escutcheon/proj.one", laid_escutcheon_proj_one), ("escutcheon/curve.base", laid_escutcheon_curve_base)] }
def LadderBaseSaid : Prop := ladderBaseRow.holds Tryd.pinned (OpenSpec.ofChange ladderBaseSpec)

/-- ITS FALSE NEIGHBOUR: 'it returns false'. Refute it at one input. -/
def ladderBaseWrong : ChangeSpec := { name := "ladderBase", fn := fun _ => fun
  | [d] => { results := [.lit (.bool false)], args := [d] }
  | _ => none }
def LadderBaseWrongFalsely : Prop := ladderBaseRow.holds Tryd.pinned (OpenSpec.ofChange ladderBaseWrong)

/-- 'escutcheonlaw05.CurveAdds': WHATEVER THE INPUT: true; the input reads as it did. -/
def curveAddsSpec : ChangeSpec := { name := "curveAdds", fn := fun _ => fun
  | [d1, d2] => { results := [.lit (.bool true)], args := [d1, d2] }
  | _ => none }
def curveAddsRow : OpenClaim := { program := "ytdkmdjmpkjmflaadoor", sum := "416a4bbb638b8aeb50b37d0e99be86f09e3d4c594f146c01b51ac36bd9f8b15b", func := "escutcheon/escutcheonlaw05.CurveAdds", spec := "curveAdds", inPlace := ["math/bits.Sub64", "math/bits.Add64"], named := ["escutcheon/curve.base", "escutcheon/field.prime", "escutcheon/proj.curveB", "escutcheon/proj.prime", "escutcheon/proj.one"], apart := false, laid := [("escutcheon/field.prime", laid_escutcheon_field_prime), ("escutcheon/proj.prime", laid_escutcheon_proj_prime), ("escutcheon/proj.curveB", laid_escutcheon_proj_curveB), ("escutcheon/proj.one", laid_escutcheon_proj_one), ("escutcheon/curve.base", laid_escutcheon_curve_base)] }
def CurveAddsSaid : Prop := curveAddsRow.holds Tryd.pinned (OpenSpec.ofChange curveAddsSpec)

/-- ITS FALSE NEIGHBOUR: 'it returns false'. Refute it at one input. -/
def curveAddsWrong : ChangeSpec := { name := "curveAdds", fn := fun _ => fun
  | [d1, d2] => { results := [.lit (.bool false)], args := [d1, d2] }
  | _ => none }
def CurveAddsWrongFalsely : Prop := curveAddsRow.holds Tryd.pinned (OpenSpec.ofChange curveAddsWrong)

/-- 'escutcheonlaw05.CurveNegs': WHATEVER THE INPUT: true; the input reads as it did. -/
def curveNegsSpec : ChangeSpec := { name := "curveNegs", fn := fun _ => fun
  | [d] => { results := [.lit (.bool true)], args := [d] }
  | _ => none }
def curveNegsRow : OpenClaim := { program := "ytdkmdjmpkjmflaadoor", sum := "416a4bbb638b8aeb50b37d0e99be86f09e3d4c594f146c01b51ac36bd9f8b15b", func := "escutcheon/escutcheonlaw05.CurveNegs", spec := "curveNegs", inPlace := ["math/bits.Sub64", "math/bits.Add64"], named := ["escutcheon/curve.base", "escutcheon/field.prime", "escutcheon/proj.curveB", "escutcheon/proj.prime", "escutcheon/proj.one"], apart := false, laid := [("escutcheon/field.prime", laid_escutcheon_field_prime), ("escutcheon/proj.prime", laid_escutcheon_proj_prime), ("escutcheon/proj.curveB", laid_escutcheon_proj_curveB), ("escutcheon/proj.one", laid_escutcheon_proj_one), ("escutcheon/curve.base", laid_escutcheon_curve_base)] }
def CurveNegsSaid : Prop := curveNegsRow.holds Tryd.pinned (OpenSpec.ofChange curveNegsSpec)

/-- ITS FALSE NEIGHBOUR: 'it returns false'. Refute it at one input. -/
def curveNegsWrong : ChangeSpec := { name := "curveNegs", fn := fun _ => fun
  | [d] => { results := [.lit (.bool false)], args := [d] }
  | _ => none }
def CurveNegsWrongFalsely : Prop := curveNegsRow.holds Tryd.pinned (OpenSpec.ofChange curveNegsWrong)

/-- 'escutcheonlaw06.LadderMuls': WHATEVER THE INPUT: true; the input reads as it did. -/
def ladderMulsSpec : ChangeSpec := { name := "ladderMuls", fn := fun _ => fun
  | [d1, d2] => { results := [.lit (.bool true)], args := [d1, d2] }
  | _ => none }
def ladderMulsRow : OpenClaim := { program := "ytdkmdjmpkjmflaadoor", sum := "416a4bbb638b8aeb50b37d0e99be86f09e3d4c594f146c01b51ac36bd9f8b15b", func := "escutcheon/escutcheonlaw06.LadderMuls", spec := "ladderMuls", inPlace := ["math/bits.Add64", "math/bits.Sub64"], unfollowed := true, recurses := true, named := ["escutcheon/curve.base", "escutcheon/proj.one", "escutcheon/proj.prime", "escutcheon/proj.curveB", "escutcheon/field.prime"], apart := false, laid := [("escutcheon/field.prime", laid_escutcheon_field_prime), ("escutcheon/proj.prime", laid_escutcheon_proj_prime), ("escutcheon/proj.curveB", laid_escutcheon_proj_curveB), ("escutcheon/proj.one", laid_escutcheon_proj_one), ("escutcheon/curve.base", laid_escutcheon_curve_base)] }
def LadderMulsSaid : Prop := ladderMulsRow.holds Tryd.pinned (OpenSpec.ofChange ladderMulsSpec)

/-- ITS FALSE NEIGHBOUR: 'it returns false'. Refute it at one input. -/
def ladderMulsWrong : ChangeSpec := { name := "ladderMuls", fn := fun _ => fun
  | [d1, d2] => { results := [.lit (.bool false)], args := [d1, d2] }
  | _ => none }
def LadderMulsWrongFalsely : Prop := ladderMulsRow.holds Tryd.pinned (OpenSpec.ofChange ladderMulsWrong)

/-- 'escutcheonlaw06.LadderTraced': WHATEVER THE INPUT: true; the input reads as it did. -/
def ladderTracedSpec : ChangeSpec := { name := "ladderTraced", fn := fun _ => fun
  | [d1, d2] => { results := [.lit (.bool true)], args := [d1, d2] }
  | _ => none }
def ladderTracedRow : OpenClaim := { program := "ytdkmdjmpkjmflaadoor", sum := "416a4bbb638b8aeb50b37d0e99be86f09e3d4c594f146c01b51ac36bd9f8b15b", func := "escutcheon/escutcheonlaw06.LadderTraced", spec := "ladderTraced", inPlace := ["math/bits.Add64", "math/bits.Sub64"], unfollowed := true, recurses := true, named := ["escutcheon/curve.base", "escutcheon/proj.one", "escutcheon/proj.prime", "escutcheon/proj.curveB", "escutcheon/field.prime"], apart := false, laid := [("escutcheon/field.prime", laid_escutcheon_field_prime), ("escutcheon/proj.prime", laid_escutcheon_proj_prime), ("escutcheon/proj.curveB", laid_escutcheon_proj_curveB), ("escutcheon/proj.one", laid_escutcheon_proj_one), ("escutcheon/curve.base", laid_escutcheon_curve_base)] }
def LadderTracedSaid : Prop := ladderTracedRow.holds Tryd.pinned (OpenSpec.ofChange ladderTracedSpec)

/-- ITS FALSE NEIGHBOUR: 'it returns false'. Refute it at one input. -/
def ladderTracedWrong : ChangeSpec := { name := "ladderTraced", fn := fun _ => fun
  | [d1, d2] => { results := [.lit (.bool false)], args := [d1, d2] }
  | _ => none }
def LadderTracedWrongFalsely : Prop := ladderTracedRow.holds Tryd.pinned (OpenSpec.ofChange ladderTracedWrong)

/-- 'escutcheonlaw06.LadderAdds': WHATEVER THE INPUT: true; the input reads as it did. -/
def ladderAddsSpec : ChangeSpec := { name := "ladderAdds", fn := fun _ => fun
  | [d1, d2] => { results := [.lit (.bool true)], args := [d1, d2] }
  | _ => none }
def ladderAddsRow : OpenClaim := { program := "ytdkmdjmpkjmflaadoor", sum := "416a4bbb638b8aeb50b37d0e99be86f09e3d4c594f146c01b51ac36bd9f8b15b", func := "escutcheon/escutcheonlaw06.LadderAdds", spec := "ladderAdds", inPlace := ["math/bits.Add64", "math/bits.Sub64"], unfollowed := true, recurses := true, named := ["escutcheon/curve.base", "escutcheon/proj.one", "escutcheon/proj.prime", "escutcheon/proj.curveB", "escutcheon/field.prime", "escutcheon/order.group"], apart := false, laid := [("escutcheon/field.prime", laid_escutcheon_field_prime), ("escutcheon/order.group", laid_escutcheon_order_group), ("escutcheon/proj.prime", laid_escutcheon_proj_prime), ("escutcheon/proj.curveB", laid_escutcheon_proj_curveB), ("escutcheon/proj.one", laid_escutcheon_proj_one), ("escutcheon/curve.base", laid_escutcheon_curve_base)] }
def LadderAddsSaid : Prop := ladderAddsRow.holds Tryd.pinned (OpenSpec.ofChange ladderAddsSpec)

/-- ITS FALSE NEIGHBOUR: 'it returns false'. Refute it at one input. -/
def ladderAddsWrong : ChangeSpec := { name := "ladderAdds", fn := fun _ => fun
  | [d1, d2] => { results := [.lit (.bool false)], args := [d1, d2] }
  | _ => none }
def LadderAddsWrongFalsely : Prop := ladderAddsRow.holds Tryd.pinned (OpenSpec.ofChange ladderAddsWrong)

/-- 'escutcheonlaw06.LadderOrder': WHATEVER THE INPUT: true; the input reads as it did. -/
def ladderOrderSpec : ChangeSpec := { name := "ladderOrder", fn := fun _ => fun
  | [d] => { results := [.lit (.bool true)], args := [d] }
  | _ => none }
def ladderOrderRow : OpenClaim := { program := "ytdkmdjmpkjmflaadoor", sum := "416a4bbb638b8aeb50b37d0e99be86f09e3d4c594f146c01b51ac36bd9f8b15b", func := "escutcheon/escutcheonlaw06.LadderOrder", spec := "ladderOrder", inPlace := ["math/bits.Add64", "math/bits.Sub64"], unfollowed := true, recurses := true, named := ["escutcheon/curve.base", "escutcheon/proj.one", "escutcheon/proj.prime", "escutcheon/proj.curveB", "escutcheon/field.prime"], apart := false, laid := [("escutcheon/field.prime", laid_escutcheon_field_prime), ("escutcheon/proj.prime", laid_escutcheon_proj_prime), ("escutcheon/proj.curveB", laid_escutcheon_proj_curveB), ("escutcheon/proj.one", laid_escutcheon_proj_one), ("escutcheon/curve.base", laid_escutcheon_curve_base)] }
def LadderOrderSaid : Prop := ladderOrderRow.holds Tryd.pinned (OpenSpec.ofChange ladderOrderSpec)

/-- ITS FALSE NEIGHBOUR: 'it returns false'. Refute it at one input. -/
def ladderOrderWrong : ChangeSpec := { name := "ladderOrder", fn := fun _ => fun
  | [d] => { results := [.lit (.bool false)], args := [d] }
  | _ => none }
def LadderOrderWrongFalsely : Prop := ladderOrderRow.holds Tryd.pinned (OpenSpec.ofChange ladderOrderWrong)

/-- 'escutcheonlaw05.CurveOn': WHATEVER THE INPUT: true; the input reads as it did. -/
def curveOnSpec : ChangeSpec := { name := "curveOn", fn := fun _ => fun
  | [d1, d2, d3] => { results := [.lit (.bool true)], args := [d1, d2, d3] }
  | _ => none }
def curveOnRow : OpenClaim := { program := "ytdkmdjmpkjmflaadoor", sum := "416a4bbb638b8aeb50b37d0e99be86f09e3d4c594f146c01b51ac36bd9f8b15b", func := "escutcheon/escutcheonlaw05.CurveOn", spec := "curveOn", inPlace := ["math/bits.Sub64", "math/bits.Add64"], named := ["escutcheon/curve.base", "escutcheon/field.prime", "escutcheon/proj.curveB", "escutcheon/proj.prime", "escutcheon/proj.one"], apart := false, laid := [("escutcheon/field.prime", laid_escutcheon_field_prime), ("escutcheon/proj.prime", laid_escutcheon_proj_prime), ("escutcheon/proj.curveB", laid_escutcheon_proj_curveB), ("escutcheon/proj.one", laid_escutcheon_proj_one), ("escutcheon/curve.base", laid_escutcheon_curve_base)] }
def CurveOnSaid : Prop := curveOnRow.holds Tryd.pinned (OpenSpec.ofChange curveOnSpec)

/-- ITS FALSE NEIGHBOUR: 'it returns false'. Refute it at one input. -/
def curveOnWrong : ChangeSpec := { name := "curveOn", fn := fun _ => fun
  | [d1, d2, d3] => { results := [.lit (.bool false)], args := [d1, d2, d3] }
  | _ => none }
def CurveOnWrongFalsely : Prop := curveOnRow.holds Tryd.pinned (OpenSpec.ofChange curveOnWrong)

/-- 'escutcheonlaw05.CurveSums': WHATEVER THE INPUT: true; the input reads as it did. -/
def curveSumsSpec : ChangeSpec := { name := "curveSums", fn := fun _ => fun
  | [d1, d2, d3] => { results := [.lit (.bool true)], args := [d1, d2, d3] }
  | _ => none }
def curveSumsRow : OpenClaim := { program := "ytdkmdjmpkjmflaadoor", sum := "416a4bbb638b8aeb50b37d0e99be86f09e3d4c594f146c01b51ac36bd9f8b15b", func := "escutcheon/escutcheonlaw05.CurveSums", spec := "curveSums", inPlace := ["math/bits.Sub64", "math/bits.Add64"], named := ["escutcheon/curve.base", "escutcheon/field.prime", "escutcheon/proj.curveB", "escutcheon/proj.prime", "escutcheon/proj.one"], apart := false, laid := [("escutcheon/field.prime", laid_escutcheon_field_prime), ("escutcheon/proj.prime", laid_escutcheon_proj_prime), ("escutcheon/proj.curveB", laid_escutcheon_proj_curveB), ("escutcheon/proj.one", laid_escutcheon_proj_one), ("escutcheon/curve.base", laid_escutcheon_curve_base)] }
def CurveSumsSaid : Prop := curveSumsRow.holds Tryd.pinned (OpenSpec.ofChange curveSumsSpec)

/-- ITS FALSE NEIGHBOUR: 'it returns false'. Refute it at one input. -/
def curveSumsWrong : ChangeSpec := { name := "curveSums", fn := fun _ => fun
  | [d1, d2, d3] => { results := [.lit (.bool false)], args := [d1, d2, d3] }
  | _ => none }
def CurveSumsWrongFalsely : Prop := curveSumsRow.holds Tryd.pinned (OpenSpec.ofChange curveSumsWrong)

/-- 'escutcheonlaw05.CurveLaws': WHATEVER THE INPUT: true; the input reads as it did. -/
def curveLawsSpec : ChangeSpec := { name := "curveLaws", fn := fun _ => fun
  | [d1, d2, d3, d4] => { results := [.lit (.bool true)], args := [d1, d2, d3, d4] }
  | _ => none }
def curveLawsRow : OpenClaim := { program := "ytdkmdjmpkjmflaadoor", sum := "416a4bbb638b8aeb50b37d0e99be86f09e3d4c594f146c01b51ac36bd9f8b15b", func := "escutcheon/escutcheonlaw05.CurveLaws", spec := "curveLaws", inPlace := ["math/bits.Sub64", "math/bits.Add64"], named := ["escutcheon/curve.base", "escutcheon/field.prime", "escutcheon/proj.curveB", "escutcheon/proj.prime", "escutcheon/proj.one"], apart := false, laid := [("escutcheon/field.prime", laid_escutcheon_field_prime), ("escutcheon/proj.prime", laid_escutcheon_proj_prime), ("escutcheon/proj.curveB", laid_escutcheon_proj_curveB), ("escutcheon/proj.one", laid_escutcheon_proj_one), ("escutcheon/curve.base", laid_escutcheon_curve_base)] }
def CurveLawsSaid : Prop := curveLawsRow.holds Tryd.pinned (OpenSpec.ofChange curveLawsSpec)

/-- ITS FALSE NEIGHBOUR: 'it returns false'. Refute it at one input. -/
def curveLawsWrong : ChangeSpec := { name := "curveLaws", fn := fun _ => fun
  | [d1, d2, d3, d4] => { results := [.lit (.bool false)], args := [d1, d2, d3, d4] }
  | _ => none }
def CurveLawsWrongFalsely : Prop := curveLawsRow.holds Tryd.pinned (OpenSpec.ofChange curveLawsWrong)

/-- 'escutcheonlaw06.LadderTwo': WHATEVER THE INPUT: true; the input reads as it did. -/
def ladderTwoSpec : ChangeSpec := { name := "ladderTwo", fn := fun _ => fun
  | [d1, d2, d3] => { results := [.lit (.bool true)], args := [d1, d2, d3] }
  | _ => none }
def ladderTwoRow : OpenClaim := { program := "ytdkmdjmpkjmflaadoor", sum := "416a4bbb638b8aeb50b37d0e99be86f09e3d4c594f146c01b51ac36bd9f8b15b", func := "escutcheon/escutcheonlaw06.LadderTwo", spec := "ladderTwo", inPlace := ["math/bits.Add64", "math/bits.Sub64"], unfollowed := true, recurses := true, named := ["escutcheon/curve.base", "escutcheon/proj.one", "escutcheon/proj.prime", "escutcheon/proj.curveB", "escutcheon/field.prime"], apart := false, laid := [("escutcheon/field.prime", laid_escutcheon_field_prime), ("escutcheon/proj.prime", laid_escutcheon_proj_prime), ("escutcheon/proj.curveB", laid_escutcheon_proj_curveB), ("escutcheon/proj.one", laid_escutcheon_proj_one), ("escutcheon/curve.base", laid_escutcheon_curve_base)] }
def LadderTwoSaid : Prop := ladderTwoRow.holds Tryd.pinned (OpenSpec.ofChange ladderTwoSpec)

/-- ITS FALSE NEIGHBOUR: 'it returns false'. Refute it at one input. -/
def ladderTwoWrong : ChangeSpec := { name := "ladderTwo", fn := fun _ => fun
  | [d1, d2, d3] => { results := [.lit (.bool false)], args := [d1, d2, d3] }
  | _ => none }
def LadderTwoWrongFalsely : Prop := ladderTwoRow.holds Tryd.pinned (OpenSpec.ofChange ladderTwoWrong)

/- THE SECOND FORM. 'bulk': how many values and letters a reading holds, each counted each time it is reached (what is shared counts as often as it is met; a slice's spare places count too). A statement '..UptoSaid' is the law's where the arguments, and the package variables that the reading takes, are together of bulk at most 1048576: NARROWER than '..Said'. Prove '..Said' where nothing that the law and all that it calls make is longer than what came in: it says more and counts as full. Else prove '..UptoSaid'. A law counts once. -/
mutual
def uptoBulk {H : Type} : DataW H → Nat
  | .lit (.string bytes) => bytes.length + 1
  | .lit _ => 1
  | .nil => 1
  | .ptr d => uptoBulk d + 1
  | .slice elems spare => uptoBulkAll elems + uptoBulkAll spare + 1
  | .agg parts => uptoBulkAll parts + 1
  | .iface _ d => uptoBulk d + 1
  | .map entries => uptoBulkEntries entries + 1
  | .held _ => 1
def uptoBulkAll {H : Type} : List (DataW H) → Nat
  | [] => 0
  | d :: r => uptoBulk d + uptoBulkAll r
def uptoBulkEntries {H : Type} : List (Lit × DataW H) → Nat
  | [] => 0
  | x :: r => uptoBulkEntry x + uptoBulkEntries r
def uptoBulkEntry {H : Type} : Lit × DataW H → Nat
  | (.string bytes, d) => bytes.length + uptoBulk d + 1
  | (_, d) => uptoBulk d + 1
 end
def uptoSmall : (H : Type) → List (DataW H) → Bool := fun _ ds => decide (uptoBulkAll ds ≤ 1048576)
def OpenSpec.upto (s : _root_.Go.ChangeSpec) : _root_.Go.OpenSpec := { _root_.Go.OpenSpec.ofChange s with cond := some uptoSmall }

/-- 'escutcheonlaw06.LadderBase', WHERE WHAT IT READS IS OF BULK AT MOST 1048576: true; the input reads as it did. -/
def ladderBaseUptoRow : OpenClaim := { program := "ytdkmdjmpkjmflaadoor", sum := "416a4bbb638b8aeb50b37d0e99be86f09e3d4c594f146c01b51ac36bd9f8b15b", func := "escutcheon/escutcheonlaw06.LadderBase", spec := "ladderBase", inPlace := ["math/bits.Add64", "math/bits.Sub64"], unfollowed := true, recurses := true, named := ["escutcheon/curve.base", "escutcheon/proj.one", "escutcheon/proj.prime", "escutcheon/proj.curveB", "escutcheon/field.prime"], apart := false, laid := [("escutcheon/field.prime", laid_escutcheon_field_prime), ("escutcheon/proj.prime", laid_escutcheon_proj_prime), ("escutcheon/proj.curveB", laid_escutcheon_proj_curveB), ("escutcheon/proj.one", laid_escutcheon_proj_one), ("escutcheon/curve.base", laid_escutcheon_curve_base)], narrowed := true }
def LadderBaseUptoSaid : Prop := ladderBaseUptoRow.holds Tryd.pinned (OpenSpec.upto ladderBaseSpec)

/-- 'escutcheonlaw05.CurveAdds', WHERE WHAT IT READS IS OF BULK AT MOST 1048576: true; the input reads as it did. -/
def curveAddsUptoRow : OpenClaim := { program := "ytdkmdjmpkjmflaadoor", sum := "416a4bbb638b8aeb50b37d0e99be86f09e3d4c594f146c01b51ac36bd9f8b15b", func := "escutcheon/escutcheonlaw05.CurveAdds", spec := "curveAdds", inPlace := ["math/bits.Sub64", "math/bits.Add64"], named := ["escutcheon/curve.base", "escutcheon/field.prime", "escutcheon/proj.curveB", "escutcheon/proj.prime", "escutcheon/proj.one"], apart := false, laid := [("escutcheon/field.prime", laid_escutcheon_field_prime), ("escutcheon/proj.prime", laid_escutcheon_proj_prime), ("escutcheon/proj.curveB", laid_escutcheon_proj_curveB), ("escutcheon/proj.one", laid_escutcheon_proj_one), ("escutcheon/curve.base", laid_escutcheon_curve_base)], narrowed := true }
def CurveAddsUptoSaid : Prop := curveAddsUptoRow.holds Tryd.pinned (OpenSpec.upto curveAddsSpec)

/-- 'escutcheonlaw05.CurveNegs', WHERE WHAT IT READS IS OF BULK AT MOST 1048576: true; the input reads as it did. -/
def curveNegsUptoRow : OpenClaim := { program := "ytdkmdjmpkjmflaadoor", sum := "416a4bbb638b8aeb50b37d0e99be86f09e3d4c594f146c01b51ac36bd9f8b15b", func := "escutcheon/escutcheonlaw05.CurveNegs", spec := "curveNegs", inPlace := ["math/bits.Sub64", "math/bits.Add64"], named := ["escutcheon/curve.base", "escutcheon/field.prime", "escutcheon/proj.curveB", "escutcheon/proj.prime", "escutcheon/proj.one"], apart := false, laid := [("escutcheon/field.prime", laid_escutcheon_field_prime), ("escutcheon/proj.prime", laid_escutcheon_proj_prime), ("escutcheon/proj.curveB", laid_escutcheon_proj_curveB), ("escutcheon/proj.one", laid_escutcheon_proj_one), ("escutcheon/curve.base", laid_escutcheon_curve_base)], narrowed := true }
def CurveNegsUptoSaid : Prop := curveNegsUptoRow.holds Tryd.pinned (OpenSpec.upto curveNegsSpec)

/-- 'escutcheonlaw06.LadderMuls', WHERE WHAT IT READS IS OF BULK AT MOST 1048576: true; the input reads as it did. -/
def ladderMulsUptoRow : OpenClaim := { program := "ytdkmdjmpkjmflaadoor", sum := "416a4bbb638b8aeb50b37d0e99be86f09e3d4c594f146c01b51ac36bd9f8b15b", func := "escutcheon/escutcheonlaw06.LadderMuls", spec := "ladderMuls", inPlace := ["math/bits.Add64", "math/bits.Sub64"], unfollowed := true, recurses := true, named := ["escutcheon/curve.base", "escutcheon/proj.one", "escutcheon/proj.prime", "escutcheon/proj.curveB", "escutcheon/field.prime"], apart := false, laid := [("escutcheon/field.prime", laid_escutcheon_field_prime), ("escutcheon/proj.prime", laid_escutcheon_proj_prime), ("escutcheon/proj.curveB", laid_escutcheon_proj_curveB), ("escutcheon/proj.one", laid_escutcheon_proj_one), ("escutcheon/curve.base", laid_escutcheon_curve_base)], narrowed := true }
def LadderMulsUptoSaid : Prop := ladderMulsUptoRow.holds Tryd.pinned (OpenSpec.upto ladderMulsSpec)

/-- 'escutcheonlaw06.LadderTraced', WHERE WHAT IT READS IS OF BULK AT MOST 1048576: true; the input reads as it did. -/
def ladderTracedUptoRow : OpenClaim := { program := "ytdkmdjmpkjmflaadoor", sum := "416a4bbb638b8aeb50b37d0e99be86f09e3d4c594f146c01b51ac36bd9f8b15b", func := "escutcheon/escutcheonlaw06.LadderTraced", spec := "ladderTraced", inPlace := ["math/bits.Add64", "math/bits.Sub64"], unfollowed := true, recurses := true, named := ["escutcheon/curve.base", "escutcheon/proj.one", "escutcheon/proj.prime", "escutcheon/proj.curveB", "escutcheon/field.prime"], apart := false, laid := [("escutcheon/field.prime", laid_escutcheon_field_prime), ("escutcheon/proj.prime", laid_escutcheon_proj_prime), ("escutcheon/proj.curveB", laid_escutcheon_proj_curveB), ("escutcheon/proj.one", laid_escutcheon_proj_one), ("escutcheon/curve.base", laid_escutcheon_curve_base)], narrowed := true }
def LadderTracedUptoSaid : Prop := ladderTracedUptoRow.holds Tryd.pinned (OpenSpec.upto ladderTracedSpec)

/-- 'escutcheonlaw06.LadderAdds', WHERE WHAT IT READS IS OF BULK AT MOST 1048576: true; the input reads as it did. -/
def ladderAddsUptoRow : OpenClaim := { program := "ytdkmdjmpkjmflaadoor", sum := "416a4bbb638b8aeb50b37d0e99be86f09e3d4c594f146c01b51ac36bd9f8b15b", func := "escutcheon/escutcheonlaw06.LadderAdds", spec := "ladderAdds", inPlace := ["math/bits.Add64", "math/bits.Sub64"], unfollowed := true, recurses := true, named := ["escutcheon/curve.base", "escutcheon/proj.one", "escutcheon/proj.prime", "escutcheon/proj.curveB", "escutcheon/field.prime", "escutcheon/order.group"], apart := false, laid := [("escutcheon/field.prime", laid_escutcheon_field_prime), ("escutcheon/order.group", laid_escutcheon_order_group), ("escutcheon/proj.prime", laid_escutcheon_proj_prime), ("escutcheon/proj.curveB", laid_escutcheon_proj_curveB), ("escutcheon/proj.one", laid_escutcheon_proj_one), ("escutcheon/curve.base", laid_escutcheon_curve_base)], narrowed := true }
def LadderAddsUptoSaid : Prop := ladderAddsUptoRow.holds Tryd.pinned (OpenSpec.upto ladderAddsSpec)

/-- 'escutcheonlaw06.LadderOrder', WHERE WHAT IT READS IS OF BULK AT MOST 1048576: true; the input reads as it did. -/
def ladderOrderUptoRow : OpenClaim := { program := "ytdkmdjmpkjmflaadoor", sum := "416a4bbb638b8aeb50b37d0e99be86f09e3d4c594f146c01b51ac36bd9f8b15b", func := "escutcheon/escutcheonlaw06.LadderOrder", spec := "ladderOrder", inPlace := ["math/bits.Add64", "math/bits.Sub64"], unfollowed := true, recurses := true, named := ["escutcheon/curve.base", "escutcheon/proj.one", "escutcheon/proj.prime", "escutcheon/proj.curveB", "escutcheon/field.prime"], apart := false, laid := [("escutcheon/field.prime", laid_escutcheon_field_prime), ("escutcheon/proj.prime", laid_escutcheon_proj_prime), ("escutcheon/proj.curveB", laid_escutcheon_proj_curveB), ("escutcheon/proj.one", laid_escutcheon_proj_one), ("escutcheon/curve.base", laid_escutcheon_curve_base)], narrowed := true }
def LadderOrderUptoSaid : Prop := ladderOrderUptoRow.holds Tryd.pinned (OpenSpec.upto ladderOrderSpec)

/-- 'escutcheonlaw05.CurveOn', WHERE WHAT IT READS IS OF BULK AT MOST 1048576: true; the input reads as it did. -/
def curveOnUptoRow : OpenClaim := { program := "ytdkmdjmpkjmflaadoor", sum := "416a4bbb638b8aeb50b37d0e99be86f09e3d4c594f146c01b51ac36bd9f8b15b", func := "escutcheon/escutcheonlaw05.CurveOn", spec := "curveOn", inPlace := ["math/bits.Sub64", "math/bits.Add64"], named := ["escutcheon/curve.base", "escutcheon/field.prime", "escutcheon/proj.curveB", "escutcheon/proj.prime", "escutcheon/proj.one"], apart := false, laid := [("escutcheon/field.prime", laid_escutcheon_field_prime), ("escutcheon/proj.prime", laid_escutcheon_proj_prime), ("escutcheon/proj.curveB", laid_escutcheon_proj_curveB), ("escutcheon/proj.one", laid_escutcheon_proj_one), ("escutcheon/curve.base", laid_escutcheon_curve_base)], narrowed := true }
def CurveOnUptoSaid : Prop := curveOnUptoRow.holds Tryd.pinned (OpenSpec.upto curveOnSpec)

/-- 'escutcheonlaw05.CurveSums', WHERE WHAT IT READS IS OF BULK AT MOST 1048576: true; the input reads as it did. -/
def curveSumsUptoRow : OpenClaim := { program := "ytdkmdjmpkjmflaadoor", sum := "416a4bbb638b8aeb50b37d0e99be86f09e3d4c594f146c01b51ac36bd9f8b15b", func := "escutcheon/escutcheonlaw05.CurveSums", spec := "curveSums", inPlace := ["math/bits.Sub64", "math/bits.Add64"], named := ["escutcheon/curve.base", "escutcheon/field.prime", "escutcheon/proj.curveB", "escutcheon/proj.prime", "escutcheon/proj.one"], apart := false, laid := [("escutcheon/field.prime", laid_escutcheon_field_prime), ("escutcheon/proj.prime", laid_escutcheon_proj_prime), ("escutcheon/proj.curveB", laid_escutcheon_proj_curveB), ("escutcheon/proj.one", laid_escutcheon_proj_one), ("escutcheon/curve.base", laid_escutcheon_curve_base)], narrowed := true }
def CurveSumsUptoSaid : Prop := curveSumsUptoRow.holds Tryd.pinned (OpenSpec.upto curveSumsSpec)

/-- 'escutcheonlaw05.CurveLaws', WHERE WHAT IT READS IS OF BULK AT MOST 1048576: true; the input reads as it did. -/
def curveLawsUptoRow : OpenClaim := { program := "ytdkmdjmpkjmflaadoor", sum := "416a4bbb638b8aeb50b37d0e99be86f09e3d4c594f146c01b51ac36bd9f8b15b", func := "escutcheon/escutcheonlaw05.CurveLaws", spec := "curveLaws", inPlace := ["math/bits.Sub64", "math/bits.Add64"], named := ["escutcheon/curve.base", "escutcheon/field.prime", "escutcheon/proj.curveB", "escutcheon/proj.prime", "escutcheon/proj.one"], apart := false, laid := [("escutcheon/field.prime", laid_escutcheon_field_prime), ("escutcheon/proj.prime", laid_escutcheon_proj_prime), ("escutcheon/proj.curveB", laid_escutcheon_proj_curveB), ("escutcheon/proj.one", laid_escutcheon_proj_one), ("escutcheon/curve.base", laid_escutcheon_curve_base)], narrowed := true }
def CurveLawsUptoSaid : Prop := curveLawsUptoRow.holds Tryd.pinned (OpenSpec.upto curveLawsSpec)

/-- 'escutcheonlaw06.LadderTwo', WHERE WHAT IT READS IS OF BULK AT MOST 1048576: true; the input reads as it did. -/
def ladderTwoUptoRow : OpenClaim := { program := "ytdkmdjmpkjmflaadoor", sum := "416a4bbb638b8aeb50b37d0e99be86f09e3d4c594f146c01b51ac36bd9f8b15b", func := "escutcheon/escutcheonlaw06.LadderTwo", spec := "ladderTwo", inPlace := ["math/bits.Add64", "math/bits.Sub64"], unfollowed := true, recurses := true, named := ["escutcheon/curve.base", "escutcheon/proj.one", "escutcheon/proj.prime", "escutcheon/proj.curveB", "escutcheon/field.prime"], apart := false, laid := [("escutcheon/field.prime", laid_escutcheon_field_prime), ("escutcheon/proj.prime", laid_escutcheon_proj_prime), ("escutcheon/proj.curveB", laid_escutcheon_proj_curveB), ("escutcheon/proj.one", laid_escutcheon_proj_one), ("escutcheon/curve.base", laid_escutcheon_curve_base)], narrowed := true }
def LadderTwoUptoSaid : Prop := ladderTwoUptoRow.holds Tryd.pinned (OpenSpec.upto ladderTwoSpec)

end Rows
end Go.Proofs.YtdkmdjmpkjmflaaDoor
