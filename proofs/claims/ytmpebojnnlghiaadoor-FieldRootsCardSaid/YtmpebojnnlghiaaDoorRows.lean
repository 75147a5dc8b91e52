/-
  NARROWER THAN 'FOR EVERY INPUT', by the rows' own cells (each row's printed sentence says how): FieldPrime: laid · OrderSums: laid · FieldSums: laid · FieldDecodes: laid · OrderDecodes: laid · FieldMuls: laid · OrderMuls: laid · FieldLaws: laid · FieldInvs: laid · OrderInvs: laid · FieldRoots: laid.
  DERIVED. THE GIVEN ROWS OF THIS SEAT. 11 by the template 'for every input the law returns true; each argument reads behind the call as it read before'; 0 by the template 'total and deterministic' (their statements: YtmpebojnnlghiaaDoorTotals.lean).
  GIVEN WITH THE SEED: the statements are not yours to turn. If you find one false, say at which input.
  Laid BY PROGRAM, IN A SANDBOX (cutbox-rows.mjs): the forced cells as the released guide's own fill.sh prints them over the translation fd15962bdccf1d8a… (all of the seat's roots in one cut). By AI agents, Wed Nov 11 2026. No macro, syntax, notation, axiom, sorry.
-/
import Derived.Test.YtmpebojnnlghiaaDoorChecked
import GoSem.Claim
import GoSem.ClaimJoined
import GoSem.ClaimMapViews
import Derived.JoinedTies
import Derived.KernelRfl
namespace Go.Proofs.YtmpebojnnlghiaaDoor
/- THE CELL 'sum', in the pinned program and in every row, IS THE sha256 OF THE DUMP (.gsa) THAT YtmpebojnnlghiaaDoorProg.lean LOADS. Nothing in Lean hashes anything: it is a label: what it is worth is what the hold of that sum in a sandbox is worth. -/
noncomputable def Tryd.pinned : Pinned := { name := "ytmpebojnnlghiaadoor", sum := "fd15962bdccf1d8a9b1ea4598603b6e684b450686dc7cd68016424f59d853b16", checked := Tryd.checked }
namespace Rows
def none {H : Type} : Left H := { results := [], args := [] }

/- WHAT THE LISTED PACKAGE-LEVEL VARIABLES READ AS WHEN THE CALL BEGINS. Each datum BY PROGRAM (the guide's laid-datum.mjs) off the statement by which the dump's own 'gosem.cut.vars' lays the variable. In a bare row this is a premise. The card (YtmpebojnnlghiaaDoorCards.lean) ties it to the program's text. -/
def laid_escutcheon_field_prime {H : Type} : DataW H := .agg [.agg [.lit (.int .u64 4294967295), .lit (.int .u64 18446744069414584320), .lit (.int .u64 18446744073709551614), .lit (.int .u64 18446744073709551615), .lit (.int .u64 18446744073709551615), .lit (.int .u64 18446744073709551615)], .lit (.int .u64 4294967297), .agg [.lit (.int .u64 18446744065119617025), .lit (.int .u64 8589934592), .lit (.int .u64 18446744065119617024), .lit (.int .u64 8589934592), .lit (.int .u64 1), .lit (.int .u64 0)]]
def laid_escutcheon_order_group {H : Type} : DataW H := .agg [.agg [.lit (.int .u64 17072048233947408755), .lit (.int .u64 6348401684107011962), .lit (.int .u64 14367412456785391071), .lit (.int .u64 18446744073709551615), .lit (.int .u64 18446744073709551615), .lit (.int .u64 18446744073709551615)], .lit (.int .u64 7986114184663260229), .agg [.lit (.int .u64 3256554584917936553), .lit (.int .u64 18391999277541532697), .lit (.int .u64 13564358545871743303), .lit (.int .u64 15279949475123764421), .lit (.int .u64 4589268600508278933), .lit (.int .u64 902107514168524577)]]

/-- 'escutcheonlaw03.FieldPrime': WHATEVER THE INPUT: true; the input reads as it did. -/
def fieldPrimeSpec : ChangeSpec := { name := "fieldPrime", fn := fun _ => fun
  | [d] => { results := [.lit (.bool true)], args := [d] }
  | _ => none }
def fieldPrimeRow : OpenClaim := { program := "ytmpebojnnlghiaadoor", sum := "fd15962bdccf1d8a9b1ea4598603b6e684b450686dc7cd68016424f59d853b16", func := "escutcheon/escutcheonlaw03.FieldPrime", spec := "fieldPrime", inPlace := ["math/bits.Sub64", "math/bits.Add64"], named := ["escutcheon/field.prime"], apart := false, laid := [("escutcheon/field.prime", laid_escutcheon_field_prime)] }
def FieldPrimeSaid : Prop := fieldPrimeRow.holds Tryd.pinned (OpenSpec.ofChange fieldPrimeSpec)

/-- ITS FALSE NEIGHBOUR: 'it returns false'. Refute it at one input. -/
def fieldPrimeWrong : ChangeSpec := { name := "fieldPrime", fn := fun _ => fun
  | [d] => { results := [.lit (.bool false)], args := [d] }
  | _ => none }
def FieldPrimeWrongFalsely : Prop := fieldPrimeRow.holds Tryd.pinned (OpenSpec.ofChange fieldPrimeWrong)

/-- 'escutcheonlaw04.OrderSums': WHATEVER THE INPUT: true; the input reads as it did. -/
def orderSumsSpec : ChangeSpec := { name := "orderSums", fn := fun _ => fun
  | [d1, d2] => { results := [.lit (.bool true)], args := [d1, d2] }
  | _ => none }
def orderSumsRow : OpenClaim := { program := "ytmpebojnnlghiaadoor", sum := "fd15962bdccf1d8a9b1ea4598603b6e684b450686dc7cd68016424f59d853b16", func := "escutcheon/escutcheonlaw04.OrderSums", spec := "orderSums", inPlace := ["math/bits.Sub64", "math/bits.Add64"], named := ["escutcheon/order.group"], apart := false, laid := [("escutcheon/order.group", laid_escutcheon_order_group)] }
def OrderSumsSaid : Prop := orderSumsRow.holds Tryd.pinned (OpenSpec.ofChange orderSumsSpec)

/-- ITS FALSE NEIGHBOUR: 'it returns false'. Refute it at one input. -/
def orderSumsWrong : ChangeSpec := { name := "orderSums", fn := fun _ => fun
  | [d1, d2] => { results := [.lit (.bool false)], args := [d1, d2] }
  | _ => none }
def OrderSumsWrongFalsely : Prop := orderSumsRow.holds Tryd.pinned (OpenSpec.ofChange orderSumsWrong)

/-- 'escutcheonlaw03.FieldSums': WHATEVER THE INPUT: true; the input reads as it did. -/
def fieldSumsSpec : ChangeSpec := { name := "fieldSums", fn := fun _ => fun
  | [d1, d2] => { results := [.lit (.bool true)], args := [d1, d2] }
  | _ => none }
def fieldSumsRow : OpenClaim := { program := "ytmpebojnnlghiaadoor", sum := "fd15962bdccf1d8a9b1ea4598603b6e684b450686dc7cd68016424f59d853b16", func := "escutcheon/escutcheonlaw03.FieldSums", spec := "fieldSums", inPlace := ["math/bits.Sub64", "math/bits.Add64"], named := ["escutcheon/field.prime"], apart := false, laid := [("escutcheon/field.prime", laid_escutcheon_field_prime)] }
def FieldSumsSaid : Prop := fieldSumsRow.holds Tryd.pinned (OpenSpec.ofChange fieldSumsSpec)

/-- ITS FALSE NEIGHBOUR: 'it returns false'. Refute it at one input. -/
def fieldSumsWrong : ChangeSpec := { name := "fieldSums", fn := fun _ => fun
  | [d1, d2] => { results := [.lit (.bool false)], args := [d1, d2] }
  | _ => none }
def FieldSumsWrongFalsely : Prop := fieldSumsRow.holds Tryd.pinned (OpenSpec.ofChange fieldSumsWrong)

/-- 'escutcheonlaw03.FieldDecodes': WHATEVER THE INPUT: true; the input reads as it did. -/
def fieldDecodesSpec : ChangeSpec := { name := "fieldDecodes", fn := fun _ => fun
  | [d] => { results := [.lit (.bool true)], args := [d] }
  | _ => none }
def fieldDecodesRow : OpenClaim := { program := "ytmpebojnnlghiaadoor", sum := "fd15962bdccf1d8a9b1ea4598603b6e684b450686dc7cd68016424f59d853b16", func := "escutcheon/escutcheonlaw03.FieldDecodes", spec := "fieldDecodes", inPlace := ["math/bits.Sub64", "math/bits.Add64"], named := ["escutcheon/field.prime"], apart := false, laid := [("escutcheon/field.prime", laid_escutcheon_field_prime)] }
def FieldDecodesSaid : Prop := fieldDecodesRow.holds Tryd.pinned (OpenSpec.ofChange fieldDecodesSpec)

/-- ITS FALSE NEIGHBOUR: 'it returns false'. Refute it at one input. -/
def fieldDecodesWrong : ChangeSpec := { name := "fieldDecodes", fn := fun _ => fun
  | [d] => { results := [.lit (.bool false)], args := [d] }
  | _ => none }
def FieldDecodesWrongFalsely : Prop := fieldDecodesRow.holds Tryd.pinned (OpenSpec.ofChange fieldDecodesWrong)

/-- 'escutcheonlaw04.OrderDecodes': WHATEVER THE INPUT: true; the input reads as it did. -/
def orderDecodesSpec : ChangeSpec := { name := "orderDecodes", fn := fun _ => fun
  | [d] => { results := [.lit (.bool true)], args := [d] }
  | _ => none }
def orderDecodesRow : OpenClaim := { program := "ytmpebojnnlghiaadoor", sum := "fd15962bdccf1d8a9b1ea4598603b6e684b450686dc7cd68016424f59d853b16", func := "escutcheon/escutcheonlaw04.OrderDecodes", spec := "orderDecodes", inPlace := ["math/bits.Sub64", "math/bits.Add64"], named := ["escutcheon/order.group"], apart := false, laid := [("escutcheon/order.group", laid_escutcheon_order_group)] }
def OrderDecodesSaid : Prop := orderDecodesRow.holds Tryd.pinned (OpenSpec.ofChange orderDecodesSpec)

/-- ITS FALSE NEIGHBOUR: 'it returns false'. Refute it at one input. -/
def orderDecodesWrong : ChangeSpec := { name := "orderDecodes", fn := fun _ => fun
  | [d] => { results := [.lit (.bool false)], args := [d] }
  | _ => none }
def OrderDecodesWrongFalsely : Prop := orderDecodesRow.holds Tryd.pinned (OpenSpec.ofChange orderDecodesWrong)

/-- 'escutcheonlaw03.FieldMuls': WHATEVER THE INPUT: true; the input reads as it did. -/
def fieldMulsSpec : ChangeSpec := { name := "fieldMuls", fn := fun _ => fun
  | [d1, d2] => { results := [.lit (.bool true)], args := [d1, d2] }
  | _ => none }
def fieldMulsRow : OpenClaim := { program := "ytmpebojnnlghiaadoor", sum := "fd15962bdccf1d8a9b1ea4598603b6e684b450686dc7cd68016424f59d853b16", func := "escutcheon/escutcheonlaw03.FieldMuls", spec := "fieldMuls", inPlace := ["math/bits.Sub64", "math/bits.Add64"], named := ["escutcheon/field.prime"], apart := false, laid := [("escutcheon/field.prime", laid_escutcheon_field_prime)] }
def FieldMulsSaid : Prop := fieldMulsRow.holds Tryd.pinned (OpenSpec.ofChange fieldMulsSpec)

/-- ITS FALSE NEIGHBOUR: 'it returns false'. Refute it at one input. -/
def fieldMulsWrong : ChangeSpec := { name := "fieldMuls", fn := fun _ => fun
  | [d1, d2] => { results := [.lit (.bool false)], args := [d1, d2] }
  | _ => none }
def FieldMulsWrongFalsely : Prop := fieldMulsRow.holds Tryd.pinned (OpenSpec.ofChange fieldMulsWrong)

/-- 'escutcheonlaw04.OrderMuls': WHATEVER THE INPUT: true; the input reads as it did. -/
def orderMulsSpec : ChangeSpec := { name := "orderMuls", fn := fun _ => fun
  | [d1, d2] => { results := [.lit (.bool true)], args := [d1, d2] }
  | _ => none }
def orderMulsRow : OpenClaim := { program := "ytmpebojnnlghiaadoor", sum := "fd15962bdccf1d8a9b1ea4598603b6e684b450686dc7cd68016424f59d853b16", func := "escutcheon/escutcheonlaw04.OrderMuls", spec := "orderMuls", inPlace := ["math/bits.Sub64", "math/bits.Add64"], named := ["escutcheon/order.group"], apart := false, laid := [("escutcheon/order.group", laid_escutcheon_order_group)] }
def OrderMulsSaid : Prop := orderMulsRow.holds Tryd.pinned (OpenSpec.ofChange orderMulsSpec)

/-- ITS FALSE NEIGHBOUR: 'it returns false'. Refute it at one input. -/
def orderMulsWrong : ChangeSpec := { name := "orderMuls", fn := fun _ => fun
  | [d1, d2] => { results := [.lit (.bool false)], args := [d1, d2] }
  | _ => none }
def OrderMulsWrongFalsely : Prop := orderMulsRow.holds Tryd.pinned (OpenSpec.ofChange orderMulsWrong)

/-- 'escutcheonlaw03.FieldLaws': WHATEVER THE INPUT: true; the input reads as it did. -/
def fieldLawsSpec : ChangeSpec := { name := "fieldLaws", fn := fun _ => fun
  | [d1, d2, d3] => { results := [.lit (.bool true)], args := [d1, d2, d3] }
  | _ => none }
def fieldLawsRow : OpenClaim := { program := "ytmpebojnnlghiaadoor", sum := "fd15962bdccf1d8a9b1ea4598603b6e684b450686dc7cd68016424f59d853b16", func := "escutcheon/escutcheonlaw03.FieldLaws", spec := "fieldLaws", inPlace := ["math/bits.Sub64", "math/bits.Add64"], named := ["escutcheon/field.prime"], apart := false, laid := [("escutcheon/field.prime", laid_escutcheon_field_prime)] }
def FieldLawsSaid : Prop := fieldLawsRow.holds Tryd.pinned (OpenSpec.ofChange fieldLawsSpec)

/-- ITS FALSE NEIGHBOUR: 'it returns false'. Refute it at one input. -/
def fieldLawsWrong : ChangeSpec := { name := "fieldLaws", fn := fun _ => fun
  | [d1, d2, d3] => { results := [.lit (.bool false)], args := [d1, d2, d3] }
  | _ => none }
def FieldLawsWrongFalsely : Prop := fieldLawsRow.holds Tryd.pinned (OpenSpec.ofChange fieldLawsWrong)

/-- 'escutcheonlaw03.FieldInvs': WHATEVER THE INPUT: true; the input reads as it did. -/
def fieldInvsSpec : ChangeSpec := { name := "fieldInvs", fn := fun _ => fun
  | [d] => { results := [.lit (.bool true)], args := [d] }
  | _ => none }
def fieldInvsRow : OpenClaim := { program := "ytmpebojnnlghiaadoor", sum := "fd15962bdccf1d8a9b1ea4598603b6e684b450686dc7cd68016424f59d853b16", func := "escutcheon/escutcheonlaw03.FieldInvs", spec := "fieldInvs", inPlace := ["math/bits.Sub64", "math/bits.Add64"], named := ["escutcheon/field.prime"], apart := false, laid := [("escutcheon/field.prime", laid_escutcheon_field_prime)] }
def FieldInvsSaid : Prop := fieldInvsRow.holds Tryd.pinned (OpenSpec.ofChange fieldInvsSpec)

/-- ITS FALSE NEIGHBOUR: 'it returns false'. Refute it at one input. -/
def fieldInvsWrong : ChangeSpec := { name := "fieldInvs", fn := fun _ => fun
  | [d] => { results := [.lit (.bool false)], args := [d] }
  | _ => none }
def FieldInvsWrongFalsely : Prop := fieldInvsRow.holds Tryd.pinned (OpenSpec.ofChange fieldInvsWrong)

/-- 'escutcheonlaw04.OrderInvs': WHATEVER THE INPUT: true; the input reads as it did. -/
def orderInvsSpec : ChangeSpec := { name := "orderInvs", fn := fun _ => fun
  | [d1, d2] => { results := [.lit (.bool true)], args := [d1, d2] }
  | _ => none }
def orderInvsRow : OpenClaim := { program := "ytmpebojnnlghiaadoor", sum := "fd15962bdccf1d8a9b1ea4598603b6e684b450686dc7cd68016424f59d853b16", func := "escutcheon/escutcheonlaw04.OrderInvs", spec := "orderInvs", inPlace := ["math/bits.Sub64", "math/bits.Add64"], named := ["escutcheon/order.group"], apart := false, laid := [("escutcheon/order.group", laid_escutcheon_order_group)] }
def OrderInvsSaid : Prop := orderInvsRow.holds Tryd.pinned (OpenSpec.ofChange orderInvsSpec)

/-- ITS FALSE NEIGHBOUR: 'it returns false'. Refute it at one input. -/
def orderInvsWrong : ChangeSpec := { name := "orderInvs", fn := fun _ => fun
  | [d1, d2] => { results := [.lit (.bool false)], args := [d1, d2] }
  | _ => none }
def OrderInvsWrongFalsely : Prop := orderInvsRow.holds Tryd.pinned (OpenSpec.ofChange orderInvsWrong)

/-- 'escutcheonlaw03.FieldRoots': WHATEVER THE INPUT: true; the input reads as it did. -/
def fieldRootsSpec : ChangeSpec := { name := "fieldRoots", fn := fun _ => fun
  | [d] => { results := [.lit (.bool true)], args := [d] }
  | _ => none }
def fieldRootsRow : OpenClaim := { program := "ytmpebojnnlghiaadoor", sum := "fd15962bdccf1d8a9b1ea4598603b6e684b450686dc7cd68016424f59d853b16", func := "escutcheon/escutcheonlaw03.FieldRoots", spec := "fieldRoots", inPlace := ["math/bits.Add64", "math/bits.Sub64"], named := ["escutcheon/field.prime"], apart := false, laid := [("escutcheon/field.prime", laid_escutcheon_field_prime)] }
def FieldRootsSaid : Prop := fieldRootsRow.holds Tryd.pinned (OpenSpec.ofChange fieldRootsSpec)

/-- ITS FALSE NEIGHBOUR: 'it returns false'. Refute it at one input. -/
def fieldRootsWrong : ChangeSpec := { name := "fieldRoots", fn := fun _ => fun
  | [d] => { results := [.lit (.bool false)], args := [d] }
  | _ => none }
def FieldRootsWrongFalsely : Prop := fieldRootsRow.holds Tryd.pinned (OpenSpec.ofChange fieldRootsWrong)

/- THE SECOND FORM. 'bulk': how many values and letters a reading holds, each counted each time it is reached (what is shared counts as often as it is met; a slice's spare places count too). A statement '..UptoSaid' is the law's where the arguments, and the package variables that the reading takes, are together of bulk at most 1048576: NARROWER than '..Said'. Prove '..Said' where nothing that the law and all that it calls make is longer than what came in: it says more and counts as full. Else prove '..UptoSaid'. A law counts once. -/
mutual
def uptoBulk {H : Type} : DataW H → Nat
  | .lit (.string bytes) => bytes.length + 1
  | .lit _ => 1
  | .nil => 1
  | .ptr d => uptoBulk d + 1
  | .slice elems spare => uptoBulkAll elems + uptoBulkAll spare + 1
  | .agg parts => uptoBulkAll parts + 1
  | .iface _ d => uptoBulk d + 1
  | .map entries => uptoBulkEntries entries + 1
  | .held _ => 1
def uptoBulkAll {H : Type} : List (DataW H) → Nat
  | [] => 0
  | d :: r => uptoBulk d + uptoBulkAll r
def uptoBulkEntries {H : Type} : List (Lit × DataW H) → Nat
  | [] => 0
  | x :: r => uptoBulkEntry x + uptoBulkEntries r
def uptoBulkEntry {H : Type} : Lit × DataW H → Nat
  | (.string bytes, d) => bytes.length + uptoBulk d + 1
  | (_, d) => uptoBulk d + 1
 end
def uptoSmall : (H : Type) → List (DataW H) → Bool := fun _ ds => decide (uptoBulkAll ds ≤ 1048576)
def OpenSpec.upto (s : _root_.Go.ChangeSpec) : _root_.Go.OpenSpec := { _root_.Go.OpenSpec.ofChange s with cond := some uptoSmall }

/-- 'escutcheonlaw03.FieldPrime', WHERE WHAT IT READS IS OF BULK AT MOST 1048576: true; the input reads as it did. -/
def fieldPrimeUptoRow : OpenClaim := { program := "ytmpebojnnlghiaadoor", sum := "fd15962bdccf1d8a9b1ea4598603b6e684b450686dc7cd68016424f59d853b16", func := "escutcheon/escutcheonlaw03.FieldPrime", spec := "fieldPrime", inPlace := ["math/bits.Sub64", "math/bits.Add64"], named := ["escutcheon/field.prime"], apart := false, laid := [("escutcheon/field.prime", laid_escutcheon_field_prime)], narrowed := true }
def FieldPrimeUptoSaid : Prop := fieldPrimeUptoRow.holds Tryd.pinned (OpenSpec.upto fieldPrimeSpec)

/-- 'escutcheonlaw04.OrderSums', WHERE WHAT IT READS IS OF BULK AT MOST 1048576: true; the input reads as it did. -/
def orderSumsUptoRow : OpenClaim := { program := "ytmpebojnnlghiaadoor", sum := "fd15962bdccf1d8a9b1ea4598603b6e684b450686dc7cd68016424f59d853b16", func := "escutcheon/escutcheonlaw04.OrderSums", spec := "orderSums", inPlace := ["math/bits.Sub64", "math/bits.Add64"], named := ["escutcheon/order.group"], apart := false, laid := [("escutcheon/order.group", laid_escutcheon_order_group)], narrowed := true }
def OrderSumsUptoSaid : Prop := orderSumsUptoRow.holds Tryd.pinned (OpenSpec.upto orderSumsSpec)

/-- 'escutcheonlaw03.FieldSums', WHERE WHAT IT READS IS OF BULK AT MOST 1048576: true; the input reads as it did. -/
def fieldSumsUptoRow : OpenClaim := { program := "ytmpebojnnlghiaadoor", sum := "fd15962bdccf1d8a9b1ea4598603b6e684b450686dc7cd68016424f59d853b16", func := "escutcheon/escutcheonlaw03.FieldSums", spec := "fieldSums", inPlace := ["math/bits.Sub64", "math/bits.Add64"], named := ["escutcheon/field.prime"], apart := false, laid := [("escutcheon/field.prime", laid_escutcheon_field_prime)], narrowed := true }
def FieldSumsUptoSaid : Prop := fieldSumsUptoRow.holds Tryd.pinned (OpenSpec.upto fieldSumsSpec)

/-- 'escutcheonlaw03.FieldDecodes', WHERE WHAT IT READS IS OF BULK AT MOST 1048576: true; the input reads as it did. -/
def fieldDecodesUptoRow : OpenClaim := { program := "ytmpebojnnlghiaadoor", sum := "fd15962bdccf1d8a9b1ea4598603b6e684b450686dc7cd68016424f59d853b16", func := "escutcheon/escutcheonlaw03.FieldDecodes", spec := "fieldDecodes", inPlace := ["math/bits.Sub64", "math/bits.Add64"], named := ["escutcheon/field.prime"], apart := false, laid := [("escutcheon/field.prime", laid_escutcheon_field_prime)], narrowed := true }
def FieldDecodesUptoSaid : Prop := fieldDecodesUptoRow.holds Tryd.pinned (OpenSpec.upto fieldDecodesSpec)

/-- 'escutcheonlaw04.OrderDecodes', WHERE WHAT IT READS IS OF BULK AT MOST 1048576: true; the input reads as it did. -/
def orderDecodesUptoRow : OpenClaim := { program := "ytmpebojnnlghiaadoor", sum := "fd15962bdccf1d8a9b1ea4598603b6e684b450686dc7cd68016424f59d853b16", func := "escutcheon/escutcheonlaw04.OrderDecodes", spec := "orderDecodes", inPlace := ["math/bits.Sub64", "math/bits.Add64"], named := ["escutcheon/order.group"], apart := false, laid := [("escutcheon/order.group", laid_escutcheon_order_group)], narrowed := true }
def OrderDecodesUptoSaid : Prop := orderDecodesUptoRow.holds Tryd.pinned (OpenSpec.upto orderDecodesSpec)

/-- 'escutcheonlaw03.FieldMuls', WHERE WHAT IT READS IS OF BULK AT MOST 1048576: true; the input reads as it did. -/
def fieldMulsUptoRow : OpenClaim := { program := "ytmpebojnnlghiaadoor", sum := "fd15962bdccf1d8a9b1ea4598603b6e684b450686dc7cd68016424f59d853b16", func := "escutcheon/escutcheonlaw03.FieldMuls", spec := "fieldMuls", inPlace := ["math/bits.Sub64", "math/bits.Add64"], named := ["escutcheon/field.prime"], apart := false, laid := [("escutcheon/field.prime", laid_escutcheon_field_prime)], narrowed := true }
def FieldMulsUptoSaid : Prop := fieldMulsUptoRow.holds Tryd.pinned (OpenSpec.upto fieldMulsSpec)

/-- 'escutcheonlaw04.OrderMuls', WHERE WHAT IT READS IS OF BULK AT MOST 1048576: true; the input reads as it did. -/
def orderMulsUptoRow : OpenClaim := { program := "ytmpebojnnlghiaadoor", sum := "fd15962bdccf1d8a9b1ea4598603b6e684b450686dc7cd68016424f59d853b16", func := "escutcheon/escutcheonlaw04.OrderMuls", spec := "orderMuls", inPlace := ["math/bits.Sub64", "math/bits.Add64"], named := ["escutcheon/order.group"], apart := false, laid := [("escutcheon/order.group", laid_escutcheon_order_group)], narrowed := true }
def OrderMulsUptoSaid : Prop := orderMulsUptoRow.holds Tryd.pinned (OpenSpec.upto orderMulsSpec)

/-- 'escutcheonlaw03.FieldLaws', WHERE WHAT IT READS IS OF BULK AT MOST 1048576: true; the input reads as it did. -/
def fieldLawsUptoRow : OpenClaim := { program := "ytmpebojnnlghiaadoor", sum := "fd15962bdccf1d8a9b1ea4598603b6e684b450686dc7cd68016424f59d853b16", func := "escutcheon/escutcheonlaw03.FieldLaws", spec := "fieldLaws", inPlace := ["math/bits.Sub64", "math/bits.Add64"], named := ["escutcheon/field.prime"], apart := false, laid := [("escutcheon/field.prime", laid_escutcheon_field_prime)], narrowed := true }
def FieldLawsUptoSaid : Prop := fieldLawsUptoRow.holds Tryd.pinned (OpenSpec.upto fieldLawsSpec)

/-- 'escutcheonlaw03.FieldInvs', WHERE WHAT IT READS IS OF BULK AT MOST 1048576: true; the input reads as it did. -/
def fieldInvsUptoRow : OpenClaim := { program := "ytmpebojnnlghiaadoor", sum := "fd15962bdccf1d8a9b1ea4598603b6e684b450686dc7cd68016424f59d853b16", func := "escutcheon/escutcheonlaw03.FieldInvs", spec := "fieldInvs", inPlace := ["math/bits.Sub64", "math/bits.Add64"], named := ["escutcheon/field.prime"], apart := false, laid := [("escutcheon/field.prime", laid_escutcheon_field_prime)], narrowed := true }
def FieldInvsUptoSaid : Prop := fieldInvsUptoRow.holds Tryd.pinned (OpenSpec.upto fieldInvsSpec)

/-- 'escutcheonlaw04.OrderInvs', WHERE WHAT IT READS IS OF BULK AT MOST 1048576: true; the input reads as it did. -/
def orderInvsUptoRow : OpenClaim := { program := "ytmpebojnnlghiaadoor", sum := "fd15962bdccf1d8a9b1ea4598603b6e684b450686dc7cd68016424f59d853b16", func := "escutcheon/escutcheonlaw04.OrderInvs", spec := "orderInvs", inPlace := ["math/bits.Sub64", "math/bits.Add64"], named := ["escutcheon/order.group"], apart := false, laid := [("escutcheon/order.group", laid_escutcheon_order_group)], narrowed := true }
def OrderInvsUptoSaid : Prop := orderInvsUptoRow.holds Tryd.pinned (OpenSpec.upto orderInvsSpec)

/-- 'escutcheonlaw03.FieldRoots', WHERE WHAT IT READS IS OF BULK AT MOST 1048576: true; the input reads as it did. -/
def fieldRootsUptoRow : OpenClaim := { program := "ytmpebojnnlghiaadoor", sum := "fd15962bdccf1d8a9b1ea4598603b6e684b450686dc7cd68016424f59d853b16", func := "escutcheon/escutcheonlaw03.FieldRoots", spec := "fieldRoots", inPlace := ["math/bits.Add64", "math/bits.Sub64"], named := ["escutcheon/field.prime"], apart := false, laid := [("escutcheon/field.prime", laid_escutcheon_field_prime)], narrowed := true }
def FieldRootsUptoSaid : Prop := fieldRootsUptoRow.holds Tryd.pinned (OpenSpec.upto fieldRootsSpec)

end Rows
end Go.Proofs.YtmpebojnnlghiaaDoor
