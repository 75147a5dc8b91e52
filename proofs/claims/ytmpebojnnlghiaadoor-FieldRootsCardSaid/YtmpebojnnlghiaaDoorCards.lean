/-
  DERIVED. GIVEN WITH THE SEED: THE CARDS: each row of YtmpebojnnlghiaaDoorRows.lean that lists a variable, with what it lists TIED to the program's text (the seventh form; the later family's looks); each row that meets fmt, with fmt's text TOLD by the authors' own Lean function (tested against real Go, not proved from fmt's source: count such statements apart). THE CARD IS WHAT COUNTS. Prove the row's statement (the work); the ties are given (YtmpebojnnlghiaaDoorTie.lean); close each card by the builder's one call (the guide's Derived/Test/ToyasCard.lean, 'card_holds'). Laid BY PROGRAM, IN A SANDBOX (cutbox-door.mjs). By AI agents, Wed Nov 11 2026. No macro, syntax, notation, axiom, sorry.
-/
import Derived.Test.YtmpebojnnlghiaaDoorRows
import GoSem.ClaimSeven
namespace Go.Proofs.YtmpebojnnlghiaaDoor
namespace Rows

/-- THE TIED CARD OF 'escutcheonlaw03.FieldPrime'. -/
def fieldPrimeCard : Claim7 := { stood := { row := fieldPrimeRow, standIns := [], harness := (true, "1218afba1c7a49eda64617018ba7c80e5349cc18e9b3530d865c85b6efc0edb5"), looks := true }, kinds := [], alts := [], laidByText := true, laidKinds := [.data], laidTests := true, laidLooks := .later }
def FieldPrimeCardSaid : Prop := Claim7.holds Tryd.pinned (.plain (OpenSpec.ofChange fieldPrimeSpec)) fieldPrimeCard

/-- THE TIED CARD OF 'escutcheonlaw04.OrderSums'. -/
def orderSumsCard : Claim7 := { stood := { row := orderSumsRow, standIns := [], harness := (true, "1218afba1c7a49eda64617018ba7c80e5349cc18e9b3530d865c85b6efc0edb5"), looks := true }, kinds := [], alts := [], laidByText := true, laidKinds := [.data], laidTests := true, laidLooks := .later }
def OrderSumsCardSaid : Prop := Claim7.holds Tryd.pinned (.plain (OpenSpec.ofChange orderSumsSpec)) orderSumsCard

/-- THE TIED CARD OF 'escutcheonlaw03.FieldSums'. -/
def fieldSumsCard : Claim7 := { stood := { row := fieldSumsRow, standIns := [], harness := (true, "1218afba1c7a49eda64617018ba7c80e5349cc18e9b3530d865c85b6efc0edb5"), looks := true }, kinds := [], alts := [], laidByText := true, laidKinds := [.data], laidTests := true, laidLooks := .later }
def FieldSumsCardSaid : Prop := Claim7.holds Tryd.pinned (.plain (OpenSpec.ofChange fieldSumsSpec)) fieldSumsCard

/-- THE TIED CARD OF 'escutcheonlaw03.FieldDecodes'. -/
def fieldDecodesCard : Claim7 := { stood := { row := fieldDecodesRow, standIns := [], harness := (true, "1218afba1c7a49eda64617018ba7c80e5349cc18e9b3530d865c85b6efc0edb5"), looks := true }, kinds := [], alts := [], laidByText := true, laidKinds := [.data], laidTests := true, laidLooks := .later }
def FieldDecodesCardSaid : Prop := Claim7.holds Tryd.pinned (.plain (OpenSpec.ofChange fieldDecodesSpec)) fieldDecodesCard

/-- THE TIED CARD OF 'escutcheonlaw04.OrderDecodes'. -/
def orderDecodesCard : Claim7 := { stood := { row := orderDecodesRow, standIns := [], harness := (true, "1218afba1c7a49eda64617018ba7c80e5349cc18e9b3530d865c85b6efc0edb5"), looks := true }, kinds := [], alts := [], laidByText := true, laidKinds := [.data], laidTests := true, laidLooks := .later }
def OrderDecodesCardSaid : Prop := Claim7.holds Tryd.pinned (.plain (OpenSpec.ofChange orderDecodesSpec)) orderDecodesCard

/-- THE TIED CARD OF 'escutcheonlaw03.FieldMuls'. -/
def fieldMulsCard : Claim7 := { stood := { row := fieldMulsRow, standIns := [], harness := (true, "1218afba1c7a49eda64617018ba7c80e5349cc18e9b3530d865c85b6efc0edb5"), looks := true }, kinds := [], alts := [], laidByText := true, laidKinds := [.data], laidTests := true, laidLooks := .later }
def FieldMulsCardSaid : Prop := Claim7.holds Tryd.pinned (.plain (OpenSpec.ofChange fieldMulsSpec)) fieldMulsCard

/-- THE TIED CARD OF 'escutcheonlaw04.OrderMuls'. -/
def orderMulsCard : Claim7 := { stood := { row := orderMulsRow, standIns := [], harness := (true, "1218afba1c7a49eda64617018ba7c80e5349cc18e9b3530d865c85b6efc0edb5"), looks := true }, kinds := [], alts := [], laidByText := true, laidKinds := [.data], laidTests := true, laidLooks := .later }
def OrderMulsCardSaid : Prop := Claim7.holds Tryd.pinned (.plain (OpenSpec.ofChange orderMulsSpec)) orderMulsCard

/-- THE TIED CARD OF 'escutcheonlaw03.FieldLaws'. -/
def fieldLawsCard : Claim7 := { stood := { row := fieldLawsRow, standIns := [], harness := (true, "1218afba1c7a49eda64617018ba7c80e5349cc18e9b3530d865c85b6efc0edb5"), looks := true }, kinds := [], alts := [], laidByText := true, laidKinds := [.data], laidTests := true, laidLooks := .later }
def FieldLawsCardSaid : Prop := Claim7.holds Tryd.pinned (.plain (OpenSpec.ofChange fieldLawsSpec)) fieldLawsCard

/-- THE TIED CARD OF 'escutcheonlaw03.FieldInvs'. -/
def fieldInvsCard : Claim7 := { stood := { row := fieldInvsRow, standIns := [], harness := (true, "1218afba1c7a49eda64617018ba7c80e5349cc18e9b3530d865c85b6efc0edb5"), looks := true }, kinds := [], alts := [], laidByText := true, laidKinds := [.data], laidTests := true, laidLooks := .later }
def FieldInvsCardSaid : Prop := Claim7.holds Tryd.pinned (.plain (OpenSpec.ofChange fieldInvsSpec)) fieldInvsCard

/-- THE TIED CARD OF 'escutcheonlaw04.OrderInvs'. -/
def orderInvsCard : Claim7 := { stood := { row := orderInvsRow, standIns := [], harness := (true, "1218afba1c7a49eda64617018ba7c80e5349cc18e9b3530d865c85b6efc0edb5"), looks := true }, kinds := [], alts := [], laidByText := true, laidKinds := [.data], laidTests := true, laidLooks := .later }
def OrderInvsCardSaid : Prop := Claim7.holds Tryd.pinned (.plain (OpenSpec.ofChange orderInvsSpec)) orderInvsCard

/-- THE TIED CARD OF 'escutcheonlaw03.FieldRoots'. -/
def fieldRootsCard : Claim7 := { stood := { row := fieldRootsRow, standIns := [], harness := (true, "1218afba1c7a49eda64617018ba7c80e5349cc18e9b3530d865c85b6efc0edb5"), looks := true }, kinds := [], alts := [], laidByText := true, laidKinds := [.data], laidTests := true, laidLooks := .later }
def FieldRootsCardSaid : Prop := Claim7.holds Tryd.pinned (.plain (OpenSpec.ofChange fieldRootsSpec)) fieldRootsCard

/-- THE SECOND FORM's CARD OF 'escutcheonlaw03.FieldPrime'. -/
def fieldPrimeUptoCard : Claim7 := { stood := { row := fieldPrimeUptoRow, standIns := [], harness := (true, "1218afba1c7a49eda64617018ba7c80e5349cc18e9b3530d865c85b6efc0edb5"), looks := true }, kinds := [], alts := [], laidByText := true, laidKinds := [.data], laidTests := true, laidLooks := .later }
def FieldPrimeUptoCardSaid : Prop := Claim7.holds Tryd.pinned (.plain (OpenSpec.upto fieldPrimeSpec)) fieldPrimeUptoCard

/-- THE SECOND FORM's CARD OF 'escutcheonlaw04.OrderSums'. -/
def orderSumsUptoCard : Claim7 := { stood := { row := orderSumsUptoRow, standIns := [], harness := (true, "1218afba1c7a49eda64617018ba7c80e5349cc18e9b3530d865c85b6efc0edb5"), looks := true }, kinds := [], alts := [], laidByText := true, laidKinds := [.data], laidTests := true, laidLooks := .later }
def OrderSumsUptoCardSaid : Prop := Claim7.holds Tryd.pinned (.plain (OpenSpec.upto orderSumsSpec)) orderSumsUptoCard

/-- THE SECOND FORM's CARD OF 'escutcheonlaw03.FieldSums'. -/
def fieldSumsUptoCard : Claim7 := { stood := { row := fieldSumsUptoRow, standIns := [], harness := (true, "1218afba1c7a49eda64617018ba7c80e5349cc18e9b3530d865c85b6efc0edb5"), looks := true }, kinds := [], alts := [], laidByText := true, laidKinds := [.data], laidTests := true, laidLooks := .later }
def FieldSumsUptoCardSaid : Prop := Claim7.holds Tryd.pinned (.plain (OpenSpec.upto fieldSumsSpec)) fieldSumsUptoCard

/-- THE SECOND FORM's CARD OF 'escutcheonlaw03.FieldDecodes'. -/
def fieldDecodesUptoCard : Claim7 := { stood := { row := fieldDecodesUptoRow, standIns := [], harness := (true, "1218afba1c7a49eda64617018ba7c80e5349cc18e9b3530d865c85b6efc0edb5"), looks := true }, kinds := [], alts := [], laidByText := true, laidKinds := [.data], laidTests := true, laidLooks := .later }
def FieldDecodesUptoCardSaid : Prop := Claim7.holds Tryd.pinned (.plain (OpenSpec.upto fieldDecodesSpec)) fieldDecodesUptoCard

/-- THE SECOND FORM's CARD OF 'escutcheonlaw04.OrderDecodes'. -/
def orderDecodesUptoCard : Claim7 := { stood := { row := orderDecodesUptoRow, standIns := [], harness := (true, "1218afba1c7a49eda64617018ba7c80e5349cc18e9b3530d865c85b6efc0edb5"), looks := true }, kinds := [], alts := [], laidByText := true, laidKinds := [.data], laidTests := true, laidLooks := .later }
def OrderDecodesUptoCardSaid : Prop := Claim7.holds Tryd.pinned (.plain (OpenSpec.upto orderDecodesSpec)) orderDecodesUptoCard

/-- THE SECOND FORM's CARD OF 'escutcheonlaw03.FieldMuls'. -/
def fieldMulsUptoCard : Claim7 := { stood := { row := fieldMulsUptoRow, standIns := [], harness := (true, "1218afba1c7a49eda64617018ba7c80e5349cc18e9b3530d865c85b6efc0edb5"), looks := true }, kinds := [], alts := [], laidByText := true, laidKinds := [.data], laidTests := true, laidLooks := .later }
def FieldMulsUptoCardSaid : Prop := Claim7.holds Tryd.pinned (.plain (OpenSpec.upto fieldMulsSpec)) fieldMulsUptoCard

/-- THE SECOND FORM's CARD OF 'escutcheonlaw04.OrderMuls'. -/
def orderMulsUptoCard : Claim7 := { stood := { row := orderMulsUptoRow, standIns := [], harness := (true, "1218afba1c7a49eda64617018ba7c80e5349cc18e9b3530d865c85b6efc0edb5"), looks := true }, kinds := [], alts := [], laidByText := true, laidKinds := [.data], laidTests := true, laidLooks := .later }
def OrderMulsUptoCardSaid : Prop := Claim7.holds Tryd.pinned (.plain (OpenSpec.upto orderMulsSpec)) orderMulsUptoCard

/-- THE SECOND FORM's CARD OF 'escutcheonlaw03.FieldLaws'. -/
def fieldLawsUptoCard : Claim7 := { stood := { row := fieldLawsUptoRow, standIns := [], harness := (true, "1218afba1c7a49eda64617018ba7c80e5349cc18e9b3530d865c85b6efc0edb5"), looks := true }, kinds := [], alts := [], laidByText := true, laidKinds := [.data], laidTests := true, laidLooks := .later }
def FieldLawsUptoCardSaid : Prop := Claim7.holds Tryd.pinned (.plain (OpenSpec.upto fieldLawsSpec)) fieldLawsUptoCard

/-- THE SECOND FORM's CARD OF 'escutcheonlaw03.FieldInvs'. -/
def fieldInvsUptoCard : Claim7 := { stood := { row := fieldInvsUptoRow, standIns := [], harness := (true, "1218afba1c7a49eda64617018ba7c80e5349cc18e9b3530d865c85b6efc0edb5"), looks := true }, kinds := [], alts := [], laidByText := true, laidKinds := [.data], laidTests := true, laidLooks := .later }
def FieldInvsUptoCardSaid : Prop := Claim7.holds Tryd.pinned (.plain (OpenSpec.upto fieldInvsSpec)) fieldInvsUptoCard

/-- THE SECOND FORM's CARD OF 'escutcheonlaw04.OrderInvs'. -/
def orderInvsUptoCard : Claim7 := { stood := { row := orderInvsUptoRow, standIns := [], harness := (true, "1218afba1c7a49eda64617018ba7c80e5349cc18e9b3530d865c85b6efc0edb5"), looks := true }, kinds := [], alts := [], laidByText := true, laidKinds := [.data], laidTests := true, laidLooks := .later }
def OrderInvsUptoCardSaid : Prop := Claim7.holds Tryd.pinned (.plain (OpenSpec.upto orderInvsSpec)) orderInvsUptoCard

/-- THE SECOND FORM's CARD OF 'escutcheonlaw03.FieldRoots'. -/
def fieldRootsUptoCard : Claim7 := { stood := { row := fieldRootsUptoRow, standIns := [], harness := (true, "1218afba1c7a49eda64617018ba7c80e5349cc18e9b3530d865c85b6efc0edb5"), looks := true }, kinds := [], alts := [], laidByText := true, laidKinds := [.data], laidTests := true, laidLooks := .later }
def FieldRootsUptoCardSaid : Prop := Claim7.holds Tryd.pinned (.plain (OpenSpec.upto fieldRootsSpec)) fieldRootsUptoCard
end Rows
end Go.Proofs.YtmpebojnnlghiaaDoor
