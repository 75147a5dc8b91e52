/-
  DERIVED. GIVEN WITH THE SEED: THE CARDS: each row of YtdkmdjmpkjmflaaDoorRows.lean that lists a variable, with what it lists TIED to the program's text (the seventh form; the later family's looks); each row that meets fmt, with fmt's text TOLD by the authors' own Lean function (tested against real Go, not proved from fmt's source: count such statements apart). THE CARD IS WHAT COUNTS. Prove the row's statement (the work); the ties are given (YtdkmdjmpkjmflaaDoorTie.lean); close each card by the builder's one call (the guide's Derived/Test/ToyasCard.lean, 'card_holds'). Laid BY PROGRAM, IN A SANDBOX (cutbox-door.mjs). By AI agents, Wed Nov 11 2026. No macro, syntax, notation, axiom, sorry.
-/
import Derived.Test.YtdkmdjmpkjmflaaDoorRows
import GoSem.ClaimSeven
namespace Go.Proofs.YtdkmdjmpkjmflaaDoor
namespace Rows

/-- THE TIED CARD OF 'escutcheonlaw06.LadderBase'. -/
def ladderBaseCard : Claim7 := { stood := { row := ladderBaseRow, standIns := [], harness := (true, "7ab0155b3adde6a1786086b1ddc83d637cdb6ae5d89d36abac7940acc3e3dd9e"), looks := true }, kinds := [], alts := [], laidByText := true, laidKinds := [.data, .data, .data, .data, .data], laidTests := true, laidLooks := .later }
def LadderBaseCardSaid : Prop := Claim7.holds Tryd.pinned (.plain (OpenSpec.ofChange ladderBaseSpec)) ladderBaseCard

/-- THE TIED CARD OF 'escutcheonlaw05.CurveAdds'. -/
def curveAddsCard : Claim7 := { stood := { row := curveAddsRow, standIns := [], harness := (true, "7ab0155b3adde6a1786086b1ddc83d637cdb6ae5d89d36abac7940acc3e3dd9e"), looks := true }, kinds := [], alts := [], laidByText := true, laidKinds := [.data, .data, .data, .data, .data], laidTests := true, laidLooks := .later }
def CurveAddsCardSaid : Prop := Claim7.holds Tryd.pinned (.plain (OpenSpec.ofChange curveAddsSpec)) curveAddsCard

/-- THE TIED CARD OF 'escutcheonlaw05.CurveNegs'. -/
def curveNegsCard : Claim7 := { stood := { row := curveNegsRow, standIns := [], harness := (true, "7ab0155b3adde6a1786086b1ddc83d637cdb6ae5d89d36abac7940acc3e3dd9e"), looks := true }, kinds := [], alts := [], laidByText := true, laidKinds := [.data, .data, .data, .data, .data], laidTests := true, laidLooks := .later }
def CurveNegsCardSaid : Prop := Claim7.holds Tryd.pinned (.plain (OpenSpec.ofChange curveNegsSpec)) curveNegsCard

/-- THE TIED CARD OF 'escutcheonlaw06.LadderMuls'. -/
def ladderMulsCard : Claim7 := { stood := { row := ladderMulsRow, standIns := [], harness := (true, "7ab0155b3adde6a1786086b1ddc83d637cdb6ae5d89d36abac7940acc3e3dd9e"), looks := true }, kinds := [], alts := [], laidByText := true, laidKinds := [.data, .data, .data, .data, .data], laidTests := true, laidLooks := .later }
def LadderMulsCardSaid : Prop := Claim7.holds Tryd.pinned (.plain (OpenSpec.ofChange ladderMulsSpec)) ladderMulsCard

/-- THE TIED CARD OF 'escutcheonlaw06.LadderTraced'. -/
def ladderTracedCard : Claim7 := { stood := { row := ladderTracedRow, standIns := [], harness := (true, "7ab0155b3adde6a1786086b1ddc83d637cdb6ae5d89d36abac7940acc3e3dd9e"), looks := true }, kinds := [], alts := [], laidByText := true, laidKinds := [.data, .data, .data, .data, .data], laidTests := true, laidLooks := .later }
def LadderTracedCardSaid : Prop := Claim7.holds Tryd.pinned (.plain (OpenSpec.ofChange ladderTracedSpec)) ladderTracedCard

/-- THE TIED CARD OF 'escutcheonlaw06.LadderAdds'. -/
def ladderAddsCard : Claim7 := { stood := { row := ladderAddsRow, standIns := [], harness := (true, "7ab0155b3adde6a1786086b1ddc83d637cdb6ae5d89d36abac7940acc3e3dd9e"), looks := true }, kinds := [], alts := [], laidByText := true, laidKinds := [.data, .data, .data, .data, .data, .data], laidTests := true, laidLooks := .later }
def LadderAddsCardSaid : Prop := Claim7.holds Tryd.pinned (.plain (OpenSpec.ofChange ladderAddsSpec)) ladderAddsCard

/-- THE TIED CARD OF 'escutcheonlaw06.LadderOrder'. -/
def ladderOrderCard : Claim7 := { stood := { row := ladderOrderRow, standIns := [], harness := (true, "7ab0155b3adde6a1786086b1ddc83d637cdb6ae5d89d36abac7940acc3e3dd9e"), looks := true }, kinds := [], alts := [], laidByText := true, laidKinds := [.data, .data, .data, .data, .data], laidTests := true, laidLooks := .later }
def LadderOrderCardSaid : Prop := Claim7.holds Tryd.pinned (.plain (OpenSpec.ofChange ladderOrderSpec)) ladderOrderCard

/-- THE TIED CARD OF 'escutcheonlaw05.CurveOn'. -/
def curveOnCard : Claim7 := { stood := { row := curveOnRow, standIns := [], harness := (true, "7ab0155b3adde6a1786086b1ddc83d637cdb6ae5d89d36abac7940acc3e3dd9e"), looks := true }, kinds := [], alts := [], laidByText := true, laidKinds := [.data, .data, .data, .data, .data], laidTests := true, laidLooks := .later }
def CurveOnCardSaid : Prop := Claim7.holds Tryd.pinned (.plain (OpenSpec.ofChange curveOnSpec)) curveOnCard

/-- THE TIED CARD OF 'escutcheonlaw05.CurveSums'. -/
def curveSumsCard : Claim7 := { stood := { row := curveSumsRow, standIns := [], harness := (true, "7ab0155b3adde6a1786086b1ddc83d637cdb6ae5d89d36abac7940acc3e3dd9e"), looks := true }, kinds := [], alts := [], laidByText := true, laidKinds := [.data, .data, .data, .data, .data], laidTests := true, laidLooks := .later }
def CurveSumsCardSaid : Prop := Claim7.holds Tryd.pinned (.plain (OpenSpec.ofChange curveSumsSpec)) curveSumsCard

/-- THE TIED CARD OF 'escutcheonlaw05.CurveLaws'. -/
def curveLawsCard : Claim7 := { stood := { row := curveLawsRow, standIns := [], harness := (true, "7ab0155b3adde6a1786086b1ddc83d637cdb6ae5d89d36abac7940acc3e3dd9e"), looks := true }, kinds := [], alts := [], laidByText := true, laidKinds := [.data, .data, .data, .data, .data], laidTests := true, laidLooks := .later }
def CurveLawsCardSaid : Prop := Claim7.holds Tryd.pinned (.plain (OpenSpec.ofChange curveLawsSpec)) curveLawsCard

/-- THE TIED CARD OF 'escutcheonlaw06.LadderTwo'. -/
def ladderTwoCard : Claim7 := { stood := { row := ladderTwoRow, standIns := [], harness := (true, "7ab0155b3adde6a1786086b1ddc83d637cdb6ae5d89d36abac7940acc3e3dd9e"), looks := true }, kinds := [], alts := [], laidByText := true, laidKinds := [.data, .data, .data, .data, .data], laidTests := true, laidLooks := .later }
def LadderTwoCardSaid : Prop := Claim7.holds Tryd.pinned (.plain (OpenSpec.ofChange ladderTwoSpec)) ladderTwoCard

/-- THE SECOND FORM's CARD OF 'escutcheonlaw06.LadderBase'. -/
def ladderBaseUptoCard : Claim7 := { stood := { row := ladderBaseUptoRow, standIns := [], harness := (true, "7ab0155b3adde6a1786086b1ddc83d637cdb6ae5d89d36abac7940acc3e3dd9e"), looks := true }, kinds := [], alts := [], laidByText := true, laidKinds := [.data, .data, .data, .data, .data], laidTests := true, laidLooks := .later }
def LadderBaseUptoCardSaid : Prop := Claim7.holds Tryd.pinned (.plain (OpenSpec.upto ladderBaseSpec)) ladderBaseUptoCard

/-- THE SECOND FORM's CARD OF 'escutcheonlaw05.CurveAdds'. -/
def curveAddsUptoCard : Claim7 := { stood := { row := curveAddsUptoRow, standIns := [], harness := (true, "7ab0155b3adde6a1786086b1ddc83d637cdb6ae5d89d36abac7940acc3e3dd9e"), looks := true }, kinds := [], alts := [], laidByText := true, laidKinds := [.data, .data, .data, .data, .data], laidTests := true, laidLooks := .later }
def CurveAddsUptoCardSaid : Prop := Claim7.holds Tryd.pinned (.plain (OpenSpec.upto curveAddsSpec)) curveAddsUptoCard

/-- THE SECOND FORM's CARD OF 'escutcheonlaw05.CurveNegs'. -/
def curveNegsUptoCard : Claim7 := { stood := { row := curveNegsUptoRow, standIns := [], harness := (true, "7ab0155b3adde6a1786086b1ddc83d637cdb6ae5d89d36abac7940acc3e3dd9e"), looks := true }, kinds := [], alts := [], laidByText := true, laidKinds := [.data, .data, .data, .data, .data], laidTests := true, laidLooks := .later }
def CurveNegsUptoCardSaid : Prop := Claim7.holds Tryd.pinned (.plain (OpenSpec.upto curveNegsSpec)) curveNegsUptoCard

/-- THE SECOND FORM's CARD OF 'escutcheonlaw06.LadderMuls'. -/
def ladderMulsUptoCard : Claim7 := { stood := { row := ladderMulsUptoRow, standIns := [], harness := (true, "7ab0155b3adde6a1786086b1ddc83d637cdb6ae5d89d36abac7940acc3e3dd9e"), looks := true }, kinds := [], alts := [], laidByText := true, laidKinds := [.data, .data, .data, .data, .data], laidTests := true, laidLooks := .later }
def LadderMulsUptoCardSaid : Prop := Claim7.holds Tryd.pinned (.plain (OpenSpec.upto ladderMulsSpec)) ladderMulsUptoCard

/-- THE SECOND FORM's CARD OF 'escutcheonlaw06.LadderTraced'. -/
def ladderTracedUptoCard : Claim7 := { stood := { row := ladderTracedUptoRow, standIns := [], harness := (true, "7ab0155b3adde6a1786086b1ddc83d637cdb6ae5d89d36abac7940acc3e3dd9e"), looks := true }, kinds := [], alts := [], laidByText := true, laidKinds := [.data, .data, .data, .data, .data], laidTests := true, laidLooks := .later }
def LadderTracedUptoCardSaid : Prop := Claim7.holds Tryd.pinned (.plain (OpenSpec.upto ladderTracedSpec)) ladderTracedUptoCard

/-- THE SECOND FORM's CARD OF 'escutcheonlaw06.LadderAdds'. -/
def ladderAddsUptoCard : Claim7 := { stood := { row := ladderAddsUptoRow, standIns := [], harness := (true, "7ab0155b3adde6a1786086b1ddc83d637cdb6ae5d89d36abac7940acc3e3dd9e"), looks := true }, kinds := [], alts := [], laidByText := true, laidKinds := [.data, .data, .data, .data, .data, .data], laidTests := true, laidLooks := .later }
def LadderAddsUptoCardSaid : Prop := Claim7.holds Tryd.pinned (.plain (OpenSpec.upto ladderAddsSpec)) ladderAddsUptoCard

/-- THE SECOND FORM's CARD OF 'escutcheonlaw06.LadderOrder'. -/
def ladderOrderUptoCard : Claim7 := { stood := { row := ladderOrderUptoRow, standIns := [], harness := (true, "7ab0155b3adde6a1786086b1ddc83d637cdb6ae5d89d36abac7940acc3e3dd9e"), looks := true }, kinds := [], alts := [], laidByText := true, laidKinds := [.data, .data, .data, .data, .data], laidTests := true, laidLooks := .later }
def LadderOrderUptoCardSaid : Prop := Claim7.holds Tryd.pinned (.plain (OpenSpec.upto ladderOrderSpec)) ladderOrderUptoCard

/-- THE SECOND FORM's CARD OF 'escutcheonlaw05.CurveOn'. -/
def curveOnUptoCard : Claim7 := { stood := { row := curveOnUptoRow, standIns := [], harness := (true, "7ab0155b3adde6a1786086b1ddc83d637cdb6ae5d89d36abac7940acc3e3dd9e"), looks := true }, kinds := [], alts := [], laidByText := true, laidKinds := [.data, .data, .data, .data, .data], laidTests := true, laidLooks := .later }
def CurveOnUptoCardSaid : Prop := Claim7.holds Tryd.pinned (.plain (OpenSpec.upto curveOnSpec)) curveOnUptoCard

/-- THE SECOND FORM's CARD OF 'escutcheonlaw05.CurveSums'. -/
def curveSumsUptoCard : Claim7 := { stood := { row := curveSumsUptoRow, standIns := [], harness := (true, "7ab0155b3adde6a1786086b1ddc83d637cdb6ae5d89d36abac7940acc3e3dd9e"), looks := true }, kinds := [], alts := [], laidByText := true, laidKinds := [.data, .data, .data, .data, .data], laidTests := true, laidLooks := .later }
def CurveSumsUptoCardSaid : Prop := Claim7.holds Tryd.pinned (.plain (OpenSpec.upto curveSumsSpec)) curveSumsUptoCard

/-- THE SECOND FORM's CARD OF 'escutcheonlaw05.CurveLaws'. -/
def curveLawsUptoCard : Claim7 := { stood := { row := curveLawsUptoRow, standIns := [], harness := (true, "7ab0155b3adde6a1786086b1ddc83d637cdb6ae5d89d36abac7940acc3e3dd9e"), looks := true }, kinds := [], alts := [], laidByText := true, laidKinds := [.data, .data, .data, .data, .data], laidTests := true, laidLooks := .later }
def CurveLawsUptoCardSaid : Prop := Claim7.holds Tryd.pinned (.plain (OpenSpec.upto curveLawsSpec)) curveLawsUptoCard

/-- THE SECOND FORM's CARD OF 'escutcheonlaw06.LadderTwo'. -/
def ladderTwoUptoCard : Claim7 := { stood := { row := ladderTwoUptoRow, standIns := [], harness := (true, "7ab0155b3adde6a1786086b1ddc83d637cdb6ae5d89d36abac7940acc3e3dd9e"), looks := true }, kinds := [], alts := [], laidByText := true, laidKinds := [.data, .data, .data, .data, .data], laidTests := true, laidLooks := .later }
def LadderTwoUptoCardSaid : Prop := Claim7.holds Tryd.pinned (.plain (OpenSpec.upto ladderTwoSpec)) ladderTwoUptoCard
end Rows
end Go.Proofs.YtdkmdjmpkjmflaaDoor
