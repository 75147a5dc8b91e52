/-
  DERIVED. GIVEN WITH THE SEED: THE CARDS: each row of YtdpbddomncjkjaaDoorRows.lean that lists a variable, with what it lists TIED to the program's text (the seventh form; the later family's looks); each row that meets fmt, with fmt's text TOLD by the authors' own Lean function (tested against real Go, not proved from fmt's source: count such statements apart). THE CARD IS WHAT COUNTS. Prove the row's statement (the work); the ties are given (YtdpbddomncjkjaaDoorTie.lean); close each card by the builder's one call (the guide's Derived/Test/ToyasCard.lean, 'card_holds'). Laid BY PROGRAM, IN A SANDBOX (cutbox-door.mjs). By AI agents, Wed Nov 11 2026. No macro, syntax, notation, axiom, sorry.
-/
import Derived.Test.YtdpbddomncjkjaaDoorRows
import GoSem.ClaimSeven
namespace Go.Proofs.YtdpbddomncjkjaaDoor
namespace Rows

/-- THE TIED CARD OF 'escutcheonlaw07.ShaSteps'. -/
def shaStepsCard : Claim7 := { stood := { row := shaStepsRow, standIns := [], harness := (true, "2b0b9b621ac0259674b4c4c62feac7d2bd45d4c137fbb5fed9ed2e834b507ad4"), looks := true }, kinds := [], alts := [], laidByText := true, laidKinds := [.data, .data, .data], laidTests := true, laidLooks := .later }
def ShaStepsCardSaid : Prop := Claim7.holds Tryd.pinned (.plain (OpenSpec.ofChange shaStepsSpec)) shaStepsCard

/-- THE TIED CARD OF 'escutcheonlaw07.ShaSums'. -/
def shaSumsCard : Claim7 := { stood := { row := shaSumsRow, standIns := [], harness := (true, "2b0b9b621ac0259674b4c4c62feac7d2bd45d4c137fbb5fed9ed2e834b507ad4"), looks := true }, kinds := [], alts := [], laidByText := true, laidKinds := [.data, .data, .data], laidTests := true, laidLooks := .later }
def ShaSumsCardSaid : Prop := Claim7.holds Tryd.pinned (.plain (OpenSpec.ofChange shaSumsSpec)) shaSumsCard

/-- THE TIED CARD OF 'escutcheonlaw07.ShaGoes'. -/
def shaGoesCard : Claim7 := { stood := { row := shaGoesRow, standIns := [], harness := (true, "2b0b9b621ac0259674b4c4c62feac7d2bd45d4c137fbb5fed9ed2e834b507ad4"), looks := true }, kinds := [], alts := [], laidByText := true, laidKinds := [.data, .data, .data], laidTests := true, laidLooks := .later }
def ShaGoesCardSaid : Prop := Claim7.holds Tryd.pinned (.plain (OpenSpec.ofChange shaGoesSpec)) shaGoesCard

/-- THE TIED CARD OF 'escutcheonlaw08.MacHmacs'. -/
def macHmacsCard : Claim7 := { stood := { row := macHmacsRow, standIns := [], harness := (true, "2b0b9b621ac0259674b4c4c62feac7d2bd45d4c137fbb5fed9ed2e834b507ad4"), looks := true }, kinds := [], alts := [], laidByText := true, laidKinds := [.data, .data, .data], laidTests := true, laidLooks := .later }
def MacHmacsCardSaid : Prop := Claim7.holds Tryd.pinned (.plain (OpenSpec.ofChange macHmacsSpec)) macHmacsCard

/-- THE TIED CARD OF 'escutcheonlaw08.MacExtracts'. -/
def macExtractsCard : Claim7 := { stood := { row := macExtractsRow, standIns := [], harness := (true, "2b0b9b621ac0259674b4c4c62feac7d2bd45d4c137fbb5fed9ed2e834b507ad4"), looks := true }, kinds := [], alts := [], laidByText := true, laidKinds := [.data, .data, .data], laidTests := true, laidLooks := .later }
def MacExtractsCardSaid : Prop := Claim7.holds Tryd.pinned (.plain (OpenSpec.ofChange macExtractsSpec)) macExtractsCard

/-- THE TIED CARD OF 'escutcheonlaw08.MacExpands'. -/
def macExpandsCard : Claim7 := { stood := { row := macExpandsRow, standIns := [], harness := (true, "2b0b9b621ac0259674b4c4c62feac7d2bd45d4c137fbb5fed9ed2e834b507ad4"), looks := true }, kinds := [], alts := [], laidByText := true, laidKinds := [.data, .data, .data], laidTests := true, laidLooks := .later }
def MacExpandsCardSaid : Prop := Claim7.holds Tryd.pinned (.plain (OpenSpec.ofChange macExpandsSpec)) macExpandsCard

/-- THE TIED CARD OF 'escutcheonlaw08.MacLong'. -/
def macLongCard : Claim7 := { stood := { row := macLongRow, standIns := [], harness := (true, "2b0b9b621ac0259674b4c4c62feac7d2bd45d4c137fbb5fed9ed2e834b507ad4"), looks := true }, kinds := [], alts := [], laidByText := true, laidKinds := [.data, .data, .data], laidTests := true, laidLooks := .later }
def MacLongCardSaid : Prop := Claim7.holds Tryd.pinned (.plain (OpenSpec.ofChange macLongSpec)) macLongCard

/-- THE SECOND FORM's CARD OF 'escutcheonlaw07.ShaSteps'. -/
def shaStepsUptoCard : Claim7 := { stood := { row := shaStepsUptoRow, standIns := [], harness := (true, "2b0b9b621ac0259674b4c4c62feac7d2bd45d4c137fbb5fed9ed2e834b507ad4"), looks := true }, kinds := [], alts := [], laidByText := true, laidKinds := [.data, .data, .data], laidTests := true, laidLooks := .later }
def ShaStepsUptoCardSaid : Prop := Claim7.holds Tryd.pinned (.plain (OpenSpec.upto shaStepsSpec)) shaStepsUptoCard

/-- THE SECOND FORM's CARD OF 'escutcheonlaw07.ShaSums'. -/
def shaSumsUptoCard : Claim7 := { stood := { row := shaSumsUptoRow, standIns := [], harness := (true, "2b0b9b621ac0259674b4c4c62feac7d2bd45d4c137fbb5fed9ed2e834b507ad4"), looks := true }, kinds := [], alts := [], laidByText := true, laidKinds := [.data, .data, .data], laidTests := true, laidLooks := .later }
def ShaSumsUptoCardSaid : Prop := Claim7.holds Tryd.pinned (.plain (OpenSpec.upto shaSumsSpec)) shaSumsUptoCard

/-- THE SECOND FORM's CARD OF 'escutcheonlaw07.ShaGoes'. -/
def shaGoesUptoCard : Claim7 := { stood := { row := shaGoesUptoRow, standIns := [], harness := (true, "2b0b9b621ac0259674b4c4c62feac7d2bd45d4c137fbb5fed9ed2e834b507ad4"), looks := true }, kinds := [], alts := [], laidByText := true, laidKinds := [.data, .data, .data], laidTests := true, laidLooks := .later }
def ShaGoesUptoCardSaid : Prop := Claim7.holds Tryd.pinned (.plain (OpenSpec.upto shaGoesSpec)) shaGoesUptoCard

/-- THE SECOND FORM's CARD OF 'escutcheonlaw08.MacHmacs'. -/
def macHmacsUptoCard : Claim7 := { stood := { row := macHmacsUptoRow, standIns := [], harness := (true, "2b0b9b621ac0259674b4c4c62feac7d2bd45d4c137fbb5fed9ed2e834b507ad4"), looks := true }, kinds := [], alts := [], laidByText := true, laidKinds := [.data, .data, .data], laidTests := true, laidLooks := .later }
def MacHmacsUptoCardSaid : Prop := Claim7.holds Tryd.pinned (.plain (OpenSpec.upto macHmacsSpec)) macHmacsUptoCard

/-- THE SECOND FORM's CARD OF 'escutcheonlaw08.MacExtracts'. -/
def macExtractsUptoCard : Claim7 := { stood := { row := macExtractsUptoRow, standIns := [], harness := (true, "2b0b9b621ac0259674b4c4c62feac7d2bd45d4c137fbb5fed9ed2e834b507ad4"), looks := true }, kinds := [], alts := [], laidByText := true, laidKinds := [.data, .data, .data], laidTests := true, laidLooks := .later }
def MacExtractsUptoCardSaid : Prop := Claim7.holds Tryd.pinned (.plain (OpenSpec.upto macExtractsSpec)) macExtractsUptoCard

/-- THE SECOND FORM's CARD OF 'escutcheonlaw08.MacExpands'. -/
def macExpandsUptoCard : Claim7 := { stood := { row := macExpandsUptoRow, standIns := [], harness := (true, "2b0b9b621ac0259674b4c4c62feac7d2bd45d4c137fbb5fed9ed2e834b507ad4"), looks := true }, kinds := [], alts := [], laidByText := true, laidKinds := [.data, .data, .data], laidTests := true, laidLooks := .later }
def MacExpandsUptoCardSaid : Prop := Claim7.holds Tryd.pinned (.plain (OpenSpec.upto macExpandsSpec)) macExpandsUptoCard

/-- THE SECOND FORM's CARD OF 'escutcheonlaw08.MacLong'. -/
def macLongUptoCard : Claim7 := { stood := { row := macLongUptoRow, standIns := [], harness := (true, "2b0b9b621ac0259674b4c4c62feac7d2bd45d4c137fbb5fed9ed2e834b507ad4"), looks := true }, kinds := [], alts := [], laidByText := true, laidKinds := [.data, .data, .data], laidTests := true, laidLooks := .later }
def MacLongUptoCardSaid : Prop := Claim7.holds Tryd.pinned (.plain (OpenSpec.upto macLongSpec)) macLongUptoCard
end Rows
end Go.Proofs.YtdpbddomncjkjaaDoor
