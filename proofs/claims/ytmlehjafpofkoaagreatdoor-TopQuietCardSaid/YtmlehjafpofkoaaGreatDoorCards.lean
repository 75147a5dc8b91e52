/-
  DERIVED. GIVEN WITH THE SEED: THE CARDS: each row of YtmlehjafpofkoaaGreatDoorRows.lean that lists a variable, with what it lists TIED to the program's text (the seventh form; the later family's looks); each row that meets fmt, with fmt's text TOLD by the authors' own Lean function (tested against real Go, not proved from fmt's source: count such statements apart). THE CARD IS WHAT COUNTS. Prove the row's statement (the work); the ties are given (YtmlehjafpofkoaaGreatDoorTie.lean); close each card by the builder's one call (the guide's Derived/Test/ToyasCard.lean, 'card_holds'). Laid BY PROGRAM, IN A SANDBOX (cutbox-door.mjs). By AI agents, Wed Nov 11 2026. No macro, syntax, notation, axiom, sorry.
-/
import Derived.Test.YtmlehjafpofkoaaGreatDoorRows
import GoSem.ClaimSeven
namespace Go.Proofs.YtmlehjafpofkoaaGreatDoor
namespace Rows

/-- THE TIED CARD OF 'escutcheontop.TopQuiet'. -/
def topQuietCard : Claim7 := { stood := { row := topQuietRow, standIns := [], harness := (true, "2abb267221f5f05ec1c12c36c8831b638838cefe3b55ad3be72827e37a92d628"), looks := true }, kinds := [], alts := [], laidByText := true, laidKinds := [.data, .handle, .data, .data, .data, .data, .data, .data, .data, .data, .data], laidTests := true, laidLooks := .later }
def TopQuietCardSaid : Prop := Claim7.holds Tryz.pinned (.plain (OpenSpec.ofChange topQuietSpec)) topQuietCard

/-- THE SECOND FORM's CARD OF 'escutcheontop.TopQuiet'. -/
def topQuietUptoCard : Claim7 := { stood := { row := topQuietUptoRow, standIns := [], harness := (true, "2abb267221f5f05ec1c12c36c8831b638838cefe3b55ad3be72827e37a92d628"), looks := true }, kinds := [], alts := [], laidByText := true, laidKinds := [.data, .handle, .data, .data, .data, .data, .data, .data, .data, .data, .data], laidTests := true, laidLooks := .later }
def TopQuietUptoCardSaid : Prop := Claim7.holds Tryz.pinned (.plain (OpenSpec.upto topQuietSpec)) topQuietUptoCard
end Rows
end Go.Proofs.YtmlehjafpofkoaaGreatDoor
