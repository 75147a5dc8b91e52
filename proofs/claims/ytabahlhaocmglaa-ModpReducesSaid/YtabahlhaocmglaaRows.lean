/-
  No cell of these rows narrows 'for every input' (looked for: loops, veiled, ifaces, maps, wideKeys, modest, calm, conditions, laid).
  DERIVED. THE GIVEN ROWS OF THIS SEAT. 18 by the template 'for every input the law returns true; each argument reads behind the call as it read before'; 0 by the template 'total and deterministic' (their statements: YtabahlhaocmglaaTotals.lean).
  GIVEN WITH THE SEED: the statements are not yours to turn. If you find one false, say at which input.
  Laid BY PROGRAM, IN A SANDBOX (cutbox-rows.mjs): the forced cells as the released guide's own fill.sh prints them over the translation 7450e5099f98931f… (all of the seat's roots in one cut). By AI agents, Wed Nov 11 2026. No macro, syntax, notation, axiom, sorry.
-/
import Derived.Test.YtabahlhaocmglaaChecked
import GoSem.Claim
import GoSem.ClaimJoined
import GoSem.ClaimMapViews
import Derived.JoinedTies
import Derived.KernelRfl
namespace Go.Proofs.Ytabahlhaocmglaa
/- THE CELL 'sum', in the pinned program and in every row, IS THE sha256 OF THE DUMP (.gsa) THAT YtabahlhaocmglaaProg.lean LOADS. Nothing in Lean hashes anything: it is a label: what it is worth is what the hold of that sum in a sandbox is worth. -/
noncomputable def Try.pinned : Pinned := { name := "ytabahlhaocmglaa", sum := "7450e5099f98931f6de21b73578ca9856d81827471596b90c7163f88719a02e0", checked := Try.checked }
namespace Rows
def none {H : Type} : Left H := { results := [], args := [] }

/-- 'escutcheonlaw01.LimbBits': WHATEVER THE INPUT: true; the input reads as it did. -/
def limbBitsSpec : ChangeSpec := { name := "limbBits", fn := fun _ => fun
  | [d1, d2] => { results := [.lit (.bool true)], args := [d1, d2] }
  | _ => none }
def limbBitsRow : OpenClaim := { program := "ytabahlhaocmglaa", sum := "7450e5099f98931f6de21b73578ca9856d81827471596b90c7163f88719a02e0", func := "escutcheon/escutcheonlaw01.LimbBits", spec := "limbBits", apart := false }
def LimbBitsSaid : Prop := limbBitsRow.holds Try.pinned (OpenSpec.ofChange limbBitsSpec)

/-- ITS FALSE NEIGHBOUR: 'it returns false'. Refute it at one input. -/
def limbBitsWrong : ChangeSpec := { name := "limbBits", fn := fun _ => fun
  | [d1, d2] => { results := [.lit (.bool false)], args := [d1, d2] }
  | _ => none }
def LimbBitsWrongFalsely : Prop := limbBitsRow.holds Try.pinned (OpenSpec.ofChange limbBitsWrong)

/-- 'escutcheonlaw01.LimbPicks': WHATEVER THE INPUT: true; the input reads as it did. -/
def limbPicksSpec : ChangeSpec := { name := "limbPicks", fn := fun _ => fun
  | [d1, d2, d3] => { results := [.lit (.bool true)], args := [d1, d2, d3] }
  | _ => none }
def limbPicksRow : OpenClaim := { program := "ytabahlhaocmglaa", sum := "7450e5099f98931f6de21b73578ca9856d81827471596b90c7163f88719a02e0", func := "escutcheon/escutcheonlaw01.LimbPicks", spec := "limbPicks", apart := false }
def LimbPicksSaid : Prop := limbPicksRow.holds Try.pinned (OpenSpec.ofChange limbPicksSpec)

/-- ITS FALSE NEIGHBOUR: 'it returns false'. Refute it at one input. -/
def limbPicksWrong : ChangeSpec := { name := "limbPicks", fn := fun _ => fun
  | [d1, d2, d3] => { results := [.lit (.bool false)], args := [d1, d2, d3] }
  | _ => none }
def LimbPicksWrongFalsely : Prop := limbPicksRow.holds Try.pinned (OpenSpec.ofChange limbPicksWrong)

/-- 'escutcheonlaw01.LimbFrom': WHATEVER THE INPUT: true; the input reads as it did. -/
def limbFromSpec : ChangeSpec := { name := "limbFrom", fn := fun _ => fun
  | [d] => { results := [.lit (.bool true)], args := [d] }
  | _ => none }
def limbFromRow : OpenClaim := { program := "ytabahlhaocmglaa", sum := "7450e5099f98931f6de21b73578ca9856d81827471596b90c7163f88719a02e0", func := "escutcheon/escutcheonlaw01.LimbFrom", spec := "limbFrom", apart := false }
def LimbFromSaid : Prop := limbFromRow.holds Try.pinned (OpenSpec.ofChange limbFromSpec)

/-- ITS FALSE NEIGHBOUR: 'it returns false'. Refute it at one input. -/
def limbFromWrong : ChangeSpec := { name := "limbFrom", fn := fun _ => fun
  | [d] => { results := [.lit (.bool false)], args := [d] }
  | _ => none }
def LimbFromWrongFalsely : Prop := limbFromRow.holds Try.pinned (OpenSpec.ofChange limbFromWrong)

/-- 'escutcheonlaw01.LimbSubs': WHATEVER THE INPUT: true; the input reads as it did. -/
def limbSubsSpec : ChangeSpec := { name := "limbSubs", fn := fun _ => fun
  | [d1, d2] => { results := [.lit (.bool true)], args := [d1, d2] }
  | _ => none }
def limbSubsRow : OpenClaim := { program := "ytabahlhaocmglaa", sum := "7450e5099f98931f6de21b73578ca9856d81827471596b90c7163f88719a02e0", func := "escutcheon/escutcheonlaw01.LimbSubs", spec := "limbSubs", inPlace := ["math/bits.Sub64"], apart := false }
def LimbSubsSaid : Prop := limbSubsRow.holds Try.pinned (OpenSpec.ofChange limbSubsSpec)

/-- ITS FALSE NEIGHBOUR: 'it returns false'. Refute it at one input. -/
def limbSubsWrong : ChangeSpec := { name := "limbSubs", fn := fun _ => fun
  | [d1, d2] => { results := [.lit (.bool false)], args := [d1, d2] }
  | _ => none }
def LimbSubsWrongFalsely : Prop := limbSubsRow.holds Try.pinned (OpenSpec.ofChange limbSubsWrong)

/-- 'escutcheonlaw01.LimbSame': WHATEVER THE INPUT: true; the input reads as it did. -/
def limbSameSpec : ChangeSpec := { name := "limbSame", fn := fun _ => fun
  | [d1, d2] => { results := [.lit (.bool true)], args := [d1, d2] }
  | _ => none }
def limbSameRow : OpenClaim := { program := "ytabahlhaocmglaa", sum := "7450e5099f98931f6de21b73578ca9856d81827471596b90c7163f88719a02e0", func := "escutcheon/escutcheonlaw01.LimbSame", spec := "limbSame", inPlace := ["math/bits.Sub64"], apart := false }
def LimbSameSaid : Prop := limbSameRow.holds Try.pinned (OpenSpec.ofChange limbSameSpec)

/-- ITS FALSE NEIGHBOUR: 'it returns false'. Refute it at one input. -/
def limbSameWrong : ChangeSpec := { name := "limbSame", fn := fun _ => fun
  | [d1, d2] => { results := [.lit (.bool false)], args := [d1, d2] }
  | _ => none }
def LimbSameWrongFalsely : Prop := limbSameRow.holds Try.pinned (OpenSpec.ofChange limbSameWrong)

/-- 'escutcheonlaw01.LimbAdds': WHATEVER THE INPUT: true; the input reads as it did. -/
def limbAddsSpec : ChangeSpec := { name := "limbAdds", fn := fun _ => fun
  | [d1, d2] => { results := [.lit (.bool true)], args := [d1, d2] }
  | _ => none }
def limbAddsRow : OpenClaim := { program := "ytabahlhaocmglaa", sum := "7450e5099f98931f6de21b73578ca9856d81827471596b90c7163f88719a02e0", func := "escutcheon/escutcheonlaw01.LimbAdds", spec := "limbAdds", inPlace := ["math/bits.Add64"], apart := false }
def LimbAddsSaid : Prop := limbAddsRow.holds Try.pinned (OpenSpec.ofChange limbAddsSpec)

/-- ITS FALSE NEIGHBOUR: 'it returns false'. Refute it at one input. -/
def limbAddsWrong : ChangeSpec := { name := "limbAdds", fn := fun _ => fun
  | [d1, d2] => { results := [.lit (.bool false)], args := [d1, d2] }
  | _ => none }
def LimbAddsWrongFalsely : Prop := limbAddsRow.holds Try.pinned (OpenSpec.ofChange limbAddsWrong)

/-- 'escutcheonlaw01.LimbLess': WHATEVER THE INPUT: true; the input reads as it did. -/
def limbLessSpec : ChangeSpec := { name := "limbLess", fn := fun _ => fun
  | [d1, d2] => { results := [.lit (.bool true)], args := [d1, d2] }
  | _ => none }
def limbLessRow : OpenClaim := { program := "ytabahlhaocmglaa", sum := "7450e5099f98931f6de21b73578ca9856d81827471596b90c7163f88719a02e0", func := "escutcheon/escutcheonlaw01.LimbLess", spec := "limbLess", inPlace := ["math/bits.Sub64"], apart := false }
def LimbLessSaid : Prop := limbLessRow.holds Try.pinned (OpenSpec.ofChange limbLessSpec)

/-- ITS FALSE NEIGHBOUR: 'it returns false'. Refute it at one input. -/
def limbLessWrong : ChangeSpec := { name := "limbLess", fn := fun _ => fun
  | [d1, d2] => { results := [.lit (.bool false)], args := [d1, d2] }
  | _ => none }
def LimbLessWrongFalsely : Prop := limbLessRow.holds Try.pinned (OpenSpec.ofChange limbLessWrong)

/-- 'escutcheonlaw01.LimbBytes': WHATEVER THE INPUT: true; the input reads as it did. -/
def limbBytesSpec : ChangeSpec := { name := "limbBytes", fn := fun _ => fun
  | [d] => { results := [.lit (.bool true)], args := [d] }
  | _ => none }
def limbBytesRow : OpenClaim := { program := "ytabahlhaocmglaa", sum := "7450e5099f98931f6de21b73578ca9856d81827471596b90c7163f88719a02e0", func := "escutcheon/escutcheonlaw01.LimbBytes", spec := "limbBytes", apart := false }
def LimbBytesSaid : Prop := limbBytesRow.holds Try.pinned (OpenSpec.ofChange limbBytesSpec)

/-- ITS FALSE NEIGHBOUR: 'it returns false'. Refute it at one input. -/
def limbBytesWrong : ChangeSpec := { name := "limbBytes", fn := fun _ => fun
  | [d] => { results := [.lit (.bool false)], args := [d] }
  | _ => none }
def LimbBytesWrongFalsely : Prop := limbBytesRow.holds Try.pinned (OpenSpec.ofChange limbBytesWrong)

/-- 'escutcheonlaw01.LimbBack': WHATEVER THE INPUT: true; the input reads as it did. -/
def limbBackSpec : ChangeSpec := { name := "limbBack", fn := fun _ => fun
  | [d1, d2] => { results := [.lit (.bool true)], args := [d1, d2] }
  | _ => none }
def limbBackRow : OpenClaim := { program := "ytabahlhaocmglaa", sum := "7450e5099f98931f6de21b73578ca9856d81827471596b90c7163f88719a02e0", func := "escutcheon/escutcheonlaw01.LimbBack", spec := "limbBack", inPlace := ["math/bits.Add64", "math/bits.Sub64"], apart := false }
def LimbBackSaid : Prop := limbBackRow.holds Try.pinned (OpenSpec.ofChange limbBackSpec)

/-- ITS FALSE NEIGHBOUR: 'it returns false'. Refute it at one input. -/
def limbBackWrong : ChangeSpec := { name := "limbBack", fn := fun _ => fun
  | [d1, d2] => { results := [.lit (.bool false)], args := [d1, d2] }
  | _ => none }
def LimbBackWrongFalsely : Prop := limbBackRow.holds Try.pinned (OpenSpec.ofChange limbBackWrong)

/-- 'escutcheonlaw01.LimbMuls': WHATEVER THE INPUT: true; the input reads as it did. -/
def limbMulsSpec : ChangeSpec := { name := "limbMuls", fn := fun _ => fun
  | [d1, d2] => { results := [.lit (.bool true)], args := [d1, d2] }
  | _ => none }
def limbMulsRow : OpenClaim := { program := "ytabahlhaocmglaa", sum := "7450e5099f98931f6de21b73578ca9856d81827471596b90c7163f88719a02e0", func := "escutcheon/escutcheonlaw01.LimbMuls", spec := "limbMuls", inPlace := ["math/bits.Add64"], apart := false }
def LimbMulsSaid : Prop := limbMulsRow.holds Try.pinned (OpenSpec.ofChange limbMulsSpec)

/-- ITS FALSE NEIGHBOUR: 'it returns false'. Refute it at one input. -/
def limbMulsWrong : ChangeSpec := { name := "limbMuls", fn := fun _ => fun
  | [d1, d2] => { results := [.lit (.bool false)], args := [d1, d2] }
  | _ => none }
def LimbMulsWrongFalsely : Prop := limbMulsRow.holds Try.pinned (OpenSpec.ofChange limbMulsWrong)

/-- 'escutcheonlaw02.ModpNew': WHATEVER THE INPUT: true; the input reads as it did. -/
def modpNewSpec : ChangeSpec := { name := "modpNew", fn := fun _ => fun
  | [d] => { results := [.lit (.bool true)], args := [d] }
  | _ => none }
def modpNewRow : OpenClaim := { program := "ytabahlhaocmglaa", sum := "7450e5099f98931f6de21b73578ca9856d81827471596b90c7163f88719a02e0", func := "escutcheon/escutcheonlaw02.ModpNew", spec := "modpNew", inPlace := ["math/bits.Sub64", "math/bits.Add64"], apart := false }
def ModpNewSaid : Prop := modpNewRow.holds Try.pinned (OpenSpec.ofChange modpNewSpec)

/-- ITS FALSE NEIGHBOUR: 'it returns false'. Refute it at one input. -/
def modpNewWrong : ChangeSpec := { name := "modpNew", fn := fun _ => fun
  | [d] => { results := [.lit (.bool false)], args := [d] }
  | _ => none }
def ModpNewWrongFalsely : Prop := modpNewRow.holds Try.pinned (OpenSpec.ofChange modpNewWrong)

/-- 'escutcheonlaw02.ModpReduces': WHATEVER THE INPUT: true; the input reads as it did. -/
def modpReducesSpec : ChangeSpec := { name := "modpReduces", fn := fun _ => fun
  | [d1, d2] => { results := [.lit (.bool true)], args := [d1, d2] }
  | _ => none }
def modpReducesRow : OpenClaim := { program := "ytabahlhaocmglaa", sum := "7450e5099f98931f6de21b73578ca9856d81827471596b90c7163f88719a02e0", func := "escutcheon/escutcheonlaw02.ModpReduces", spec := "modpReduces", inPlace := ["math/bits.Sub64", "math/bits.Add64"], apart := false }
def ModpReducesSaid : Prop := modpReducesRow.holds Try.pinned (OpenSpec.ofChange modpReducesSpec)

/-- ITS FALSE NEIGHBOUR: 'it returns false'. Refute it at one input. -/
def modpReducesWrong : ChangeSpec := { name := "modpReduces", fn := fun _ => fun
  | [d1, d2] => { results := [.lit (.bool false)], args := [d1, d2] }
  | _ => none }
def ModpReducesWrongFalsely : Prop := modpReducesRow.holds Try.pinned (OpenSpec.ofChange modpReducesWrong)

/-- 'escutcheonlaw02.ModpMuls': WHATEVER THE INPUT: true; the input reads as it did. -/
def modpMulsSpec : ChangeSpec := { name := "modpMuls", fn := fun _ => fun
  | [d1, d2, d3] => { results := [.lit (.bool true)], args := [d1, d2, d3] }
  | _ => none }
def modpMulsRow : OpenClaim := { program := "ytabahlhaocmglaa", sum := "7450e5099f98931f6de21b73578ca9856d81827471596b90c7163f88719a02e0", func := "escutcheon/escutcheonlaw02.ModpMuls", spec := "modpMuls", inPlace := ["math/bits.Sub64", "math/bits.Add64"], apart := false }
def ModpMulsSaid : Prop := modpMulsRow.holds Try.pinned (OpenSpec.ofChange modpMulsSpec)

/-- ITS FALSE NEIGHBOUR: 'it returns false'. Refute it at one input. -/
def modpMulsWrong : ChangeSpec := { name := "modpMuls", fn := fun _ => fun
  | [d1, d2, d3] => { results := [.lit (.bool false)], args := [d1, d2, d3] }
  | _ => none }
def ModpMulsWrongFalsely : Prop := modpMulsRow.holds Try.pinned (OpenSpec.ofChange modpMulsWrong)

/-- 'escutcheonlaw02.ModpAdds': WHATEVER THE INPUT: true; the input reads as it did. -/
def modpAddsSpec : ChangeSpec := { name := "modpAdds", fn := fun _ => fun
  | [d1, d2, d3] => { results := [.lit (.bool true)], args := [d1, d2, d3] }
  | _ => none }
def modpAddsRow : OpenClaim := { program := "ytabahlhaocmglaa", sum := "7450e5099f98931f6de21b73578ca9856d81827471596b90c7163f88719a02e0", func := "escutcheon/escutcheonlaw02.ModpAdds", spec := "modpAdds", inPlace := ["math/bits.Sub64", "math/bits.Add64"], apart := false }
def ModpAddsSaid : Prop := modpAddsRow.holds Try.pinned (OpenSpec.ofChange modpAddsSpec)

/-- ITS FALSE NEIGHBOUR: 'it returns false'. Refute it at one input. -/
def modpAddsWrong : ChangeSpec := { name := "modpAdds", fn := fun _ => fun
  | [d1, d2, d3] => { results := [.lit (.bool false)], args := [d1, d2, d3] }
  | _ => none }
def ModpAddsWrongFalsely : Prop := modpAddsRow.holds Try.pinned (OpenSpec.ofChange modpAddsWrong)

/-- 'escutcheonlaw02.ModpSubs': WHATEVER THE INPUT: true; the input reads as it did. -/
def modpSubsSpec : ChangeSpec := { name := "modpSubs", fn := fun _ => fun
  | [d1, d2, d3] => { results := [.lit (.bool true)], args := [d1, d2, d3] }
  | _ => none }
def modpSubsRow : OpenClaim := { program := "ytabahlhaocmglaa", sum := "7450e5099f98931f6de21b73578ca9856d81827471596b90c7163f88719a02e0", func := "escutcheon/escutcheonlaw02.ModpSubs", spec := "modpSubs", inPlace := ["math/bits.Sub64", "math/bits.Add64"], apart := false }
def ModpSubsSaid : Prop := modpSubsRow.holds Try.pinned (OpenSpec.ofChange modpSubsSpec)

/-- ITS FALSE NEIGHBOUR: 'it returns false'. Refute it at one input. -/
def modpSubsWrong : ChangeSpec := { name := "modpSubs", fn := fun _ => fun
  | [d1, d2, d3] => { results := [.lit (.bool false)], args := [d1, d2, d3] }
  | _ => none }
def ModpSubsWrongFalsely : Prop := modpSubsRow.holds Try.pinned (OpenSpec.ofChange modpSubsWrong)

/-- 'escutcheonlaw02.ModpSpreads': WHATEVER THE INPUT: true; the input reads as it did. -/
def modpSpreadsSpec : ChangeSpec := { name := "modpSpreads", fn := fun _ => fun
  | [d1, d2, d3, d4] => { results := [.lit (.bool true)], args := [d1, d2, d3, d4] }
  | _ => none }
def modpSpreadsRow : OpenClaim := { program := "ytabahlhaocmglaa", sum := "7450e5099f98931f6de21b73578ca9856d81827471596b90c7163f88719a02e0", func := "escutcheon/escutcheonlaw02.ModpSpreads", spec := "modpSpreads", inPlace := ["math/bits.Sub64", "math/bits.Add64"], apart := false }
def ModpSpreadsSaid : Prop := modpSpreadsRow.holds Try.pinned (OpenSpec.ofChange modpSpreadsSpec)

/-- ITS FALSE NEIGHBOUR: 'it returns false'. Refute it at one input. -/
def modpSpreadsWrong : ChangeSpec := { name := "modpSpreads", fn := fun _ => fun
  | [d1, d2, d3, d4] => { results := [.lit (.bool false)], args := [d1, d2, d3, d4] }
  | _ => none }
def ModpSpreadsWrongFalsely : Prop := modpSpreadsRow.holds Try.pinned (OpenSpec.ofChange modpSpreadsWrong)

/-- 'escutcheonlaw02.ModpExps': WHATEVER THE INPUT: true; the input reads as it did. -/
def modpExpsSpec : ChangeSpec := { name := "modpExps", fn := fun _ => fun
  | [d1, d2, d3] => { results := [.lit (.bool true)], args := [d1, d2, d3] }
  | _ => none }
def modpExpsRow : OpenClaim := { program := "ytabahlhaocmglaa", sum := "7450e5099f98931f6de21b73578ca9856d81827471596b90c7163f88719a02e0", func := "escutcheon/escutcheonlaw02.ModpExps", spec := "modpExps", inPlace := ["math/bits.Sub64", "math/bits.Add64"], apart := false }
def ModpExpsSaid : Prop := modpExpsRow.holds Try.pinned (OpenSpec.ofChange modpExpsSpec)

/-- ITS FALSE NEIGHBOUR: 'it returns false'. Refute it at one input. -/
def modpExpsWrong : ChangeSpec := { name := "modpExps", fn := fun _ => fun
  | [d1, d2, d3] => { results := [.lit (.bool false)], args := [d1, d2, d3] }
  | _ => none }
def ModpExpsWrongFalsely : Prop := modpExpsRow.holds Try.pinned (OpenSpec.ofChange modpExpsWrong)

/-- 'escutcheonlaw02.ModpPowers': WHATEVER THE INPUT: true; the input reads as it did. -/
def modpPowersSpec : ChangeSpec := { name := "modpPowers", fn := fun _ => fun
  | [d1, d2, d3, d4, d5] => { results := [.lit (.bool true)], args := [d1, d2, d3, d4, d5] }
  | _ => none }
def modpPowersRow : OpenClaim := { program := "ytabahlhaocmglaa", sum := "7450e5099f98931f6de21b73578ca9856d81827471596b90c7163f88719a02e0", func := "escutcheon/escutcheonlaw02.ModpPowers", spec := "modpPowers", inPlace := ["math/bits.Sub64", "math/bits.Add64"], apart := false }
def ModpPowersSaid : Prop := modpPowersRow.holds Try.pinned (OpenSpec.ofChange modpPowersSpec)

/-- ITS FALSE NEIGHBOUR: 'it returns false'. Refute it at one input. -/
def modpPowersWrong : ChangeSpec := { name := "modpPowers", fn := fun _ => fun
  | [d1, d2, d3, d4, d5] => { results := [.lit (.bool false)], args := [d1, d2, d3, d4, d5] }
  | _ => none }
def ModpPowersWrongFalsely : Prop := modpPowersRow.holds Try.pinned (OpenSpec.ofChange modpPowersWrong)

/- THE SECOND FORM. 'bulk': how many values and letters a reading holds, each counted each time it is reached (what is shared counts as often as it is met; a slice's spare places count too). A statement '..UptoSaid' is the law's where the arguments, and the package variables that the reading takes, are together of bulk at most 1048576: NARROWER than '..Said'. Prove '..Said' where nothing that the law and all that it calls make is longer than what came in: it says more and counts as full. Else prove '..UptoSaid'. A law counts once. -/
mutual
def uptoBulk {H : Type} : DataW H → Nat
  | .lit (.string bytes) => bytes.length + 1
  | .lit _ => 1
  | .nil => 1
  | .ptr d => uptoBulk d + 1
  | .slice elems spare => uptoBulkAll elems + uptoBulkAll spare + 1
  | .agg parts => uptoBulkAll parts + 1
  | .iface _ d => uptoBulk d + 1
  | .map entries => uptoBulkEntries entries + 1
  | .held _ => 1
def uptoBulkAll {H : Type} : List (DataW H) → Nat
  | [] => 0
  | d :: r => uptoBulk d + uptoBulkAll r
def uptoBulkEntries {H : Type} : List (Lit × DataW H) → Nat
  | [] => 0
  | x :: r => uptoBulkEntry x + uptoBulkEntries r
def uptoBulkEntry {H : Type} : Lit × DataW H → Nat
  | (.string bytes, d) => bytes.length + uptoBulk d + 1
  | (_, d) => uptoBulk d + 1
 end
def uptoSmall : (H : Type) → List (DataW H) → Bool := fun _ ds => decide (uptoBulkAll ds ≤ 1048576)
def OpenSpec.upto (s : _root_.Go.ChangeSpec) : _root_.Go.OpenSpec := { _root_.Go.OpenSpec.ofChange s with cond := some uptoSmall }

/-- 'escutcheonlaw01.LimbBits', WHERE WHAT IT READS IS OF BULK AT MOST 1048576: true; the input reads as it did. -/
def limbBitsUptoRow : OpenClaim := { program := "ytabahlhaocmglaa", sum := "7450e5099f98931f6de21b73578ca9856d81827471596b90c7163f88719a02e0", func := "escutcheon/escutcheonlaw01.LimbBits", spec := "limbBits", apart := false, narrowed := true }
def LimbBitsUptoSaid : Prop := limbBitsUptoRow.holds Try.pinned (OpenSpec.upto limbBitsSpec)

/-- 'escutcheonlaw01.LimbPicks', WHERE WHAT IT READS IS OF BULK AT MOST 1048576: true; the input reads as it did. -/
def limbPicksUptoRow : OpenClaim := { program := "ytabahlhaocmglaa", sum := "7450e5099f98931f6de21b73578ca9856d81827471596b90c7163f88719a02e0", func := "escutcheon/escutcheonlaw01.LimbPicks", spec := "limbPicks", apart := false, narrowed := true }
def LimbPicksUptoSaid : Prop := limbPicksUptoRow.holds Try.pinned (OpenSpec.upto limbPicksSpec)

/-- 'escutcheonlaw01.LimbFrom', WHERE WHAT IT READS IS OF BULK AT MOST 1048576: true; the input reads as it did. -/
def limbFromUptoRow : OpenClaim := { program := "ytabahlhaocmglaa", sum := "7450e5099f98931f6de21b73578ca9856d81827471596b90c7163f88719a02e0", func := "escutcheon/escutcheonlaw01.LimbFrom", spec := "limbFrom", apart := false, narrowed := true }
def LimbFromUptoSaid : Prop := limbFromUptoRow.holds Try.pinned (OpenSpec.upto limbFromSpec)

/-- 'escutcheonlaw01.LimbSubs', WHERE WHAT IT READS IS OF BULK AT MOST 1048576: true; the input reads as it did. -/
def limbSubsUptoRow : OpenClaim := { program := "ytabahlhaocmglaa", sum := "7450e5099f98931f6de21b73578ca9856d81827471596b90c7163f88719a02e0", func := "escutcheon/escutcheonlaw01.LimbSubs", spec := "limbSubs", inPlace := ["math/bits.Sub64"], apart := false, narrowed := true }
def LimbSubsUptoSaid : Prop := limbSubsUptoRow.holds Try.pinned (OpenSpec.upto limbSubsSpec)

/-- 'escutcheonlaw01.LimbSame', WHERE WHAT IT READS IS OF BULK AT MOST 1048576: true; the input reads as it did. -/
def limbSameUptoRow : OpenClaim := { program := "ytabahlhaocmglaa", sum := "7450e5099f98931f6de21b73578ca9856d81827471596b90c7163f88719a02e0", func := "escutcheon/escutcheonlaw01.LimbSame", spec := "limbSame", inPlace := ["math/bits.Sub64"], apart := false, narrowed := true }
def LimbSameUptoSaid : Prop := limbSameUptoRow.holds Try.pinned (OpenSpec.upto limbSameSpec)

/-- 'escutcheonlaw01.LimbAdds', WHERE WHAT IT READS IS OF BULK AT MOST 1048576: true; the input reads as it did. -/
def limbAddsUptoRow : OpenClaim := { program := "ytabahlhaocmglaa", sum := "7450e5099f98931f6de21b73578ca9856d81827471596b90c7163f88719a02e0", func := "escutcheon/escutcheonlaw01.LimbAdds", spec := "limbAdds", inPlace := ["math/bits.Add64"], apart := false, narrowed := true }
def LimbAddsUptoSaid : Prop := limbAddsUptoRow.holds Try.pinned (OpenSpec.upto limbAddsSpec)

/-- 'escutcheonlaw01.LimbLess', WHERE WHAT IT READS IS OF BULK AT MOST 1048576: true; the input reads as it did. -/
def limbLessUptoRow : OpenClaim := { program := "ytabahlhaocmglaa", sum := "7450e5099f98931f6de21b73578ca9856d81827471596b90c7163f88719a02e0", func := "escutcheon/escutcheonlaw01.LimbLess", spec := "limbLess", inPlace := ["math/bits.Sub64"], apart := false, narrowed := true }
def LimbLessUptoSaid : Prop := limbLessUptoRow.holds Try.pinned (OpenSpec.upto limbLessSpec)

/-- 'escutcheonlaw01.LimbBytes', WHERE WHAT IT READS IS OF BULK AT MOST 1048576: true; the input reads as it did. -/
def limbBytesUptoRow : OpenClaim := { program := "ytabahlhaocmglaa", sum := "7450e5099f98931f6de21b73578ca9856d81827471596b90c7163f88719a02e0", func := "escutcheon/escutcheonlaw01.LimbBytes", spec := "limbBytes", apart := false, narrowed := true }
def LimbBytesUptoSaid : Prop := limbBytesUptoRow.holds Try.pinned (OpenSpec.upto limbBytesSpec)

/-- 'escutcheonlaw01.LimbBack', WHERE WHAT IT READS IS OF BULK AT MOST 1048576: true; the input reads as it did. -/
def limbBackUptoRow : OpenClaim := { program := "ytabahlhaocmglaa", sum := "7450e5099f98931f6de21b73578ca9856d81827471596b90c7163f88719a02e0", func := "escutcheon/escutcheonlaw01.LimbBack", spec := "limbBack", inPlace := ["math/bits.Add64", "math/bits.Sub64"], apart := false, narrowed := true }
def LimbBackUptoSaid : Prop := limbBackUptoRow.holds Try.pinned (OpenSpec.upto limbBackSpec)

/-- 'escutcheonlaw01.LimbMuls', WHERE WHAT IT READS IS OF BULK AT MOST 1048576: true; the input reads as it did. -/
def limbMulsUptoRow : OpenClaim := { program := "ytabahlhaocmglaa", sum := "7450e5099f98931f6de21b73578ca9856d81827471596b90c7163f88719a02e0", func := "escutcheon/escutcheonlaw01.LimbMuls", spec := "limbMuls", inPlace := ["math/bits.Add64"], apart := false, narrowed := true }
def LimbMulsUptoSaid : Prop := limbMulsUptoRow.holds Try.pinned (OpenSpec.upto limbMulsSpec)

/-- 'escutcheonlaw02.ModpNew', WHERE WHAT IT READS IS OF BULK AT MOST 1048576: true; the input reads as it did. -/
def modpNewUptoRow : OpenClaim := { program := "ytabahlhaocmglaa", sum := "7450e5099f98931f6de21b73578ca9856d81827471596b90c7163f88719a02e0", func := "escutcheon/escutcheonlaw02.ModpNew", spec := "modpNew", inPlace := ["math/bits.Sub64", "math/bits.Add64"], apart := false, narrowed := true }
def ModpNewUptoSaid : Prop := modpNewUptoRow.holds Try.pinned (OpenSpec.upto modpNewSpec)

/-- 'escutcheonlaw02.ModpReduces', WHERE WHAT IT READS IS OF BULK AT MOST 1048576: true; the input reads as it did. -/
def modpReducesUptoRow : OpenClaim := { program := "ytabahlhaocmglaa", sum := "7450e5099f98931f6de21b73578ca9856d81827471596b90c7163f88719a02e0", func := "escutcheon/escutcheonlaw02.ModpReduces", spec := "modpReduces", inPlace := ["math/bits.Sub64", "math/bits.Add64"], apart := false, narrowed := true }
def ModpReducesUptoSaid : Prop := modpReducesUptoRow.holds Try.pinned (OpenSpec.upto modpReducesSpec)

/-- 'escutcheonlaw02.ModpMuls', WHERE WHAT IT READS IS OF BULK AT MOST 1048576: true; the input reads as it did. -/
def modpMulsUptoRow : OpenClaim := { program := "ytabahlhaocmglaa", sum := "7450e5099f98931f6de21b73578ca9856d81827471596b90c7163f88719a02e0", func := "escutcheon/escutcheonlaw02.ModpMuls", spec := "modpMuls", inPlace := ["math/bits.Sub64", "math/bits.Add64"], apart := false, narrowed := true }
def ModpMulsUptoSaid : Prop := modpMulsUptoRow.holds Try.pinned (OpenSpec.upto modpMulsSpec)

/-- 'escutcheonlaw02.ModpAdds', WHERE WHAT IT READS IS OF BULK AT MOST 1048576: true; the input reads as it did. -/
def modpAddsUptoRow : OpenClaim := { program := "ytabahlhaocmglaa", sum := "7450e5099f98931f6de21b73578ca9856d81827471596b90c7163f88719a02e0", func := "escutcheon/escutcheonlaw02.ModpAdds", spec := "modpAdds", inPlace := ["math/bits.Sub64", "math/bits.Add64"], apart := false, narrowed := true }
def ModpAddsUptoSaid : Prop := modpAddsUptoRow.holds Try.pinned (OpenSpec.upto modpAddsSpec)

/-- 'escutcheonlaw02.ModpSubs', WHERE WHAT IT READS IS OF BULK AT MOST 1048576: true; the input reads as it did. -/
def modpSubsUptoRow : OpenClaim := { program := "ytabahlhaocmglaa", sum := "7450e5099f98931f6de21b73578ca9856d81827471596b90c7163f88719a02e0", func := "escutcheon/escutcheonlaw02.ModpSubs", spec := "modpSubs", inPlace := ["math/bits.Sub64", "math/bits.Add64"], apart := false, narrowed := true }
def ModpSubsUptoSaid : Prop := modpSubsUptoRow.holds Try.pinned (OpenSpec.upto modpSubsSpec)

/-- 'escutcheonlaw02.ModpSpreads', WHERE WHAT IT READS IS OF BULK AT MOST 1048576: true; the input reads as it did. -/
def modpSpreadsUptoRow : OpenClaim := { program := "ytabahlhaocmglaa", sum := "7450e5099f98931f6de21b73578ca9856d81827471596b90c7163f88719a02e0", func := "escutcheon/escutcheonlaw02.ModpSpreads", spec := "modpSpreads", inPlace := ["math/bits.Sub64", "math/bits.Add64"], apart := false, narrowed := true }
def ModpSpreadsUptoSaid : Prop := modpSpreadsUptoRow.holds Try.pinned (OpenSpec.upto modpSpreadsSpec)

/-- 'escutcheonlaw02.ModpExps', WHERE WHAT IT READS IS OF BULK AT MOST 1048576: true; the input reads as it did. -/
def modpExpsUptoRow : OpenClaim := { program := "ytabahlhaocmglaa", sum := "7450e5099f98931f6de21b73578ca9856d81827471596b90c7163f88719a02e0", func := "escutcheon/escutcheonlaw02.ModpExps", spec := "modpExps", inPlace := ["math/bits.Sub64", "math/bits.Add64"], apart := false, narrowed := true }
def ModpExpsUptoSaid : Prop := modpExpsUptoRow.holds Try.pinned (OpenSpec.upto modpExpsSpec)

/-- 'escutcheonlaw02.ModpPowers', WHERE WHAT IT READS IS OF BULK AT MOST 1048576: true; the input reads as it did. -/
def modpPowersUptoRow : OpenClaim := { program := "ytabahlhaocmglaa", sum := "7450e5099f98931f6de21b73578ca9856d81827471596b90c7163f88719a02e0", func := "escutcheon/escutcheonlaw02.ModpPowers", spec := "modpPowers", inPlace := ["math/bits.Sub64", "math/bits.Add64"], apart := false, narrowed := true }
def ModpPowersUptoSaid : Prop := modpPowersUptoRow.holds Try.pinned (OpenSpec.upto modpPowersSpec)

end Rows
end Go.Proofs.Ytabahlhaocmglaa
