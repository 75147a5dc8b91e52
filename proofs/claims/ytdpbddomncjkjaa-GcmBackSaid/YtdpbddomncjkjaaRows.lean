/-
  No cell of these rows narrows 'for every input' (looked for: loops, veiled, ifaces, maps, wideKeys, modest, calm, conditions, laid).
  DERIVED. THE GIVEN ROWS OF THIS SEAT. 20 by the template 'for every input the law returns true; each argument reads behind the call as it read before'; 0 by the template 'total and deterministic' (their statements: YtdpbddomncjkjaaTotals.lean).
  GIVEN WITH THE SEED: the statements are not yours to turn. If you find one false, say at which input.
  Laid BY PROGRAM, IN A SANDBOX (cutbox-rows.mjs): the forced cells as the released guide's own fill.sh prints them over the translation 90ffdee1b45c8cb4… (all of the seat's roots in one cut). By AI agents, Wed Nov 11 2026. No macro, syntax, notation, axiom, sorry.
-/
import Derived.Test.YtdpbddomncjkjaaChecked
import GoSem.Claim
import GoSem.ClaimJoined
import GoSem.ClaimMapViews
import Derived.JoinedTies
import Derived.KernelRfl
namespace Go.Proofs.Ytdpbddomncjkjaa
/- THE CELL 'sum', in the pinned program and in every row, IS THE sha256 OF THE DUMP (.gsa) THAT YtdpbddomncjkjaaProg.lean LOADS. Nothing in Lean hashes anything: it is a label: what it is worth is what the hold of that sum in a sandbox is worth. -/
noncomputable def Try.pinned : Pinned := { name := "ytdpbddomncjkjaa", sum := "90ffdee1b45c8cb49f48d5c0a5d69ceeedc4119315bad7626fa07c4066c92e76", checked := Try.checked }
namespace Rows
def none {H : Type} : Left H := { results := [], args := [] }

/-- 'escutcheonlaw09.AesTurns': WHATEVER THE INPUT: true; the input reads as it did. -/
def aesTurnsSpec : ChangeSpec := { name := "aesTurns", fn := fun _ => fun
  | [d] => { results := [.lit (.bool true)], args := [d] }
  | _ => none }
def aesTurnsRow : OpenClaim := { program := "ytdpbddomncjkjaa", sum := "90ffdee1b45c8cb49f48d5c0a5d69ceeedc4119315bad7626fa07c4066c92e76", func := "escutcheon/escutcheonlaw09.AesTurns", spec := "aesTurns", apart := false }
def AesTurnsSaid : Prop := aesTurnsRow.holds Try.pinned (OpenSpec.ofChange aesTurnsSpec)

/-- ITS FALSE NEIGHBOUR: 'it returns false'. Refute it at one input. -/
def aesTurnsWrong : ChangeSpec := { name := "aesTurns", fn := fun _ => fun
  | [d] => { results := [.lit (.bool false)], args := [d] }
  | _ => none }
def AesTurnsWrongFalsely : Prop := aesTurnsRow.holds Try.pinned (OpenSpec.ofChange aesTurnsWrong)

/-- 'escutcheonlaw09.AesProducts': WHATEVER THE INPUT: true; the input reads as it did. -/
def aesProductsSpec : ChangeSpec := { name := "aesProducts", fn := fun _ => fun
  | [d1, d2] => { results := [.lit (.bool true)], args := [d1, d2] }
  | _ => none }
def aesProductsRow : OpenClaim := { program := "ytdpbddomncjkjaa", sum := "90ffdee1b45c8cb49f48d5c0a5d69ceeedc4119315bad7626fa07c4066c92e76", func := "escutcheon/escutcheonlaw09.AesProducts", spec := "aesProducts", apart := false }
def AesProductsSaid : Prop := aesProductsRow.holds Try.pinned (OpenSpec.ofChange aesProductsSpec)

/-- ITS FALSE NEIGHBOUR: 'it returns false'. Refute it at one input. -/
def aesProductsWrong : ChangeSpec := { name := "aesProducts", fn := fun _ => fun
  | [d1, d2] => { results := [.lit (.bool false)], args := [d1, d2] }
  | _ => none }
def AesProductsWrongFalsely : Prop := aesProductsRow.holds Try.pinned (OpenSpec.ofChange aesProductsWrong)

/-- 'escutcheonlaw08.MacSame': WHATEVER THE INPUT: true; the input reads as it did. -/
def macSameSpec : ChangeSpec := { name := "macSame", fn := fun _ => fun
  | [d1, d2] => { results := [.lit (.bool true)], args := [d1, d2] }
  | _ => none }
def macSameRow : OpenClaim := { program := "ytdpbddomncjkjaa", sum := "90ffdee1b45c8cb49f48d5c0a5d69ceeedc4119315bad7626fa07c4066c92e76", func := "escutcheon/escutcheonlaw08.MacSame", spec := "macSame", apart := false }
def MacSameSaid : Prop := macSameRow.holds Try.pinned (OpenSpec.ofChange macSameSpec)

/-- ITS FALSE NEIGHBOUR: 'it returns false'. Refute it at one input. -/
def macSameWrong : ChangeSpec := { name := "macSame", fn := fun _ => fun
  | [d1, d2] => { results := [.lit (.bool false)], args := [d1, d2] }
  | _ => none }
def MacSameWrongFalsely : Prop := macSameRow.holds Try.pinned (OpenSpec.ofChange macSameWrong)

/-- 'escutcheonlaw07.ShaRounds': WHATEVER THE INPUT: true; the input reads as it did. -/
def shaRoundsSpec : ChangeSpec := { name := "shaRounds", fn := fun _ => fun
  | [d1, d2, d3] => { results := [.lit (.bool true)], args := [d1, d2, d3] }
  | _ => none }
def shaRoundsRow : OpenClaim := { program := "ytdpbddomncjkjaa", sum := "90ffdee1b45c8cb49f48d5c0a5d69ceeedc4119315bad7626fa07c4066c92e76", func := "escutcheon/escutcheonlaw07.ShaRounds", spec := "shaRounds", apart := false }
def ShaRoundsSaid : Prop := shaRoundsRow.holds Try.pinned (OpenSpec.ofChange shaRoundsSpec)

/-- ITS FALSE NEIGHBOUR: 'it returns false'. Refute it at one input. -/
def shaRoundsWrong : ChangeSpec := { name := "shaRounds", fn := fun _ => fun
  | [d1, d2, d3] => { results := [.lit (.bool false)], args := [d1, d2, d3] }
  | _ => none }
def ShaRoundsWrongFalsely : Prop := shaRoundsRow.holds Try.pinned (OpenSpec.ofChange shaRoundsWrong)

/-- 'escutcheonlaw10.GhashMuls': WHATEVER THE INPUT: true; the input reads as it did. -/
def ghashMulsSpec : ChangeSpec := { name := "ghashMuls", fn := fun _ => fun
  | [d1, d2] => { results := [.lit (.bool true)], args := [d1, d2] }
  | _ => none }
def ghashMulsRow : OpenClaim := { program := "ytdpbddomncjkjaa", sum := "90ffdee1b45c8cb49f48d5c0a5d69ceeedc4119315bad7626fa07c4066c92e76", func := "escutcheon/escutcheonlaw10.GhashMuls", spec := "ghashMuls", apart := false }
def GhashMulsSaid : Prop := ghashMulsRow.holds Try.pinned (OpenSpec.ofChange ghashMulsSpec)

/-- ITS FALSE NEIGHBOUR: 'it returns false'. Refute it at one input. -/
def ghashMulsWrong : ChangeSpec := { name := "ghashMuls", fn := fun _ => fun
  | [d1, d2] => { results := [.lit (.bool false)], args := [d1, d2] }
  | _ => none }
def GhashMulsWrongFalsely : Prop := ghashMulsRow.holds Try.pinned (OpenSpec.ofChange ghashMulsWrong)

/-- 'escutcheonlaw10.GhashLaws': WHATEVER THE INPUT: true; the input reads as it did. -/
def ghashLawsSpec : ChangeSpec := { name := "ghashLaws", fn := fun _ => fun
  | [d1, d2, d3] => { results := [.lit (.bool true)], args := [d1, d2, d3] }
  | _ => none }
def ghashLawsRow : OpenClaim := { program := "ytdpbddomncjkjaa", sum := "90ffdee1b45c8cb49f48d5c0a5d69ceeedc4119315bad7626fa07c4066c92e76", func := "escutcheon/escutcheonlaw10.GhashLaws", spec := "ghashLaws", apart := false }
def GhashLawsSaid : Prop := ghashLawsRow.holds Try.pinned (OpenSpec.ofChange ghashLawsSpec)

/-- ITS FALSE NEIGHBOUR: 'it returns false'. Refute it at one input. -/
def ghashLawsWrong : ChangeSpec := { name := "ghashLaws", fn := fun _ => fun
  | [d1, d2, d3] => { results := [.lit (.bool false)], args := [d1, d2, d3] }
  | _ => none }
def GhashLawsWrongFalsely : Prop := ghashLawsRow.holds Try.pinned (OpenSpec.ofChange ghashLawsWrong)

/-- 'escutcheonlaw07.ShaPads': WHATEVER THE INPUT: true; the input reads as it did. -/
def shaPadsSpec : ChangeSpec := { name := "shaPads", fn := fun _ => fun
  | [d] => { results := [.lit (.bool true)], args := [d] }
  | _ => none }
def shaPadsRow : OpenClaim := { program := "ytdpbddomncjkjaa", sum := "90ffdee1b45c8cb49f48d5c0a5d69ceeedc4119315bad7626fa07c4066c92e76", func := "escutcheon/escutcheonlaw07.ShaPads", spec := "shaPads", apart := false }
def ShaPadsSaid : Prop := shaPadsRow.holds Try.pinned (OpenSpec.ofChange shaPadsSpec)

/-- ITS FALSE NEIGHBOUR: 'it returns false'. Refute it at one input. -/
def shaPadsWrong : ChangeSpec := { name := "shaPads", fn := fun _ => fun
  | [d] => { results := [.lit (.bool false)], args := [d] }
  | _ => none }
def ShaPadsWrongFalsely : Prop := shaPadsRow.holds Try.pinned (OpenSpec.ofChange shaPadsWrong)

/-- 'escutcheonlaw09.AesMixes': WHATEVER THE INPUT: true; the input reads as it did. -/
def aesMixesSpec : ChangeSpec := { name := "aesMixes", fn := fun _ => fun
  | [d] => { results := [.lit (.bool true)], args := [d] }
  | _ => none }
def aesMixesRow : OpenClaim := { program := "ytdpbddomncjkjaa", sum := "90ffdee1b45c8cb49f48d5c0a5d69ceeedc4119315bad7626fa07c4066c92e76", func := "escutcheon/escutcheonlaw09.AesMixes", spec := "aesMixes", unfollowed := true, recurses := true, apart := false }
def AesMixesSaid : Prop := aesMixesRow.holds Try.pinned (OpenSpec.ofChange aesMixesSpec)

/-- ITS FALSE NEIGHBOUR: 'it returns false'. Refute it at one input. -/
def aesMixesWrong : ChangeSpec := { name := "aesMixes", fn := fun _ => fun
  | [d] => { results := [.lit (.bool false)], args := [d] }
  | _ => none }
def AesMixesWrongFalsely : Prop := aesMixesRow.holds Try.pinned (OpenSpec.ofChange aesMixesWrong)

/-- 'escutcheonlaw09.AesSubstitutes': WHATEVER THE INPUT: true; the input reads as it did. -/
def aesSubstitutesSpec : ChangeSpec := { name := "aesSubstitutes", fn := fun _ => fun
  | [d] => { results := [.lit (.bool true)], args := [d] }
  | _ => none }
def aesSubstitutesRow : OpenClaim := { program := "ytdpbddomncjkjaa", sum := "90ffdee1b45c8cb49f48d5c0a5d69ceeedc4119315bad7626fa07c4066c92e76", func := "escutcheon/escutcheonlaw09.AesSubstitutes", spec := "aesSubstitutes", apart := false }
def AesSubstitutesSaid : Prop := aesSubstitutesRow.holds Try.pinned (OpenSpec.ofChange aesSubstitutesSpec)

/-- ITS FALSE NEIGHBOUR: 'it returns false'. Refute it at one input. -/
def aesSubstitutesWrong : ChangeSpec := { name := "aesSubstitutes", fn := fun _ => fun
  | [d] => { results := [.lit (.bool false)], args := [d] }
  | _ => none }
def AesSubstitutesWrongFalsely : Prop := aesSubstitutesRow.holds Try.pinned (OpenSpec.ofChange aesSubstitutesWrong)

/-- 'escutcheonlaw07.ShaSchedules': WHATEVER THE INPUT: true; the input reads as it did. -/
def shaSchedulesSpec : ChangeSpec := { name := "shaSchedules", fn := fun _ => fun
  | [d] => { results := [.lit (.bool true)], args := [d] }
  | _ => none }
def shaSchedulesRow : OpenClaim := { program := "ytdpbddomncjkjaa", sum := "90ffdee1b45c8cb49f48d5c0a5d69ceeedc4119315bad7626fa07c4066c92e76", func := "escutcheon/escutcheonlaw07.ShaSchedules", spec := "shaSchedules", apart := false }
def ShaSchedulesSaid : Prop := shaSchedulesRow.holds Try.pinned (OpenSpec.ofChange shaSchedulesSpec)

/-- ITS FALSE NEIGHBOUR: 'it returns false'. Refute it at one input. -/
def shaSchedulesWrong : ChangeSpec := { name := "shaSchedules", fn := fun _ => fun
  | [d] => { results := [.lit (.bool false)], args := [d] }
  | _ => none }
def ShaSchedulesWrongFalsely : Prop := shaSchedulesRow.holds Try.pinned (OpenSpec.ofChange shaSchedulesWrong)

/-- 'escutcheonlaw10.GhashHashes': WHATEVER THE INPUT: true; the input reads as it did. -/
def ghashHashesSpec : ChangeSpec := { name := "ghashHashes", fn := fun _ => fun
  | [d1, d2] => { results := [.lit (.bool true)], args := [d1, d2] }
  | _ => none }
def ghashHashesRow : OpenClaim := { program := "ytdpbddomncjkjaa", sum := "90ffdee1b45c8cb49f48d5c0a5d69ceeedc4119315bad7626fa07c4066c92e76", func := "escutcheon/escutcheonlaw10.GhashHashes", spec := "ghashHashes", apart := false }
def GhashHashesSaid : Prop := ghashHashesRow.holds Try.pinned (OpenSpec.ofChange ghashHashesSpec)

/-- ITS FALSE NEIGHBOUR: 'it returns false'. Refute it at one input. -/
def ghashHashesWrong : ChangeSpec := { name := "ghashHashes", fn := fun _ => fun
  | [d1, d2] => { results := [.lit (.bool false)], args := [d1, d2] }
  | _ => none }
def GhashHashesWrongFalsely : Prop := ghashHashesRow.holds Try.pinned (OpenSpec.ofChange ghashHashesWrong)

/-- 'escutcheonlaw10.GhashSums': WHATEVER THE INPUT: true; the input reads as it did. -/
def ghashSumsSpec : ChangeSpec := { name := "ghashSums", fn := fun _ => fun
  | [d1, d2, d3] => { results := [.lit (.bool true)], args := [d1, d2, d3] }
  | _ => none }
def ghashSumsRow : OpenClaim := { program := "ytdpbddomncjkjaa", sum := "90ffdee1b45c8cb49f48d5c0a5d69ceeedc4119315bad7626fa07c4066c92e76", func := "escutcheon/escutcheonlaw10.GhashSums", spec := "ghashSums", apart := false }
def GhashSumsSaid : Prop := ghashSumsRow.holds Try.pinned (OpenSpec.ofChange ghashSumsSpec)

/-- ITS FALSE NEIGHBOUR: 'it returns false'. Refute it at one input. -/
def ghashSumsWrong : ChangeSpec := { name := "ghashSums", fn := fun _ => fun
  | [d1, d2, d3] => { results := [.lit (.bool false)], args := [d1, d2, d3] }
  | _ => none }
def GhashSumsWrongFalsely : Prop := ghashSumsRow.holds Try.pinned (OpenSpec.ofChange ghashSumsWrong)

/-- 'escutcheonlaw10.GhashWhole': WHATEVER THE INPUT: true; the input reads as it did. -/
def ghashWholeSpec : ChangeSpec := { name := "ghashWhole", fn := fun _ => fun
  | [d1, d2, d3] => { results := [.lit (.bool true)], args := [d1, d2, d3] }
  | _ => none }
def ghashWholeRow : OpenClaim := { program := "ytdpbddomncjkjaa", sum := "90ffdee1b45c8cb49f48d5c0a5d69ceeedc4119315bad7626fa07c4066c92e76", func := "escutcheon/escutcheonlaw10.GhashWhole", spec := "ghashWhole", apart := false }
def GhashWholeSaid : Prop := ghashWholeRow.holds Try.pinned (OpenSpec.ofChange ghashWholeSpec)

/-- ITS FALSE NEIGHBOUR: 'it returns false'. Refute it at one input. -/
def ghashWholeWrong : ChangeSpec := { name := "ghashWhole", fn := fun _ => fun
  | [d1, d2, d3] => { results := [.lit (.bool false)], args := [d1, d2, d3] }
  | _ => none }
def GhashWholeWrongFalsely : Prop := ghashWholeRow.holds Try.pinned (OpenSpec.ofChange ghashWholeWrong)

/-- 'escutcheonlaw09.AesKeys': WHATEVER THE INPUT: true; the input reads as it did. -/
def aesKeysSpec : ChangeSpec := { name := "aesKeys", fn := fun _ => fun
  | [d] => { results := [.lit (.bool true)], args := [d] }
  | _ => none }
def aesKeysRow : OpenClaim := { program := "ytdpbddomncjkjaa", sum := "90ffdee1b45c8cb49f48d5c0a5d69ceeedc4119315bad7626fa07c4066c92e76", func := "escutcheon/escutcheonlaw09.AesKeys", spec := "aesKeys", apart := false }
def AesKeysSaid : Prop := aesKeysRow.holds Try.pinned (OpenSpec.ofChange aesKeysSpec)

/-- ITS FALSE NEIGHBOUR: 'it returns false'. Refute it at one input. -/
def aesKeysWrong : ChangeSpec := { name := "aesKeys", fn := fun _ => fun
  | [d] => { results := [.lit (.bool false)], args := [d] }
  | _ => none }
def AesKeysWrongFalsely : Prop := aesKeysRow.holds Try.pinned (OpenSpec.ofChange aesKeysWrong)

/-- 'escutcheonlaw09.AesEncrypts': WHATEVER THE INPUT: true; the input reads as it did. -/
def aesEncryptsSpec : ChangeSpec := { name := "aesEncrypts", fn := fun _ => fun
  | [d1, d2] => { results := [.lit (.bool true)], args := [d1, d2] }
  | _ => none }
def aesEncryptsRow : OpenClaim := { program := "ytdpbddomncjkjaa", sum := "90ffdee1b45c8cb49f48d5c0a5d69ceeedc4119315bad7626fa07c4066c92e76", func := "escutcheon/escutcheonlaw09.AesEncrypts", spec := "aesEncrypts", unfollowed := true, recurses := true, apart := false }
def AesEncryptsSaid : Prop := aesEncryptsRow.holds Try.pinned (OpenSpec.ofChange aesEncryptsSpec)

/-- ITS FALSE NEIGHBOUR: 'it returns false'. Refute it at one input. -/
def aesEncryptsWrong : ChangeSpec := { name := "aesEncrypts", fn := fun _ => fun
  | [d1, d2] => { results := [.lit (.bool false)], args := [d1, d2] }
  | _ => none }
def AesEncryptsWrongFalsely : Prop := aesEncryptsRow.holds Try.pinned (OpenSpec.ofChange aesEncryptsWrong)

/-- 'escutcheonlaw09.AesApart': WHATEVER THE INPUT: true; the input reads as it did. -/
def aesApartSpec : ChangeSpec := { name := "aesApart", fn := fun _ => fun
  | [d1, d2, d3] => { results := [.lit (.bool true)], args := [d1, d2, d3] }
  | _ => none }
def aesApartRow : OpenClaim := { program := "ytdpbddomncjkjaa", sum := "90ffdee1b45c8cb49f48d5c0a5d69ceeedc4119315bad7626fa07c4066c92e76", func := "escutcheon/escutcheonlaw09.AesApart", spec := "aesApart", unfollowed := true, recurses := true, apart := false }
def AesApartSaid : Prop := aesApartRow.holds Try.pinned (OpenSpec.ofChange aesApartSpec)

/-- ITS FALSE NEIGHBOUR: 'it returns false'. Refute it at one input. -/
def aesApartWrong : ChangeSpec := { name := "aesApart", fn := fun _ => fun
  | [d1, d2, d3] => { results := [.lit (.bool false)], args := [d1, d2, d3] }
  | _ => none }
def AesApartWrongFalsely : Prop := aesApartRow.holds Try.pinned (OpenSpec.ofChange aesApartWrong)

/-- 'escutcheonlaw11.GcmSeals': WHATEVER THE INPUT: true; the input reads as it did. -/
def gcmSealsSpec : ChangeSpec := { name := "gcmSeals", fn := fun _ => fun
  | [d1, d2, d3, d4] => { results := [.lit (.bool true)], args := [d1, d2, d3, d4] }
  | _ => none }
def gcmSealsRow : OpenClaim := { program := "ytdpbddomncjkjaa", sum := "90ffdee1b45c8cb49f48d5c0a5d69ceeedc4119315bad7626fa07c4066c92e76", func := "escutcheon/escutcheonlaw11.GcmSeals", spec := "gcmSeals", unfollowed := true, recurses := true, apart := false }
def GcmSealsSaid : Prop := gcmSealsRow.holds Try.pinned (OpenSpec.ofChange gcmSealsSpec)

/-- ITS FALSE NEIGHBOUR: 'it returns false'. Refute it at one input. -/
def gcmSealsWrong : ChangeSpec := { name := "gcmSeals", fn := fun _ => fun
  | [d1, d2, d3, d4] => { results := [.lit (.bool false)], args := [d1, d2, d3, d4] }
  | _ => none }
def GcmSealsWrongFalsely : Prop := gcmSealsRow.holds Try.pinned (OpenSpec.ofChange gcmSealsWrong)

/-- 'escutcheonlaw11.GcmOpens': WHATEVER THE INPUT: true; the input reads as it did. -/
def gcmOpensSpec : ChangeSpec := { name := "gcmOpens", fn := fun _ => fun
  | [d1, d2, d3, d4] => { results := [.lit (.bool true)], args := [d1, d2, d3, d4] }
  | _ => none }
def gcmOpensRow : OpenClaim := { program := "ytdpbddomncjkjaa", sum := "90ffdee1b45c8cb49f48d5c0a5d69ceeedc4119315bad7626fa07c4066c92e76", func := "escutcheon/escutcheonlaw11.GcmOpens", spec := "gcmOpens", unfollowed := true, recurses := true, apart := false }
def GcmOpensSaid : Prop := gcmOpensRow.holds Try.pinned (OpenSpec.ofChange gcmOpensSpec)

/-- ITS FALSE NEIGHBOUR: 'it returns false'. Refute it at one input. -/
def gcmOpensWrong : ChangeSpec := { name := "gcmOpens", fn := fun _ => fun
  | [d1, d2, d3, d4] => { results := [.lit (.bool false)], args := [d1, d2, d3, d4] }
  | _ => none }
def GcmOpensWrongFalsely : Prop := gcmOpensRow.holds Try.pinned (OpenSpec.ofChange gcmOpensWrong)

/-- 'escutcheonlaw11.GcmLong': WHATEVER THE INPUT: true; the input reads as it did. -/
def gcmLongSpec : ChangeSpec := { name := "gcmLong", fn := fun _ => fun
  | [d1, d2] => { results := [.lit (.bool true)], args := [d1, d2] }
  | _ => none }
def gcmLongRow : OpenClaim := { program := "ytdpbddomncjkjaa", sum := "90ffdee1b45c8cb49f48d5c0a5d69ceeedc4119315bad7626fa07c4066c92e76", func := "escutcheon/escutcheonlaw11.GcmLong", spec := "gcmLong", unfollowed := true, recurses := true, apart := false }
def GcmLongSaid : Prop := gcmLongRow.holds Try.pinned (OpenSpec.ofChange gcmLongSpec)

/-- ITS FALSE NEIGHBOUR: 'it returns false'. Refute it at one input. -/
def gcmLongWrong : ChangeSpec := { name := "gcmLong", fn := fun _ => fun
  | [d1, d2] => { results := [.lit (.bool false)], args := [d1, d2] }
  | _ => none }
def GcmLongWrongFalsely : Prop := gcmLongRow.holds Try.pinned (OpenSpec.ofChange gcmLongWrong)

/-- 'escutcheonlaw11.GcmBack': WHATEVER THE INPUT: true; the input reads as it did. -/
def gcmBackSpec : ChangeSpec := { name := "gcmBack", fn := fun _ => fun
  | [d1, d2, d3, d4, d5, d6] => { results := [.lit (.bool true)], args := [d1, d2, d3, d4, d5, d6] }
  | _ => none }
def gcmBackRow : OpenClaim := { program := "ytdpbddomncjkjaa", sum := "90ffdee1b45c8cb49f48d5c0a5d69ceeedc4119315bad7626fa07c4066c92e76", func := "escutcheon/escutcheonlaw11.GcmBack", spec := "gcmBack", unfollowed := true, recurses := true, apart := false }
def GcmBackSaid : Prop := gcmBackRow.holds Try.pinned (OpenSpec.ofChange gcmBackSpec)

/-- ITS FALSE NEIGHBOUR: 'it returns false'. Refute it at one input. -/
def gcmBackWrong : ChangeSpec := { name := "gcmBack", fn := fun _ => fun
  | [d1, d2, d3, d4, d5, d6] => { results := [.lit (.bool false)], args := [d1, d2, d3, d4, d5, d6] }
  | _ => none }
def GcmBackWrongFalsely : Prop := gcmBackRow.holds Try.pinned (OpenSpec.ofChange gcmBackWrong)

/- THE SECOND FORM. 'bulk': how many values and letters a reading holds, each counted each time it is reached (what is shared counts as often as it is met; a slice's spare places count too). A statement '..UptoSaid' is the law's where the arguments, and the package variables that the reading takes, are together of bulk at most 1048576: NARROWER than '..Said'. Prove '..Said' where nothing that the law and all that it calls make is longer than what came in: it says more and counts as full. Else prove '..UptoSaid'. A law counts once. -/
mutual
def uptoBulk {H : Type} : DataW H → Nat
  | .lit (.string bytes) => bytes.length + 1
  | .lit _ => 1
  | .nil => 1
  | .ptr d => uptoBulk d + 1
  | .slice elems spare => uptoBulkAll elems + uptoBulkAll spare + 1
  | .agg parts => uptoBulkAll parts + 1
  | .iface _ d => uptoBulk d + 1
  | .map entries => uptoBulkEntries entries + 1
  | .held _ => 1
def uptoBulkAll {H : Type} : List (DataW H) → Nat
  | [] => 0
  | d :: r => uptoBulk d + uptoBulkAll r
def uptoBulkEntries {H : Type} : List (Lit × DataW H) → Nat
  | [] => 0
  | x :: r => uptoBulkEntry x + uptoBulkEntries r
def uptoBulkEntry {H : Type} : Lit × DataW H → Nat
  | (.string bytes, d) => bytes.length + uptoBulk d + 1
  | (_, d) => uptoBulk d + 1
 end
def uptoSmall : (H : Type) → List (DataW H) → Bool := fun _ ds => decide (uptoBulkAll ds ≤ 1048576)
def OpenSpec.upto (s : _root_.Go.ChangeSpec) : _root_.Go.OpenSpec := { _root_.Go.OpenSpec.ofChange s with cond := some uptoSmall }

/-- 'escutcheonlaw09.AesTurns', WHERE WHAT IT READS IS OF BULK AT MOST 1048576: true; the input reads as it did. -/
def aesTurnsUptoRow : OpenClaim := { program := "ytdpbddomncjkjaa", sum := "90ffdee1b45c8cb49f48d5c0a5d69ceeedc4119315bad7626fa07c4066c92e76", func := "escutcheon/escutcheonlaw09.AesTurns", spec := "aesTurns", apart := false, narrowed := true }
def AesTurnsUptoSaid : Prop := aesTurnsUptoRow.holds Try.pinned (OpenSpec.upto aesTurnsSpec)

/-- 'escutcheonlaw09.AesProducts', WHERE WHAT IT READS IS OF BULK AT MOST 1048576: true; the input reads as it did. -/
def aesProductsUptoRow : OpenClaim := { program := "ytdpbddomncjkjaa", sum := "90ffdee1b45c8cb49f48d5c0a5d69ceeedc4119315bad7626fa07c4066c92e76", func := "escutcheon/escutcheonlaw09.AesProducts", spec := "aesProducts", apart := false, narrowed := true }
def AesProductsUptoSaid : Prop := aesProductsUptoRow.holds Try.pinned (OpenSpec.upto aesProductsSpec)

/-- 'escutcheonlaw08.MacSame', WHERE WHAT IT READS IS OF BULK AT MOST 1048576: true; the input reads as it did. -/
def macSameUptoRow : OpenClaim := { program := "ytdpbddomncjkjaa", sum := "90ffdee1b45c8cb49f48d5c0a5d69ceeedc4119315bad7626fa07c4066c92e76", func := "escutcheon/escutcheonlaw08.MacSame", spec := "macSame", apart := false, narrowed := true }
def MacSameUptoSaid : Prop := macSameUptoRow.holds Try.pinned (OpenSpec.upto macSameSpec)

/-- 'escutcheonlaw07.ShaRounds', WHERE WHAT IT READS IS OF BULK AT MOST 1048576: true; the input reads as it did. -/
def shaRoundsUptoRow : OpenClaim := { program := "ytdpbddomncjkjaa", sum := "90ffdee1b45c8cb49f48d5c0a5d69ceeedc4119315bad7626fa07c4066c92e76", func := "escutcheon/escutcheonlaw07.ShaRounds", spec := "shaRounds", apart := false, narrowed := true }
def ShaRoundsUptoSaid : Prop := shaRoundsUptoRow.holds Try.pinned (OpenSpec.upto shaRoundsSpec)

/-- 'escutcheonlaw10.GhashMuls', WHERE WHAT IT READS IS OF BULK AT MOST 1048576: true; the input reads as it did. -/
def ghashMulsUptoRow : OpenClaim := { program := "ytdpbddomncjkjaa", sum := "90ffdee1b45c8cb49f48d5c0a5d69ceeedc4119315bad7626fa07c4066c92e76", func := "escutcheon/escutcheonlaw10.GhashMuls", spec := "ghashMuls", apart := false, narrowed := true }
def GhashMulsUptoSaid : Prop := ghashMulsUptoRow.holds Try.pinned (OpenSpec.upto ghashMulsSpec)

/-- 'escutcheonlaw10.GhashLaws', WHERE WHAT IT READS IS OF BULK AT MOST 1048576: true; the input reads as it did. -/
def ghashLawsUptoRow : OpenClaim := { program := "ytdpbddomncjkjaa", sum := "90ffdee1b45c8cb49f48d5c0a5d69ceeedc4119315bad7626fa07c4066c92e76", func := "escutcheon/escutcheonlaw10.GhashLaws", spec := "ghashLaws", apart := false, narrowed := true }
def GhashLawsUptoSaid : Prop := ghashLawsUptoRow.holds Try.pinned (OpenSpec.upto ghashLawsSpec)

/-- 'escutcheonlaw07.ShaPads', WHERE WHAT IT READS IS OF BULK AT MOST 1048576: true; the input reads as it did. -/
def shaPadsUptoRow : OpenClaim := { program := "ytdpbddomncjkjaa", sum := "90ffdee1b45c8cb49f48d5c0a5d69ceeedc4119315bad7626fa07c4066c92e76", func := "escutcheon/escutcheonlaw07.ShaPads", spec := "shaPads", apart := false, narrowed := true }
def ShaPadsUptoSaid : Prop := shaPadsUptoRow.holds Try.pinned (OpenSpec.upto shaPadsSpec)

/-- 'escutcheonlaw09.AesMixes', WHERE WHAT IT READS IS OF BULK AT MOST 1048576: true; the input reads as it did. -/
def aesMixesUptoRow : OpenClaim := { program := "ytdpbddomncjkjaa", sum := "90ffdee1b45c8cb49f48d5c0a5d69ceeedc4119315bad7626fa07c4066c92e76", func := "escutcheon/escutcheonlaw09.AesMixes", spec := "aesMixes", unfollowed := true, recurses := true, apart := false, narrowed := true }
def AesMixesUptoSaid : Prop := aesMixesUptoRow.holds Try.pinned (OpenSpec.upto aesMixesSpec)

/-- 'escutcheonlaw09.AesSubstitutes', WHERE WHAT IT READS IS OF BULK AT MOST 1048576: true; the input reads as it did. -/
def aesSubstitutesUptoRow : OpenClaim := { program := "ytdpbddomncjkjaa", sum := "90ffdee1b45c8cb49f48d5c0a5d69ceeedc4119315bad7626fa07c4066c92e76", func := "escutcheon/escutcheonlaw09.AesSubstitutes", spec := "aesSubstitutes", apart := false, narrowed := true }
def AesSubstitutesUptoSaid : Prop := aesSubstitutesUptoRow.holds Try.pinned (OpenSpec.upto aesSubstitutesSpec)

/-- 'escutcheonlaw07.ShaSchedules', WHERE WHAT IT READS IS OF BULK AT MOST 1048576: true; the input reads as it did. -/
def shaSchedulesUptoRow : OpenClaim := { program := "ytdpbddomncjkjaa", sum := "90ffdee1b45c8cb49f48d5c0a5d69ceeedc4119315bad7626fa07c4066c92e76", func := "escutcheon/escutcheonlaw07.ShaSchedules", spec := "shaSchedules", apart := false, narrowed := true }
def ShaSchedulesUptoSaid : Prop := shaSchedulesUptoRow.holds Try.pinned (OpenSpec.upto shaSchedulesSpec)

/-- 'escutcheonlaw10.GhashHashes', WHERE WHAT IT READS IS OF BULK AT MOST 1048576: true; the input reads as it did. -/
def ghashHashesUptoRow : OpenClaim := { program := "ytdpbddomncjkjaa", sum := "90ffdee1b45c8cb49f48d5c0a5d69ceeedc4119315bad7626fa07c4066c92e76", func := "escutcheon/escutcheonlaw10.GhashHashes", spec := "ghashHashes", apart := false, narrowed := true }
def GhashHashesUptoSaid : Prop := ghashHashesUptoRow.holds Try.pinned (OpenSpec.upto ghashHashesSpec)

/-- 'escutcheonlaw10.GhashSums', WHERE WHAT IT READS IS OF BULK AT MOST 1048576: true; the input reads as it did. -/
def ghashSumsUptoRow : OpenClaim := { program := "ytdpbddomncjkjaa", sum := "90ffdee1b45c8cb49f48d5c0a5d69ceeedc4119315bad7626fa07c4066c92e76", func := "escutcheon/escutcheonlaw10.GhashSums", spec := "ghashSums", apart := false, narrowed := true }
def GhashSumsUptoSaid : Prop := ghashSumsUptoRow.holds Try.pinned (OpenSpec.upto ghashSumsSpec)

/-- 'escutcheonlaw10.GhashWhole', WHERE WHAT IT READS IS OF BULK AT MOST 1048576: true; the input reads as it did. -/
def ghashWholeUptoRow : OpenClaim := { program := "ytdpbddomncjkjaa", sum := "90ffdee1b45c8cb49f48d5c0a5d69ceeedc4119315bad7626fa07c4066c92e76", func := "escutcheon/escutcheonlaw10.GhashWhole", spec := "ghashWhole", apart := false, narrowed := true }
def GhashWholeUptoSaid : Prop := ghashWholeUptoRow.holds Try.pinned (OpenSpec.upto ghashWholeSpec)

/-- 'escutcheonlaw09.AesKeys', WHERE WHAT IT READS IS OF BULK AT MOST 1048576: true; the input reads as it did. -/
def aesKeysUptoRow : OpenClaim := { program := "ytdpbddomncjkjaa", sum := "90ffdee1b45c8cb49f48d5c0a5d69ceeedc4119315bad7626fa07c4066c92e76", func := "escutcheon/escutcheonlaw09.AesKeys", spec := "aesKeys", apart := false, narrowed := true }
def AesKeysUptoSaid : Prop := aesKeysUptoRow.holds Try.pinned (OpenSpec.upto aesKeysSpec)

/-- 'escutcheonlaw09.AesEncrypts', WHERE WHAT IT READS IS OF BULK AT MOST 1048576: true; the input reads as it did. -/
def aesEncryptsUptoRow : OpenClaim := { program := "ytdpbddomncjkjaa", sum := "90ffdee1b45c8cb49f48d5c0a5d69ceeedc4119315bad7626fa07c4066c92e76", func := "escutcheon/escutcheonlaw09.AesEncrypts", spec := "aesEncrypts", unfollowed := true, recurses := true, apart := false, narrowed := true }
def AesEncryptsUptoSaid : Prop := aesEncryptsUptoRow.holds Try.pinned (OpenSpec.upto aesEncryptsSpec)

/-- 'escutcheonlaw09.AesApart', WHERE WHAT IT READS IS OF BULK AT MOST 1048576: true; the input reads as it did. -/
def aesApartUptoRow : OpenClaim := { program := "ytdpbddomncjkjaa", sum := "90ffdee1b45c8cb49f48d5c0a5d69ceeedc4119315bad7626fa07c4066c92e76", func := "escutcheon/escutcheonlaw09.AesApart", spec := "aesApart", unfollowed := true, recurses := true, apart := false, narrowed := true }
def AesApartUptoSaid : Prop := aesApartUptoRow.holds Try.pinned (OpenSpec.upto aesApartSpec)

/-- 'escutcheonlaw11.GcmSeals', WHERE WHAT IT READS IS OF BULK AT MOST 1048576: true; the input reads as it did. -/
def gcmSealsUptoRow : OpenClaim := { program := "ytdpbddomncjkjaa", sum := "90ffdee1b45c8cb49f48d5c0a5d69ceeedc4119315bad7626fa07c4066c92e76", func := "escutcheon/escutcheonlaw11.GcmSeals", spec := "gcmSeals", unfollowed := true, recurses := true, apart := false, narrowed := true }
def GcmSealsUptoSaid : Prop := gcmSealsUptoRow.holds Try.pinned (OpenSpec.upto gcmSealsSpec)

/-- 'escutcheonlaw11.GcmOpens', WHERE WHAT IT READS IS OF BULK AT MOST 1048576: true; the input reads as it did. -/
def gcmOpensUptoRow : OpenClaim := { program := "ytdpbddomncjkjaa", sum := "90ffdee1b45c8cb49f48d5c0a5d69ceeedc4119315bad7626fa07c4066c92e76", func := "escutcheon/escutcheonlaw11.GcmOpens", spec := "gcmOpens", unfollowed := true, recurses := true, apart := false, narrowed := true }
def GcmOpensUptoSaid : Prop := gcmOpensUptoRow.holds Try.pinned (OpenSpec.upto gcmOpensSpec)

/-- 'escutcheonlaw11.GcmLong', WHERE WHAT IT READS IS OF BULK AT MOST 1048576: true; the input reads as it did. -/
def gcmLongUptoRow : OpenClaim := { program := "ytdpbddomncjkjaa", sum := "90ffdee1b45c8cb49f48d5c0a5d69ceeedc4119315bad7626fa07c4066c92e76", func := "escutcheon/escutcheonlaw11.GcmLong", spec := "gcmLong", unfollowed := true, recurses := true, apart := false, narrowed := true }
def GcmLongUptoSaid : Prop := gcmLongUptoRow.holds Try.pinned (OpenSpec.upto gcmLongSpec)

/-- 'escutcheonlaw11.GcmBack', WHERE WHAT IT READS IS OF BULK AT MOST 1048576: true; the input reads as it did. -/
def gcmBackUptoRow : OpenClaim := { program := "ytdpbddomncjkjaa", sum := "90ffdee1b45c8cb49f48d5c0a5d69ceeedc4119315bad7626fa07c4066c92e76", func := "escutcheon/escutcheonlaw11.GcmBack", spec := "gcmBack", unfollowed := true, recurses := true, apart := false, narrowed := true }
def GcmBackUptoSaid : Prop := gcmBackUptoRow.holds Try.pinned (OpenSpec.upto gcmBackSpec)

end Rows
end Go.Proofs.Ytdpbddomncjkjaa
