/- Contracts of the program's functions, and laws over them. There is no further condition. -/
import Derived.Test.YtmlehjafpofkoaaGreatDoorED
import Derived.Test.YtmlehjafpofkoaaGreatDoorChecked
import Derived.KernelRfl
set_option linter.unusedVariables false
set_option linter.unusedSimpArgs false
set_option linter.unusedSectionVars false
set_option exponentiation.threshold 2000
namespace Eng
open Go Go.Proofs
theorem ty3 : tyOf Tryz.prog 3 = some ⟨.int .i64, 1, 8, [.int .i64 0], false, true, true⟩ := by kernel_rfl
theorem ty4 : tyOf Tryz.prog 4 = some ⟨.bool, 1, 1, [.bool false], false, true, true⟩ := by kernel_rfl
theorem ty5 : tyOf Tryz.prog 5 = some ⟨.int .u8, 1, 1, [.int .u8 0], false, true, true⟩ := by kernel_rfl
theorem ty9 : tyOf Tryz.prog 9 = some ⟨.string, 1, 16, [.str ⟨#[]⟩], false, true, true⟩ := by kernel_rfl
theorem ty22 : tyOf Tryz.prog 22 = some ⟨.int .u64, 1, 8, [.int .u64 0], false, true, true⟩ := by kernel_rfl
theorem ty23 : tyOf Tryz.prog 23 = some ⟨.array 6 22, 6, 48, ints .u64 (List.replicate 6 0), true, true, true⟩ := by kernel_rfl
theorem ty24 : tyOf Tryz.prog 24 = some ⟨.array 6 22, 6, 48, ints .u64 (List.replicate 6 0), true, true, true⟩ := by kernel_rfl
theorem ty27 : tyOf Tryz.prog 27 = some ⟨.struct #[⟨ "X", 24, 0, false, "", "", 0⟩, ⟨ "Y", 24, 6, false, "", "", 48⟩, ⟨ "None", 4, 12, false, "", "", 96⟩], 13, 104, [.int .u64 0, .int .u64 0, .int .u64 0, .int .u64 0, .int .u64 0, .int .u64 0, .int .u64 0, .int .u64 0, .int .u64 0, .int .u64 0, .int .u64 0, .int .u64 0, .bool false], true, true, true⟩ := by kernel_rfl
theorem ty28 : tyOf Tryz.prog 28 = some ⟨.slice 3, 1, 24, [.nils], false, true, false⟩ := by kernel_rfl
theorem ty30 : tyOf Tryz.prog 30 = some ⟨.interface #[("Error", 326)], 1, 16, [.nili], false, true, true⟩ := by kernel_rfl
theorem ty35 : tyOf Tryz.prog 35 = some ⟨.pointer 61, 1, 8, [.nilp], false, true, true⟩ := by kernel_rfl
theorem ty38 : tyOf Tryz.prog 38 = some ⟨.int .i64, 1, 8, [.int .i64 0], false, true, true⟩ := by kernel_rfl
theorem ty39 : tyOf Tryz.prog 39 = some ⟨.array 2 38, 2, 16, ints .i64 (List.replicate 2 0), true, true, true⟩ := by kernel_rfl
theorem ty41 : tyOf Tryz.prog 41 = some ⟨.struct #[⟨ "Ok", 4, 0, false, "", "", 0⟩, ⟨ "Slot", 3, 1, false, "", "", 8⟩, ⟨ "Entry", 3, 2, false, "", "", 16⟩, ⟨ "Version", 3, 3, false, "", "", 24⟩, ⟨ "Why", 39, 4, false, "", "", 32⟩], 6, 48, [.bool false, .int .i64 0, .int .i64 0, .int .i64 0, .int .i64 0, .int .i64 0], true, true, true⟩ := by kernel_rfl
theorem ty49 : tyOf Tryz.prog 49 = some ⟨.struct #[⟨ "Anchor", 47, 0, false, "", "", 0⟩, ⟨ "Secret", 24, 14, false, "", "", 128⟩, ⟨ "Class", 3, 20, false, "", "", 176⟩], 21, 184, [.nils, .int .u64 0, .int .u64 0, .int .u64 0, .int .u64 0, .int .u64 0, .int .u64 0, .int .u64 0, .int .u64 0, .int .u64 0, .int .u64 0, .int .u64 0, .int .u64 0, .bool false, .int .u64 0, .int .u64 0, .int .u64 0, .int .u64 0, .int .u64 0, .int .u64 0, .int .i64 0], true, true, false⟩ := by kernel_rfl
theorem ty52 : tyOf Tryz.prog 52 = some ⟨.struct #[⟨ "X", 24, 0, false, "", "", 0⟩, ⟨ "Y", 24, 6, false, "", "", 48⟩, ⟨ "Z", 24, 12, false, "", "", 96⟩], 18, 144, ints .u64 (List.replicate 18 0), true, true, true⟩ := by kernel_rfl
theorem ty57 : tyOf Tryz.prog 57 = some ⟨.slice 5, 1, 24, [.nils], false, true, false⟩ := by kernel_rfl
theorem ty59 : tyOf Tryz.prog 59 = some ⟨.array 2 57, 2, 48, [.nils, .nils], true, true, false⟩ := by kernel_rfl
theorem ty61 : tyOf Tryz.prog 61 = some ⟨.struct #[⟨ "slots", 59, 0, false, "", "escutcheon/device", 0⟩, ⟨ "ram", 57, 2, false, "", "escutcheon/device", 48⟩, ⟨ "fuses", 22, 3, false, "", "escutcheon/device", 72⟩, ⟨ "off", 4, 4, false, "", "escutcheon/device", 80⟩, ⟨ "steps", 3, 5, false, "", "escutcheon/device", 88⟩, ⟨ "left", 3, 6, false, "", "escutcheon/device", 96⟩], 7, 104, [.nils, .nils, .nils, .int .u64 0, .bool false, .int .i64 0, .int .i64 0], true, true, false⟩ := by kernel_rfl
theorem ty67 : tyOf Tryz.prog 67 = some ⟨.struct #[⟨ "Version", 3, 0, false, "", "", 0⟩, ⟨ "Class", 3, 1, false, "", "", 8⟩, ⟨ "Load", 3, 2, false, "", "", 16⟩, ⟨ "Length", 3, 3, false, "", "", 24⟩, ⟨ "Nonce", 57, 4, false, "", "", 32⟩, ⟨ "Wrapped", 57, 5, false, "", "", 56⟩, ⟨ "Digest", 57, 6, false, "", "", 80⟩], 7, 104, [.int .i64 0, .int .i64 0, .int .i64 0, .int .i64 0, .nils, .nils, .nils], true, true, false⟩ := by kernel_rfl
theorem ty71 : tyOf Tryz.prog 71 = some ⟨.pointer 38, 1, 8, [.nilp], false, true, true⟩ := by kernel_rfl
theorem ty81 : tyOf Tryz.prog 81 = some ⟨.struct #[⟨ "M", 24, 0, false, "", "", 0⟩, ⟨ "Inv", 22, 6, false, "", "", 48⟩, ⟨ "Two", 24, 7, false, "", "", 56⟩], 13, 104, ints .u64 (List.replicate 13 0), true, true, true⟩ := by kernel_rfl
theorem ty90 : tyOf Tryz.prog 90 = some ⟨.struct #[⟨ "certs", 85, 0, false, "", "escutcheon/boot", 0⟩, ⟨ "lists", 86, 1, false, "", "escutcheon/boot", 24⟩, ⟨ "body", 57, 2, false, "", "escutcheon/boot", 48⟩, ⟨ "sig", 88, 3, false, "", "escutcheon/boot", 72⟩, ⟨ "m", 67, 15, false, "", "escutcheon/boot", 168⟩, ⟨ "image", 57, 22, false, "", "escutcheon/boot", 272⟩], 23, 296, [.nils, .nils, .nils, .int .u64 0, .int .u64 0, .int .u64 0, .int .u64 0, .int .u64 0, .int .u64 0, .int .u64 0, .int .u64 0, .int .u64 0, .int .u64 0, .int .u64 0, .int .u64 0, .int .i64 0, .int .i64 0, .int .i64 0, .int .i64 0, .nils, .nils, .nils, .nils], true, true, false⟩ := by kernel_rfl
theorem ty121 : tyOf Tryz.prog 121 = some ⟨.array 12 22, 12, 96, ints .u64 (List.replicate 12 0), true, true, true⟩ := by kernel_rfl
theorem ty124 : tyOf Tryz.prog 124 = some ⟨.array 64 5, 64, 64, ints .u8 (List.replicate 64 0), true, true, true⟩ := by kernel_rfl
theorem ty126 : tyOf Tryz.prog 126 = some ⟨.slice 128, 1, 24, [.nils], false, true, false⟩ := by kernel_rfl
theorem ty128 : tyOf Tryz.prog 128 = some ⟨.struct #[⟨ "Class", 3, 0, false, "", "", 0⟩, ⟨ "Tag", 3, 1, false, "", "", 8⟩, ⟨ "Made", 4, 2, false, "", "", 16⟩, ⟨ "Body", 57, 3, false, "", "", 24⟩, ⟨ "Kids", 126, 4, false, "", "", 48⟩], 5, 72, [.int .i64 0, .int .i64 0, .bool false, .nils, .nils], true, true, false⟩ := by kernel_rfl
theorem ty158 : tyOf Tryz.prog 158 = some ⟨.slice 22, 1, 24, [.nils], false, true, false⟩ := by kernel_rfl
theorem ty189 : tyOf Tryz.prog 189 = some ⟨.struct #[⟨ "b", 57, 0, false, "", "escutcheon/der", 0⟩], 1, 24, [.nils], true, true, false⟩ := by kernel_rfl
theorem ty212 : tyOf Tryz.prog 212 = some ⟨.pointer 214, 1, 8, [.nilp], false, true, true⟩ := by kernel_rfl
theorem ty214 : tyOf Tryz.prog 214 = some ⟨.struct #[⟨ "At", 3, 0, false, "", "", 0⟩, ⟨ "Err", 30, 1, false, "", "", 8⟩], 2, 24, [.int .i64 0, .nili], true, true, true⟩ := by kernel_rfl
end Eng

